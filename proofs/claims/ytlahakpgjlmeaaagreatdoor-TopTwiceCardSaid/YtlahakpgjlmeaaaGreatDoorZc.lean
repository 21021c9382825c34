/- Several texts, one behind the other. Conditions: none. -/
import Derived.Test.YtlahakpgjlmeaaaGreatDoorZb
import Derived.KernelRfl
set_option linter.unusedSimpArgs false
set_option linter.unusedVariables false
section
namespace Go.Ax
open Go Go.Gw
def fnV:Int→Value
 | .ofNat k=> .func (.func k) #[] #[]
 | .negSucc _=> .nilFunc
inductive D:Type 1
 |i (n:Int)
 |u (x:UInt64)
 |w (x:UInt32)
 |b (x:UInt8)
 |r (n:Int)
 |t (p:Bool)
 |s (x:ByteArray)
 |v (x:Value)
 |sl (α:Type) (E:α→List D) (xs:List α)
 |pf (cs:List D)
 |rs (α:Type) (pre post:α→List D) (ch:α→List α) (l:List α)
 |cl (k:Nat) (ds:List D)
 |op (p:Bool) (ds:List D)
 |kp (α:Type) (E:α→List D) (xs:List α)
inductive FR (m:Mem):D→Value→Prop
 |i (n):FR m (.i n) (vI n)
 |u (x):FR m (.u x) (vU x)
 |w (x):FR m (.w x) (vW x)
 |b (x):FR m (.b x) (vB x)
 |r (n):FR m (.r n) (vR n)
 |t (p):FR m (.t p) (vb p)
 |s (x):FR m (.s x) (vS x)
 |v (x) (h:x.oneCell'=true):FR m (.v x) x
 |sl {α:Type} {E:α→List D} {xs:List α} {sz:Nat} {v:Value} {cs:List Value} (h:SlC m sz v cs xs.length) (hE: ∀x∈xs,(E x).length=sz)
  (hl:(xs.flatMap E).length=cs.length) (hr: ∀(k:Nat) (d:D) (u:Value),(xs.flatMap E)[k]? =some d→cs[k]? =some u→FR m d u):FR m (.sl α E xs) v
 |pf {ds:List D} {p:Value} {cs:List Value} (h:PtC m p cs) (ho:p.oneCell'=true) (hl:ds.length=cs.length) (hr: ∀(k:Nat) (d:D) (u:Value),ds[k]? =some d→cs[k]? =some u→FR m d u):FR m (.pf ds) p
 |rs {α:Type} {pre post:α→List D} {ch:α→List α} {l:List α} {v:Value} (h:FR m (.sl α (fun x=>pre x++ .rs α pre post ch (ch x)::post x) l) v):FR m (.rs α pre post ch l) v
 |cl {k:Nat} {ds:List D} {cs:List Value} (hl:ds.length=cs.length) (hr: ∀(i:Nat) (d:D) (u:Value),ds[i]? =some d→cs[i]? =some u→FR m d u):FR m (.cl k ds) (.func (.func k) #[.agg cs.toArray] #[])
 |op0 {ds:List D}:FR m (.op false ds) (.pointer none)
 |op1 {ds:List D} {v:Value} (h:FR m (.pf ds) v):FR m (.op true ds) v
 |kp {α:Type} {E:α→List D} {xs:List α} {v:Value} (h:FR m (.sl α E xs) v) (hc: ∀a n c,v= .slice a n c→c≤n):FR m (.kp α E xs) v
theorem FR.up {m M:Mem}(l:m≤M){d:D}{v:Value}(h:FR m d v):FR M d v:=by
 induction h with
 |i=>exact .i _
 |u=>exact .u _
 |w=>exact .w _
 |b=>exact .b _
 |r=>exact .r _
 |t=>exact .t _
 |s=>exact .s _
 |v _ h=>exact .v _ h
 |sl h hE hl _ ih=>exact .sl (h.up l) hE hl ih
 |pf h ho hl _ ih=>exact .pf (h.up l) ho hl ih
 |rs _ ih=>exact .rs ih
 |cl hl _ ih=>exact .cl hl ih
 |op0=>exact .op0
 |op1 _ ih=>exact .op1 ih
 |kp _ hc ih=>exact .kp ih hc
theorem FR.one {m:Mem}{d:D}{v:Value}(h:FR m d v):v.oneCell'=true:=by
 cases h with
 |v _ h=>exact h
 |sl h=>exact h.one
 |pf h ho=>exact ho
 |rs h=>cases h with|sl h=>exact h.one
 |op0=>rfl
 |op1 h=>cases h with|pf h ho=>exact ho
 |kp h _=>cases h with|sl h=>exact h.one
 |_=>rfl
def vw:D→D
 | .rs α pre post ch l=> .sl α (fun x=>pre x++ .rs α pre post ch (ch x)::post x) l
 |d=>d
theorem Abp {m:Mem}{d:D}{v:Value}(h:FR m d v):FR m (vw d) v:=by
 cases h with
 |rs h=>exact h
 |cl hl hr=>exact .cl hl hr
 |op0=>exact .op0
 |op1 h=>exact .op1 h
 |kp h hc=>exact .kp h hc
 |sl h hE hl hr=>exact .sl h hE hl hr
 |pf h ho hl hr=>exact .pf h ho hl hr
 |v _ h=>exact .v _ h
 |i=>exact .i _
 |u=>exact .u _
 |w=>exact .w _
 |b=>exact .b _
 |r=>exact .r _
 |t=>exact .t _
 |s=>exact .s _
theorem vw_to {m:Mem}{d:D}{v:Value}(h:FR m (vw d) v):FR m d v:=by
 cases d<;>first|exact h|exact .rs h
def FRL (m:Mem)(ds:List D)(vs:List Value):Prop:=ds.length=vs.length∧∀(k:Nat) (d:D) (u:Value),ds[k]? =some d→vs[k]? =some u→FR m d u
theorem FRL.up {m M:Mem}(l:m≤M){ds:List D}{vs:List Value}(h:FRL m ds vs):FRL M ds vs:=⟨h.1,fun k d u a b=>(h.2 k d u a b).up l⟩
theorem FRL.nil {m:Mem}:FRL m [] []:=⟨rfl,fun k d u h=>by simp at h⟩
theorem FRL.cons {m:Mem}{d:D}{v:Value}{ds:List D}{vs:List Value}(h:FR m d v)(k:FRL m ds vs):FRL m (d::ds) (v::vs):=
 ⟨by simp[k.1],fun i d' u a b=>by cases i with
  |zero=>simp at a b; subst a; subst b; exact h
  |succ i=>simp at a b; exact k.2 i _ _ a b⟩
theorem FRL.cons_inv {m:Mem}{d:D}{ds:List D}{vs:List Value}(h:FRL m (d::ds) vs): ∃v us,vs=v::us∧FR m d v∧FRL m ds us:=by
 cases vs with
 |nil=>simp[FRL]at h
 |cons v us=>exact⟨v,us,rfl,h.2 0 d v rfl rfl,by simpa using h.1,fun k d' u a b=>h.2 (k+1) d' u (by simpa using a) (by simpa using b)⟩
theorem FRL.nil_inv {m:Mem}{vs:List Value}(h:FRL m [] vs):vs=[]:=by have:=h.1; simp at this; exact List.length_eq_zero_iff.1 this.symm
theorem FRL.append {m:Mem}{a b:List D}{x y:List Value}(h:FRL m a x)(k:FRL m b y):FRL m (a++b) (x++y):=
 ⟨by simp[h.1,k.1],fun i d u e1 e2=>by
  rw[List.getElem?_append]at e1 e2;rw[h.1]at e1;split at e1
  ·rename_i q; rw[AkA q]at e2; exact h.2 i d u e1 e2
  ·rename_i q; rw[Aky q]at e2; exact k.2 _ d u e1 e2⟩
theorem FRL.take {m:Mem}{a:List D}{x:List Value}(h:FRL m a x)(n:Nat):FRL m (a.take n) (x.take n):=
 ⟨by simp[h.1],fun i d u e1 e2=>by
  rw[List.getElem?_take]at e1 e2;split at e1
  ·rename_i q; rw[AkA q]at e2; exact h.2 i d u e1 e2
  ·cases e1⟩
theorem FRL.drop {m:Mem}{a:List D}{x:List Value}(h:FRL m a x)(n:Nat):FRL m (a.drop n) (x.drop n):=
 ⟨by simp[h.1],fun i d u e1 e2=>by
  rw[List.getElem?_drop]at e1 e2; exact h.2 _ d u e1 e2⟩
theorem FRL.one {m:Mem}{a:List D}{x:List Value}(h:FRL m a x): ∀v∈x,v.oneCell'=true:=by
 intro v hv;obtain⟨k,hk⟩:=List.getElem?_of_mem hv;have hlt:=(AkR.1 hk).1;have: ∃d,a[k]? =some d:=⟨a[k]'(by rw[h.1]; exact hlt),by simp[h.1,hlt]⟩;obtain⟨d,hd⟩:=this;exact(h.2 k d v hd hk).one
def Af8:List (Nat×List D)→Nat→Option (List D)
 | [],_=>none
 |p::l,g=>bif Nat.beq p.1 g then some p.2 else Af8 l g
def PF1:Nat:=214
def GT:List (Nat×List D):=[(0,[.i 1,.v (fnV 409),.i 2,.v (fnV 73),.i 4,.v (fnV 410),.i 12,.v (fnV 411),.i 48,.v (fnV 414)])]
theorem gt_ok {g:Nat}{ds:List D}(h:Af8 GT g=some ds): ∃vs,(g,vs)∈GT0∧∀m,FRL m ds vs:=by
 unfold Af8 GT at h;dsimp only at h;cases hb:Nat.beq 0 g
 ·rw[hb]at h; cases h
 ·have:=Aku hb; subst this;cases h;exact⟨_,AkN,fun m=> .cons (.i _) (.cons (.v _ rfl) (.cons (.i _) (.cons (.v _ rfl) (.cons (.i _) (.cons (.v _ rfl) (.cons (.i _) (.cons (.v _ rfl) (.cons (.i _) (.cons (.v _ rfl) .nil)))))))))⟩
inductive AV:Type 1
 |d (x:D)
 |any
 |no
 |pb (n off:Nat)
 |pe (n:Nat) (j:Int) (sz off:Nat)
 |pa (n:Nat) (j:Int) (sz off:Nat)
 |bs (n off k cap:Nat)
 |ow (n:Nat)
 |ab (n:Nat)
 |agg (cs:List AV)
 |tup (vs:List AV)
 |fn (f:Fn) (pre caps:List AV)
 |gd (g:Nat) (want:Bool) (p:Bool) (x:AV)
def sc:D→Bool
 | .i _=>true
 | .u _=>true
 | .w _=>true
 | .b _=>true
 | .r _=>true
 | .t _=>true
 | .s _=>true
 |_=>false
def scV:D→Value
 | .i n=>vI n
 | .u n=>vU n
 | .w n=>vW n
 | .b n=>vB n
 | .r n=>vR n
 | .t n=>vb n
 | .s n=>vS n
 |_=>undef
def mpV (b:Nat)(l:List (Value×Value)):Ow:=fun h=> ∃ms c,h=PH.one b (.map ms c)∧ms.toList.map (fun e=>(e.key,e.val))=l
def Xd {κ γ:Type}(p:κ→Bool):List (κ×γ)→Nat→Option (Nat×γ)
 | [],_=>none
 |x::r,i=>bif p x.1 then some (i,x.2)else Xd p r (i+1)
def lkG {κ γ:Type}(p:κ→Bool):List (κ×γ)→Option γ
 | []=>none
 |x::r=>bif p x.1 then some x.2 else lkG p r
def upG {κ γ:Type}(p:κ→Bool)(x:κ×γ):List (κ×γ)→List (κ×γ)
 | []=> [x]
 |y::r=>bif p y.1 then x::r else y::upG p x r
inductive HK:Type 1
 |mp (kv:List (ByteArray×Bool))
 |it (s:ByteArray) (pos:Nat)
 |mg (κ γ:Type) (K:κ→List D) (c:γ→D) (kv:List (κ×γ))
 |cb (g:Value) (σ:Type) (R:σ→Mem→Ow) (s:σ)
 |sp (V:Nat→Value) (R:Nat→Ow)
inductive AObj:Type 1
 |box (n:Nat) (cs:List AV) (t:TypeId)
 |row (n:Nat) (sz:Nat) (α:Type) (E:α→List D) (xs:List α)
 |fr (n:Nat) (d:D)
 |hp (n:Nat) (k:HK)
abbrev Env:=Nat→Option Value
def Env.le (η η':Env):Prop:= ∀n v,η n=some v→η' n=some v
theorem Env.le_refl {η:Env}:η.le η:=fun _ _ h=>h
theorem Env.le_tr {a b c:Env}(h:a.le b)(k:b.le c):a.le c:=fun n v e=>k n v (h n v e)
def Env.put (η:Env)(n:Nat)(v:Value):Env:=fun k=>if k=n then some v else η k
theorem Env.le_put {η:Env}{n:Nat}{v:Value}(h:η n=none):η.le (η.put n v):=fun k u e=>by
 unfold Env.put; split
 ·rename_i q; rw[q,h]at e; cases e
 ·exact e
theorem Env.put_self {η:Env}{n:Nat}{v:Value}:η.put n v n=some v:=by simp[Env.put]
theorem Env.put_dom {η:Env}{n k:Nat}{v:Value}(h:η.put n v k≠none):η k≠none∨k=n:=by
 unfold Env.put at h; split at h
 ·rename_i q; exact .inr q
 ·exact .inl h
inductive Rel (η:Env) (m:Mem):AV→Value→Prop
 |d {x v} (h:FR m x v):Rel η m (.d x) v
 |any (v):Rel η m .any v
 |no:Rel η m .no undef
 |pb {n off b} (h:η n=some (pt b 0)):Rel η m (.pb n off) (pt b off)
 |pe {n j sz off v p} (h:η n=some v) (h1:PtO v p (j.toNat*sz+off)):Rel η m (.pe n j sz off) p
 |pa {n j sz off b} (h:η n=some (pt b 0)):Rel η m (.pa n j sz off) (pt b (off+j.toNat*sz))
 |bs {n off k cap b} (h:η n=some (pt b 0)):Rel η m (.bs n off k cap) (.slice (some ⟨b,off,none⟩) k cap)
 |ow {n v} (h:η n=some v) (h1:v.oneCell'=true):Rel η m (.ow n) v
 |ab {n v} (h:η n=some v) (h1:v.oneCell'=true):Rel η m (.ab n) v
 |agg {cs:List AV} {vs:List Value} (hl:cs.length=vs.length) (h: ∀(k:Nat) (c:AV) (u:Value),cs[k]? =some c→vs[k]? =some u→Rel η m c u):Rel η m (.agg cs) (.agg vs.toArray)
 |tup {cs:List AV} {vs:List Value} (hl:cs.length=vs.length) (h: ∀(k:Nat) (c:AV) (u:Value),cs[k]? =some c→vs[k]? =some u→Rel η m c u):Rel η m (.tup cs) (.tuple vs.toArray)
 |fn {f:Fn} {ps cs:List AV} {us vs:List Value} (hp:ps.length=us.length) (hl:cs.length=vs.length) (h1: ∀(k:Nat) (c:AV) (u:Value),ps[k]? =some c→us[k]? =some u→Rel η m c u) (h2: ∀(k:Nat) (c:AV) (u:Value),cs[k]? =some c→vs[k]? =some u→Rel η m c u):
  Rel η m (.fn f ps cs) (.func f us.toArray vs.toArray)
 |gd {g w p x v} (h1:p=true→Rel η m x v) (h0:p=false→v=undef):Rel η m (.gd g w p x) v
theorem Rel.up {η η':Env}{m M:Mem}(he:η.le η')(l:m≤M){a:AV}{v:Value}(h:Rel η m a v):Rel η' M a v:=by
 induction h with
 |d h=>exact .d (h.up l)
 |any=>exact .any _
 |no=>exact .no
 |pb h=>exact .pb (he _ _ h)
 |pe h h1=>exact .pe (he _ _ h) h1
 |pa h=>exact .pa (he _ _ h)
 |bs h=>exact .bs (he _ _ h)
 |ow h h1=>exact .ow (he _ _ h) h1
 |ab h h1=>exact .ab (he _ _ h) h1
 |agg hl _ ih=>exact .agg hl ih
 |tup hl _ ih=>exact .tup hl ih
 |fn hp hl _ _ i1 i2=>exact .fn hp hl i1 i2
 |gd _ h0 ih=>exact .gd ih h0
def BP (η:Env)(m:Mem)(cs:List AV)(vs:List Value):Prop:=cs.length=vs.length∧∀(k:Nat) (c:AV) (u:Value),cs[k]? =some c→vs[k]? =some u→Rel η m c u
theorem BP.up {η η':Env}{m M:Mem}(he:η.le η')(l:m≤M){a:List AV}{v:List Value}(h:BP η m a v):BP η' M a v:=⟨h.1,fun k c u a b=>(h.2 k c u a b).up he l⟩
section
variable {η:Env}{m:Mem}
theorem BP.nil:BP η m [] []:=⟨rfl,fun k d u h=>by simp at h⟩
theorem BP.cons {d:AV}{v:Value}{ds:List AV}{vs:List Value}(h:Rel η m d v)(k:BP η m ds vs):BP η m (d::ds) (v::vs):=
 ⟨by simp[k.1],fun i d' u a b=>by cases i with
  |zero=>simp at a b; subst a; subst b; exact h
  |succ i=>simp at a b; exact k.2 i _ _ a b⟩
theorem BP.cons_inv {d:AV}{ds:List AV}{vs:List Value}(h:BP η m (d::ds) vs): ∃v us,vs=v::us∧Rel η m d v∧BP η m ds us:=by
 cases vs with
 |nil=>simp[BP]at h
 |cons v us=>exact⟨v,us,rfl,h.2 0 d v rfl rfl,by simpa using h.1,fun k d' u a b=>h.2 (k+1) d' u (by simpa using a) (by simpa using b)⟩
theorem BP.nil_inv {vs:List Value}(h:BP η m [] vs):vs=[]:=by have:=h.1; simp at this; exact List.length_eq_zero_iff.1 this.symm
theorem BP.append {a b:List AV}{x y:List Value}(h:BP η m a x)(k:BP η m b y):BP η m (a++b) (x++y):=
 ⟨by simp[h.1,k.1],fun i d u e1 e2=>by
  rw[List.getElem?_append]at e1 e2;rw[h.1]at e1;split at e1
  ·rename_i q; rw[AkA q]at e2; exact h.2 i d u e1 e2
  ·rename_i q; rw[Aky q]at e2; exact k.2 _ d u e1 e2⟩
theorem BP.take {a:List AV}{x:List Value}(h:BP η m a x)(n:Nat):BP η m (a.take n) (x.take n):=
 ⟨by simp[h.1],fun i d u e1 e2=>by
  rw[List.getElem?_take]at e1 e2;split at e1
  ·rename_i q; rw[AkA q]at e2; exact h.2 i d u e1 e2
  ·cases e1⟩
theorem BP.drop {a:List AV}{x:List Value}(h:BP η m a x)(n:Nat):BP η m (a.drop n) (x.drop n):=
 ⟨by simp[h.1],fun i d u e1 e2=>by
  rw[List.getElem?_drop]at e1 e2; exact h.2 _ d u e1 e2⟩
theorem BP.get {a:List AV}{x:List Value}(h:BP η m a x){k:Nat}{c:AV}(hk:a[k]? =some c): ∃u,x[k]? =some u∧Rel η m c u:=by
 have hlt:=(AkR.1 hk).1;refine⟨x[k]'(by rw[←h.1]; exact hlt),by simp[←h.1,hlt],h.2 k c _ hk (by simp[←h.1,hlt])⟩
theorem BP.ofD {ds:List D}{vs:List Value}(h:FRL m ds vs):BP η m (ds.map .d) vs:=
 ⟨by simp[h.1],fun k c u a b=>by
  simp at a; obtain⟨d,hd,rfl⟩:=a; exact .d (h.2 k d u hd b)⟩
theorem Rel.i_inv {n:Int}{v:Value}(h:Rel η m (.d (.i n)) v):v=vI n:=by cases h with|d h=>cases h; rfl
theorem Rel.u_inv {n:UInt64}{v:Value}(h:Rel η m (.d (.u n)) v):v=vU n:=by cases h with|d h=>cases h; rfl
theorem Rel.w_inv {n:UInt32}{v:Value}(h:Rel η m (.d (.w n)) v):v=vW n:=by cases h with|d h=>cases h; rfl
theorem Rel.b_inv {n:UInt8}{v:Value}(h:Rel η m (.d (.b n)) v):v=vB n:=by cases h with|d h=>cases h; rfl
theorem Rel.r_inv {n:Int}{v:Value}(h:Rel η m (.d (.r n)) v):v=vR n:=by cases h with|d h=>cases h; rfl
theorem Rel.t_inv {n:Bool}{v:Value}(h:Rel η m (.d (.t n)) v):v=vb n:=by cases h with|d h=>cases h; rfl
theorem Rel.s_inv {n:ByteArray}{v:Value}(h:Rel η m (.d (.s n)) v):v=vS n:=by cases h with|d h=>cases h; rfl
theorem Rel.pb_inv {n off:Nat}{v:Value}(h:Rel η m (.pb n off) v): ∃b,η n=some (pt b 0)∧v=pt b off:=by cases h with|pb h=>exact⟨_,h,rfl⟩
theorem Rel.bs_inv {n off k cap:Nat}{p:Value}(h:Rel η m (.bs n off k cap) p): ∃b,η n=some (pt b 0)∧p= .slice (some ⟨b,off,none⟩) k cap:=by cases h with|bs h=>exact⟨_,h,rfl⟩
theorem Rel.pa_inv {n:Nat}{j:Int}{sz off:Nat}{p:Value}(h:Rel η m (.pa n j sz off) p): ∃b,η n=some (pt b 0)∧p=pt b (off+j.toNat*sz):=by cases h with|pa h=>exact⟨_,h,rfl⟩
theorem Rel.pe_inv {n:Nat}{j:Int}{sz off:Nat}{p:Value}(h:Rel η m (.pe n j sz off) p): ∃v,η n=some v∧PtO v p (j.toNat*sz+off):=by cases h with|pe h h1=>exact⟨_,h,h1⟩
theorem Rel.ow_inv {n:Nat}{v:Value}(h:Rel η m (.ow n) v):η n=some v∧v.oneCell'=true:=by cases h with|ow h h1=>exact⟨h,h1⟩
theorem Rel.ab_inv {n:Nat}{v:Value}(h:Rel η m (.ab n) v):η n=some v∧v.oneCell'=true:=by cases h with|ab h h1=>exact⟨h,h1⟩
theorem Rel.agg_inv {cs:List AV}{v:Value}(h:Rel η m (.agg cs) v): ∃vs,v= .agg vs.toArray∧BP η m cs vs:=by cases h with|agg hl h=>exact⟨_,rfl,hl,h⟩
theorem Rel.tup_inv {cs:List AV}{v:Value}(h:Rel η m (.tup cs) v): ∃vs,v= .tuple vs.toArray∧BP η m cs vs:=by cases h with|tup hl h=>exact⟨_,rfl,hl,h⟩
theorem Rel.fn_inv {f:Fn}{ps cs:List AV}{v:Value}(h:Rel η m (.fn f ps cs) v): ∃us vs,v= .func f us.toArray vs.toArray∧BP η m ps us∧BP η m cs vs:=by cases h with|fn hp hl h1 h2=>exact⟨_,_,rfl,⟨hp,h1⟩,hl,h2⟩
theorem Rel.gd_inv {g:Nat}{w p:Bool}{x:AV}{v:Value}(h:Rel η m (.gd g w p x) v):(p=true→Rel η m x v)∧(p=false→v=undef):=by cases h with|gd h1 h0=>exact⟨h1,h0⟩
theorem Rel.dd {x:D}{v:Value}(h:Rel η m (.d x) v):FR m x v:=by cases h with|d h=>exact h
end
def dv (d:D):AV:= .d (vw d)
def vw0:AV→AV
 | .d x=> .d (vw x)
 |a=>a
def vw1:AV→AV
 | .d x=> .d (vw x)
 | .agg cs=> .agg (cs.map vw0)
 |a=>a
def vwA:AV→AV
 | .d x=> .d (vw x)
 | .agg cs=> .agg (cs.map vw0)
 | .tup cs=> .tup (cs.map vw1)
 | .gd g w p x=> .gd g w p (vw1 x)
 |a=>a
section
variable {η:Env}{m:Mem}
theorem Abr {a:AV}{v:Value}(h:Rel η m a v):Rel η m (vw0 a) v:=by
 cases a<;>first|exact .d (Abp h.dd)|exact h
theorem BP.mapF {F:AV→AV}(hF: ∀{a:AV} {v:Value},Rel η m a v→Rel η m (F a) v){cs:List AV}{vs:List Value}(h:BP η m cs vs):BP η m (cs.map F) vs:=
 ⟨by simp[h.1],fun k c u a b=>by
  rw[AkP]at a;cases hc:cs[k]? with
  |none=>rw[hc]at a; cases a
  |some c'=>rw[hc]at a; cases a; exact hF (h.2 k c' u hc b)⟩
theorem Abq {a:AV}{v:Value}(h:Rel η m a v):Rel η m (vw1 a) v:=by
 cases a
 case d x=>exact .d (Abp h.dd)
 case agg cs=>
  obtain⟨vs,rfl,k⟩:=h.agg_inv;have:=BP.mapF Abr k;exact .agg this.1 this.2
 all_goals exact h
theorem XB {a:AV}{v:Value}(h:Rel η m a v):Rel η m (vwA a) v:=by
 cases a
 case d x=>exact .d (Abp h.dd)
 case agg cs=>
  obtain⟨vs,rfl,k⟩:=h.agg_inv;have:=BP.mapF Abr k;exact .agg this.1 this.2
 case tup cs=>
  obtain⟨vs,rfl,k⟩:=h.tup_inv;have:=BP.mapF Abq k;exact .tup this.1 this.2
 case gd g w p x=>
  obtain⟨a,b⟩:=h.gd_inv;exact .gd (fun q=>Abq (a q)) b
 all_goals exact h
theorem BP.ofDv {ds:List D}{vs:List Value}(h:FRL m ds vs):BP η m (ds.map dv) vs:=
 ⟨by simp[h.1],fun k c u a b=>by
  simp at a; obtain⟨d,hd,rfl⟩:=a; exact .d (Abp (h.2 k d u hd b))⟩
theorem FRL.ofRelv {ds:List D}{vs:List Value}(h:BP η m (ds.map dv) vs):FRL m ds vs:=
 ⟨by simpa using h.1,fun k d u a b=>vw_to (h.2 k (dv d) u (by rw[AkP,a]; rfl) b).dd⟩
end
def AV.cell:AV→Bool
 | .d _| .pb .. | .ow _| .ab _| .fn .. =>true
 |_=>false
theorem Rel.one {η:Env}{m:Mem}{a:AV}{v:Value}(h:Rel η m a v)(hc:a.cell=true):v.oneCell'=true:=by
 cases h with
 |d h=>exact h.one
 |pb=>rfl
 |ow _ h=>exact h
 |ab _ h=>exact h
 |fn=>rfl
 |_=>cases hc
theorem BP.one {η:Env}{m:Mem}{cs:List AV}{vs:List Value}(h:BP η m cs vs)(hc:cs.all AV.cell=true): ∀v∈vs,v.oneCell'=true:=by
 intro v hv;obtain⟨k,hk⟩:=List.getElem?_of_mem hv;have hlt:=(AkR.1 hk).1;have hd:cs[k]? =some (cs[k]'(by rw[h.1]; exact hlt)):=by simp[h.1,hlt]
 exact(h.2 k _ v hd hk).one (AkI.1 hc _ (List.getElem_mem _))
def WA:List Value→Value
 | [v]=>v
 |l=> .agg l.toArray
def ZD:List AV→AV
 | [a]=>a
 |l=> .agg l
theorem Ajp {η:Env}{m:Mem}{cs:List AV}{vs:List Value}(h:BP η m cs vs):Rel η m (ZD cs) (WA vs):=by
 match cs,vs,h with
 | [],vs,h=>have:=h.nil_inv; subst this; exact .agg rfl h.2
 | [a],vs,h=>
  obtain⟨v,us,rfl,h1,h2⟩:=h.cons_inv;have:=h2.nil_inv; subst this; exact h1
 |a::b::l,vs,h=>
  obtain⟨v,us,rfl,h1,h2⟩:=h.cons_inv;obtain⟨u,us,rfl,h3,h4⟩:=h2.cons_inv;exact .agg h.1 h.2
def hkV:HK→Nat→Value
 | .mp _,b=> .map (some b)
 | .it _ _,b=>pt b 0
 | .mg _ _ _ _ _,b=> .map (some b)
 | .cb g _ _ _,_=>g
 | .sp V _,b=>V b
def hkO:HK→Mem→Nat→Ow
 | .mp kv,_,b=>mpS b kv
 | .it s pos,_,b=>fun h=>h=PH.one b (.stringIter s pos)
 | .cb _ _ R s,m,_=>fun h=> ∃m0,m0≤m∧R s m0 h
 | .sp _ R,_,b=>R b
 | .mg _ _ K c kv,_,b=>mpV b (kv.map fun p=>(WA ((K p.1).map scV),scV (c p.2)))
def rep (η:Env)(m:Mem):AObj→Ow
 | .box n cs t=>fun h=> ∃b vs,η n=some (pt b 0)∧BP η m cs vs∧(∀v∈vs,v.oneCell'=true)∧bx b vs t h
 | .row n sz α E xs=>fun h=> ∃v cs,η n=some v∧v.oneCell'=true∧FRL m (xs.flatMap E) cs∧(∀x∈xs,(E x).length=sz)∧Gw.row sz v cs xs.length h
 | .fr n d=>fun h=> ∃v,η n=some v∧FR m d v∧h=PH.emp
 | .hp n k=>fun h=> ∃b,η n=some (hkV k b)∧hkO k m b h
theorem hkO.up {m M:Mem}(l:m≤M){k:HK}{b:Nat}{h:PH}(q:hkO k m b h):hkO k M b h:=by
 cases k with
 |cb g σ R s=>obtain⟨m0,a,c⟩:=q; exact⟨m0,Mem.tr a l,c⟩
 |_=>exact q
theorem rep.up {η η':Env}{m M:Mem}(he:η.le η')(l:m≤M){o:AObj}{h:PH}(k:rep η m o h):rep η' M o h:=by
 cases o with
 |box n cs t=>obtain⟨b,vs,a,c,d,e⟩:=k; exact⟨b,vs,he _ _ a,c.up he l,d,e⟩
 |row n sz α E xs=>obtain⟨v,cs,a,o,c,d,e⟩:=k; exact⟨v,cs,he _ _ a,o,c.up l,d,e⟩
 |fr n d=>obtain⟨v,a,b,c⟩:=k; exact⟨v,he _ _ a,b.up l,c⟩
 |hp n q=>obtain⟨b,a,c⟩:=k; exact⟨b,he _ _ a,c.up l⟩
theorem YV: ∀{As Bs:List Ow},As.length=Bs.length→(∀(k:Nat) (A B:Ow),As[k]? =some A→Bs[k]? =some B→∀h,A h→B h)→∀h,sepL As h→sepL Bs h
 | [],[],_,_,_,hs=>hs
 |A::As,B::Bs,hl,hi,h,⟨h1,h2,a,s,d,e⟩=>⟨h1,h2,hi 0 A B rfl rfl h1 a,YV (by simpa using hl) (fun k A B p q=>hi (k+1) A B (by simpa using p) (by simpa using q)) h2 s,d,e⟩
 | [],_::_,hl,_,_,_=>by simp at hl
 |_::_,[],hl,_,_,_=>by simp at hl
theorem _root_.Go.Gw.St.imp {m:Mem}{As Bs:List Ow}{w:World}(h:St m As w)(hl:As.length=Bs.length)(hi: ∀(k:Nat) (A B:Ow),As[k]? =some A→Bs[k]? =some B→∀h,A h→B h):St m Bs w:=
 let ⟨x,s,d,g,g',n⟩:=h.own; ⟨h.os,h.tape,h.output,x,YV hl hi x s,d,g,g',n⟩
theorem St.mapUp {m:Mem}{η η':Env}{M1 M2:Mem}{obs:List AObj}{As:List Ow}{w:World}(he:η.le η')(l:M1≤M2)(h:St m (obs.map (rep η M1)++As) w):St m (obs.map (rep η' M2)++As) w:=by
 refine h.imp (by simp) fun k A B a b x hx=> ?_;rw[List.getElem?_append]at a b;simp only[AkW]at a b;split at a
 ·rename_i q;rw[AkA q]at b;simp only[AkP,Akx]at a b;obtain⟨o,ho,rfl⟩:=a;obtain⟨o',ho',rfl⟩:=b;rw[ho]at ho'; cases ho';exact rep.up he l hx
 ·rename_i q;rw[Aky q]at b;rw[a]at b; cases b; exact hx
theorem St.ex {m:Mem}{β:Type}{A:β→Ow}{As:List Ow}{w:World}(h:St m ((fun h=> ∃b,A b h)::As) w): ∃b,St m (A b::As) w:=by
 obtain⟨x,⟨h1,h2,⟨b,a⟩,s,d,e⟩,r⟩:=h.own;exact⟨b,h.os,h.tape,h.output,x,⟨h1,h2,a,s,d,e⟩,r⟩
theorem St.pure {m:Mem}{p:Prop}{A:Ow}{As:List Ow}{w:World}(h:St m ((fun h=>p∧A h)::As) w):p∧St m (A::As) w:=by
 obtain⟨x,⟨h1,h2,⟨b,a⟩,s,d,e⟩,r⟩:=h.own;exact⟨b,h.os,h.tape,h.output,x,⟨h1,h2,a,s,d,e⟩,r⟩
theorem St.to {m:Mem}{A B:Ow}{As:List Ow}{w:World}(h:St m (A::As) w)(hi: ∀h,A h→B h):St m (B::As) w:=by
 obtain⟨x,⟨h1,h2,a,s,d,e⟩,r⟩:=h.own;exact⟨h.os,h.tape,h.output,x,⟨h1,h2,hi _ a,s,d,e⟩,r⟩
abbrev Sl:=List (Nat×AV)
def get:Sl→Nat→AV
 | [],_=> .any
 |p::l,t=>bif Nat.beq p.1 t then p.2 else get l t
def nth {α:Type 1}:List α→Nat→Option α
 | [],_=>none
 |a::_,0=>some a
 |_::l,n+1=>nth l n
theorem Ahp {α:Type 1}: ∀(l:List α) (n:Nat),nth l n=l[n]?
 | [],_=>by simp[nth]
 |_::_,0=>rfl
 |_::l,n+1=>by simpa[nth]using Ahp l n
structure TI where
 u:TypeDesc
 agg:Bool
 sz:Nat
 z:Option Value
 by_:Nat
 inf:TypeInfo
def aggD:TypeDesc→Bool
 | .struct _| .array _ _=>true
 |_=>false
def JK (P:Program)(t:TypeId):Option TI:=match P.info? t,P.underlying t with|some i,some u=>some ⟨u,aggD u,i.size,i.zero,i.bytes,i⟩|_,_=>none
section
variable {P:Program}{t:TypeId}{i:TI}
theorem G5 (h:JK P t=some i):P.info? t=some i.inf∧P.underlying t=some i.u∧i.agg=aggD i.u∧i.sz=i.inf.size∧i.z=i.inf.zero∧i.by_=i.inf.bytes:=by
 unfold JK at h;split at h
 ·rename_i a b ha hb; cases h; exact⟨ha,hb,rfl,rfl,rfl,rfl⟩
 ·cases h
theorem V4 (h:JK P t=some i):P.info? t=some i.inf:=(G5 h).1
theorem O9 (h:P.info? t=some i.inf)(w:World):(typeInfo t).run P w= .ok i.inf w:=by
 simp[typeInfo,h]
theorem Cc (h:JK P t=some i): ∀w,(sizeOf t).run P w= .ok i.sz w:=fun w=>by
 obtain⟨a,_,_,e,_⟩:=G5 h;simp[Go.sizeOf,O9 a,e]
theorem O6 (h:JK P t=some i){z:Value}(hz:i.z=some z): ∀w,(zeroValue t).run P w= .ok z w:=fun w=>by
 obtain⟨a,_,_,_,e,_⟩:=G5 h;rw[e]at hz;simp[zeroValue,O9 a,hz]
theorem KK (h:JK P t=some i): ∀w,(isAgg t).run P w= .ok i.agg w:=fun w=>by
 obtain⟨_,u,e,_⟩:=G5 h;rw[e];simp only[isAgg,AkJ,AkD u];cases i.u<;>simp[aggD]
end
def shlB (x:UInt8)(k:Nat):UInt8:=toB (x.toNat*2^ (min k 8))
theorem s_shlB {ρ:Option Nat}{P:Program}{N:Nat}{D:Dw}{ops:Array Oper}{rest:List Oper}{Q:DJ}{f:Fr}{w:World}{dst:Option Nat}{ty t t':TypeId}{pos:String}{af:Array Edge}{x y:Operand}{m:UInt8}{n:Int}{yk:IntKind}(hx:ev f x=vB m)(hy:ev f y= .int yk n)(hn:0≤n)(h:wpl ρ P N D ops rest Q (upo N f dst (vB (shlB m n.toNat))) w):
  wpl ρ P N D ops (⟨dst,.binOp .shl t x y t',ty,pos,af,none⟩::rest) Q f w:=
 Ou hx hy (.inl rfl) (by simp[Op.shift,Int.not_lt.2 hn,IntKind.bits,Aid,shlB]) h
theorem bv8 (x:UInt8):BitVec.ofInt 8 (x.toNat:Int)=x.toBitVec:=by
 apply BitVec.eq_of_toNat_eq; rw[BitVec.toNat_ofInt]; have:=x.toNat_lt; show((x.toNat:Int)%_).toNat=x.toNat; omega
theorem Ra (n:Nat)(h:n<256):IntKind.u8.wrap (n:Int)=n:=by rw[PR]; omega
theorem s_andB {ρ:Option Nat}{P:Program}{N:Nat}{D:Dw}{ops:Array Oper}{rest:List Oper}{Q:DJ}{f:Fr}{w:World}{dst:Option Nat}{ty t t':TypeId}{pos:String}{af:Array Edge}{x y:Operand}{m n:UInt8}(hx:ev f x=vB m)(hy:ev f y=vB n)(h:wpl ρ P N D ops rest Q (upo N f dst (vB (m&&&n))) w):
  wpl ρ P N D ops (⟨dst,.binOp .and t x y t',ty,pos,af,none⟩::rest) Q f w:=
 Hg hx hy (by
  simp only[binOp,Op.intBits,ne_eq,not_true_eq_false,if_false,IntKind.bits,vB,bv8,←UInt8.toBitVec_and,AkK];rw[Ra _ (by have:=(m&&&n).toBitVec.isLt; exact this)]; rfl) h
theorem s_orB {ρ:Option Nat}{P:Program}{N:Nat}{D:Dw}{ops:Array Oper}{rest:List Oper}{Q:DJ}{f:Fr}{w:World}{dst:Option Nat}{ty t t':TypeId}{pos:String}{af:Array Edge}{x y:Operand}{m n:UInt8}(hx:ev f x=vB m)(hy:ev f y=vB n)(h:wpl ρ P N D ops rest Q (upo N f dst (vB (m|||n))) w):
  wpl ρ P N D ops (⟨dst,.binOp .or t x y t',ty,pos,af,none⟩::rest) Q f w:=
 Hg hx hy (by
  simp only[binOp,Op.intBits,ne_eq,not_true_eq_false,if_false,IntKind.bits,vB,bv8,←UInt8.toBitVec_or,AkK];rw[Ra _ (by have:=(m|||n).toBitVec.isLt; exact this)]; rfl) h
theorem s_xorB {ρ:Option Nat}{P:Program}{N:Nat}{D:Dw}{ops:Array Oper}{rest:List Oper}{Q:DJ}{f:Fr}{w:World}{dst:Option Nat}{ty t t':TypeId}{pos:String}{af:Array Edge}{x y:Operand}{m n:UInt8}(hx:ev f x=vB m)(hy:ev f y=vB n)(h:wpl ρ P N D ops rest Q (upo N f dst (vB (m^^^n))) w):
  wpl ρ P N D ops (⟨dst,.binOp .xor t x y t',ty,pos,af,none⟩::rest) Q f w:=
 Hg hx hy (by
  simp only[binOp,Op.intBits,ne_eq,not_true_eq_false,if_false,IntKind.bits,vB,bv8,←UInt8.toBitVec_xor,AkK];rw[Ra _ (by have:=(m^^^n).toBitVec.isLt; exact this)]; rfl) h
def cst (v:Value):AV:=match v with| .int .i64 n=> .d (.i n)| .int .i32 n=> .d (.r n)| .int .u64 (.ofNat n)=>bif Nat.blt n 18446744073709551616 then .d (.u (UInt64.ofNat n))else .any| .int .u32 (.ofNat n)=>bif Nat.blt n 4294967296 then .d (.w (UInt32.ofNat n))else .any| .int .u8 (.ofNat n)=>bif Nat.blt n 256 then .d (.b (UInt8.ofNat n))else .any| .bool p=> .d (.t p)| .string s=> .d (.s s)|v=>bif v.oneCell' then .d (.v v)else .any
theorem Cy {a b:Nat}(h:Nat.blt a b=true):a<b:=by simpa[Nat.blt_eq]using h
theorem AdU {η:Env}{m:Mem}(v:Value):Rel η m (cst v) v:=by
 unfold cst;split
 ·exact .d (.i _)
 ·exact .d (.r _)
 ·rename_i n;cases h:Nat.blt n 18446744073709551616
  ·exact .any _
  ·have:=Cy h;refine .d ?_;have e:(Value.int .u64 (Int.ofNat n))=vU (UInt64.ofNat n):=by
    simp only[vU,UInt64.toNat_ofNat',Ak0 this]; rfl
   rw[e]; exact .u _
 ·rename_i n;cases h:Nat.blt n 4294967296
  ·exact .any _
  ·have:=Cy h;refine .d ?_;have e:(Value.int .u32 (Int.ofNat n))=vW (UInt32.ofNat n):=by
    simp only[vW,UInt32.toNat_ofNat',Ak0 this]; rfl
   rw[e]; exact .w _
 ·rename_i n;cases h:Nat.blt n 256
  ·exact .any _
  ·have:=Cy h;refine .d ?_;have e:(Value.int .u8 (Int.ofNat n))=vB (UInt8.ofNat n):=by
    simp only[vB,UInt8.toNat_ofNat',Ak0 this]; rfl
   rw[e]; exact .b _
 ·exact .d (.t _)
 ·exact .d (.s _)
 ·cases h:v.oneCell'
  ·exact .any _
  ·exact .d (.v _ h)
def aev (sl:Sl):Operand→AV
 | .tmp t=>get sl t
 | .const v=>cst v
 | .global g=> .d (.v (.pointer (some ⟨g,0,none⟩)))
 | .func k=> .fn (.func k) [] []
section
variable {η:Env}{m:Mem}{sl:Sl}{f:Fr}
theorem Am (h: ∀t,Rel η m (get sl t) (f t))(x:Operand):Rel η m (aev sl x) (ev f x):=by
 cases x with
 |tmp t=>exact h t
 |const v=>exact AdU v
 |global g=>exact .d (.v _ rfl)
 |func k=>exact .fn (us:=[]) (vs:=[]) rfl rfl (fun _ _ _ h=>by simp at h) (fun _ _ _ h=>by simp at h)
end
def toI:AV→Option (IntKind×Int)
 | .d (.i n)=>some (.i64,n)
 | .d (.u x)=>some (.u64,(x.toNat:Int))
 | .d (.w x)=>some (.u32,(x.toNat:Int))
 | .d (.b x)=>some (.u8,(x.toNat:Int))
 | .d (.r n)=>some (.i32,n)
 | .d (.v (.int k n))=>some (k,n)
 |_=>none
def OK (sl:Sl)(x:Operand):Option (IntKind×Int):=match x with| .const (.int k n)=>some (k,n)|x=>toI (aev sl x)
def kc:IntKind→Nat
 | .i8=>0| .i16=>1| .i32=>2| .i64=>3| .u8=>4| .u16=>5| .u32=>6| .u64=>7
theorem kc_inj {j k:IntKind}(h:Nat.beq (kc j) (kc k)=true):j=k:=by
 cases j<;>cases k<;>first|rfl|(simp[kc]at h)
def cmpV:BinOp→Int→Int→Option Bool
 | .eql,m,n=>some (m==n)
 | .neq,m,n=>some (m !=n)
 | .lss,m,n=>some (decide (m<n))
 | .leq,m,n=>some (decide (m≤n))
 | .gtr,m,n=>some (decide (m>n))
 | .geq,m,n=>some (decide (m≥n))
 |_,_,_=>none
theorem Aio {η:Env}{m:Mem}{a:AV}{v:Value}{k:IntKind}{n:Int}(h:toI a=some (k,n))(r:Rel η m a v):v= .int k n:=by
 cases a with
 |d x=>
  by_cases hv: ∃u,x= .v u
  ·obtain⟨u,rfl⟩:=hv;cases u<;>simp only[toI,Akv,Akt,reduceCtorEq]at h;obtain⟨rfl,rfl⟩:=h;have:=r.dd;cases this; rfl
  cases x<;>simp only[toI,Akv,Akt,reduceCtorEq]at h<;>first|obtain⟨rfl,rfl⟩:=h|exact absurd ⟨_,rfl⟩ hv
  ·exact r.i_inv
  ·exact r.u_inv
  ·exact r.w_inv
  ·exact r.b_inv
  ·exact r.r_inv
 |_=>simp[toI]at h
theorem B6 {η:Env}{m:Mem}{sl:Sl}{f:Fr}{x:Operand}{k:IntKind}{n:Int}(h:OK sl x=some (k,n))(r: ∀t,Rel η m (get sl t) (f t)):ev f x= .int k n:=by
 unfold OK at h;split at h
 ·cases h; rfl
 ·exact Aio h (Am r _)
def ariV:BinOp→AV→AV→Option D
 | .add,.d (.i m),.d (.i n)=>some (.i (w64 (m+n)))
 | .sub,.d (.i m),.d (.i n)=>some (.i (w64 (m-n)))
 | .mul,.d (.i m),.d (.i n)=>some (.i (w64 (m*n)))
 | .and,.d (.i m),.d (.i n)=>some (.i (Akl m n))
 | .or,.d (.i m),.d (.i n)=>some (.i (AaD m n))
 | .xor,.d (.i m),.d (.i n)=>some (.i (Aib m n))
 | .add,.d (.u m),.d (.u n)=>some (.u (m+n))
 | .sub,.d (.u m),.d (.u n)=>some (.u (m-n))
 | .mul,.d (.u m),.d (.u n)=>some (.u (m*n))
 | .and,.d (.u m),.d (.u n)=>some (.u (m&&&n))
 | .or,.d (.u m),.d (.u n)=>some (.u (m|||n))
 | .xor,.d (.u m),.d (.u n)=>some (.u (m^^^n))
 | .and,.d (.w m),.d (.w n)=>some (.w (m&&&n))
 | .add,.d (.w m),.d (.w n)=>some (.w (m+n))
 | .add,.d (.b m),.d (.b n)=>some (.b (m+n))
 | .sub,.d (.b m),.d (.b n)=>some (.b (m-n))
 | .mul,.d (.b m),.d (.b n)=>some (.b (m*n))
 | .and,.d (.b m),.d (.b n)=>some (.b (m&&&n))
 | .or,.d (.b m),.d (.b n)=>some (.b (m|||n))
 | .xor,.d (.b m),.d (.b n)=>some (.b (m^^^n))
 | .eql,.d (.s m),.d (.s n)=>some (.t (eqS m n))
 | .neq,.d (.s m),.d (.s n)=>some (.t (!eqS m n))
 |_,_,_=>none
def shV:BinOp→AV→IntKind→Int→Option D
 | .shl,.d (.i m),_,n=>some (.i (NY m n.toNat))
 | .shr,.d (.i m),_,n=>some (.i (BE m n.toNat))
 | .shl,.d (.u m),_,n=>some (.u (JL m n.toNat))
 | .shl,.d (.b m),_,n=>some (.b (shlB m n.toNat))
 | .shr,.d (.u m),_,n=>some (.u (Fu m n.toNat))
 | .shr,.d (.w m),_,n=>some (.w (shrW m n.toNat))
 | .shr,.d (.b m),_,n=>some (.b (Ae3 m n.toNat))
 |_,_,_,_=>none
def quoV:BinOp→AV→AV→Option D
 | .quo,.d (.i m),.d (.i n)=>some (.i (w64 (m.tdiv n)))
 | .rem,.d (.i m),.d (.i n)=>some (.i (m.tmod n))
 | .quo,.d (.u m),.d (.u n)=>some (.u (m/n))
 | .rem,.d (.u m),.d (.u n)=>some (.u (m%n))
 |_,_,_=>none
def isSh:BinOp→Bool
 | .shl| .shr=>true
 |_=>false
def isQ:BinOp→Bool
 | .quo| .rem=>true
 |_=>false
def nzC:Operand→Bool
 | .const (.int _ (.ofNat (n+1)))=>true
 |_=>false
def nnC (sl:Sl)(x:Operand):Bool:=
 match x with
 | .const (.int _ (.ofNat _))=>true
 |x=>match aev sl x with
  | .d (.u _)| .d (.w _)| .d (.b _)=>true
  |_=>false
def pkA (agg:Bool)(cs:List AV):AV:=bif agg then .agg cs else match cs with| []=> .any|c::_=>c
section
variable {ρ:Option Nat}{P:Program}{N:Nat}{D0:Dw}{ops:Array Oper}{rest:List Oper}{Q:DJ}{f:Fr}{w w':World}{v:Value}
variable {dst:Option Nat}{ty t t':TypeId}{pos:String}{af:Array Edge}{x y c a b:Operand}
variable {η:Env}{m:Mem}{sl:Sl}
theorem cmp_ok {op:BinOp}{k:IntKind}{p q:Int}{r:Bool}(h:cmpV op p q=some r)(hx:ev f x= .int k p)(hy:ev f y= .int k q)
  (hk:wpl ρ P N D0 ops rest Q (upo N f dst (vb r)) w):wpl ρ P N D0 ops (⟨dst,.binOp op t x y t',ty,pos,af,none⟩::rest) Q f w:=by
 cases op<;>simp only[cmpV,Akv,reduceCtorEq]at h<;>subst h
 ·exact s_eql hx hy hk
 ·exact s_neq hx hy hk
 ·exact Aiy hx hy hk
 ·exact s_leq hx hy hk
 ·exact Aiz hx hy hk
 ·exact s_geq hx hy hk
theorem Ah5 {op:BinOp}{p q:AV}{r:D}{vx vy:Value}(h:ariV op p q=some r)(hx:Rel η m p (ev f x))(hy:Rel η m q (ev f y))
  (hk: ∀u,Rel η m (.d r) u→wpl ρ P N D0 ops rest Q (upo N f dst u) w):wpl ρ P N D0 ops (⟨dst,.binOp op t x y t',ty,pos,af,none⟩::rest) Q f w:=by
 unfold ariV at h;split at h<;>first|cases h|skip
 ·exact s_addI hx.i_inv hy.i_inv (hk _ (.d (.i _)))
 ·exact Wa hx.i_inv hy.i_inv (hk _ (.d (.i _)))
 ·exact s_mulI hx.i_inv hy.i_inv (hk _ (.d (.i _)))
 ·exact s_andI hx.i_inv hy.i_inv (hk _ (.d (.i _)))
 ·exact s_orI hx.i_inv hy.i_inv (hk _ (.d (.i _)))
 ·exact s_xorI hx.i_inv hy.i_inv (hk _ (.d (.i _)))
 ·exact s_addU hx.u_inv hy.u_inv (hk _ (.d (.u _)))
 ·exact s_subU hx.u_inv hy.u_inv (hk _ (.d (.u _)))
 ·exact s_mulU hx.u_inv hy.u_inv (hk _ (.d (.u _)))
 ·exact s_andU hx.u_inv hy.u_inv (hk _ (.d (.u _)))
 ·exact s_orU hx.u_inv hy.u_inv (hk _ (.d (.u _)))
 ·exact s_xorU hx.u_inv hy.u_inv (hk _ (.d (.u _)))
 ·exact s_andW hx.w_inv hy.w_inv (hk _ (.d (.w _)))
 ·exact s_addW hx.w_inv hy.w_inv (hk _ (.d (.w _)))
 ·exact s_addB hx.b_inv hy.b_inv (hk _ (.d (.b _)))
 ·exact s_subB hx.b_inv hy.b_inv (hk _ (.d (.b _)))
 ·exact s_mulB hx.b_inv hy.b_inv (hk _ (.d (.b _)))
 ·exact s_andB hx.b_inv hy.b_inv (hk _ (.d (.b _)))
 ·exact s_orB hx.b_inv hy.b_inv (hk _ (.d (.b _)))
 ·exact s_xorB hx.b_inv hy.b_inv (hk _ (.d (.b _)))
 ·exact s_eqlT hx.s_inv hy.s_inv (hk _ (.d (.t _)))
 ·exact s_neqT hx.s_inv hy.s_inv (hk _ (.d (.t _)))
theorem sh_ok {op:BinOp}{p:AV}{k:IntKind}{n:Int}{r:D}(h:shV op p k n=some r)(hx:Rel η m p (ev f x))(hy:ev f y= .int k n)(hn:0≤n)
  (hk: ∀u,Rel η m (.d r) u→wpl ρ P N D0 ops rest Q (upo N f dst u) w):wpl ρ P N D0 ops (⟨dst,.binOp op t x y t',ty,pos,af,none⟩::rest) Q f w:=by
 unfold shV at h;split at h<;>first|cases h|skip
 ·exact s_shlI hx.i_inv hy hn (hk _ (.d (.i _)))
 ·exact s_shrI hx.i_inv hy hn (hk _ (.d (.i _)))
 ·exact s_shlU hx.u_inv hy hn (hk _ (.d (.u _)))
 ·exact s_shlB hx.b_inv hy hn (hk _ (.d (.b _)))
 ·exact s_shrU hx.u_inv hy hn (hk _ (.d (.u _)))
 ·exact s_shrW hx.w_inv hy hn (hk _ (.d (.w _)))
 ·exact s_shrB hx.b_inv hy hn (hk _ (.d (.b _)))
theorem Acl {op:BinOp}{p q:AV}{k:IntKind}{n:Int}{r:D}(h:quoV op p q=some r)(hx:Rel η m p (ev f x))(hy:Rel η m q (ev f y))(hi:ev f y= .int k n)(hn:n≠0)
  (hk: ∀u,Rel η m (.d r) u→wpl ρ P N D0 ops rest Q (upo N f dst u) w):wpl ρ P N D0 ops (⟨dst,.binOp op t x y t',ty,pos,af,none⟩::rest) Q f w:=by
 unfold quoV at h;split at h<;>first|cases h|skip
 ·have e:=hy.i_inv; rw[hi]at e; cases e; exact s_quoI hx.i_inv hi hn (hk _ (.d (.i _)))
 ·have e:=hy.i_inv; rw[hi]at e; cases e; exact s_remI hx.i_inv hi hn (hk _ (.d (.i _)))
 ·have e:=hy.u_inv; rw[hi]at e; cases e;exact s_quoU hx.u_inv hi (fun e=>by subst e; exact hn rfl) (hk _ (.d (.u _)))
 ·have e:=hy.u_inv; rw[hi]at e; cases e;exact s_remU hx.u_inv hi (fun e=>by subst e; exact hn rfl) (hk _ (.d (.u _)))
end
abbrev Eqs:=List (Bool×Bool)
def EqsOk:Eqs→Prop
 | []=>True
 |p::l=>p.1=p.2∧EqsOk l
theorem EqsOk.app: ∀{a b:Eqs},EqsOk (a++b)↔EqsOk a∧EqsOk b
 | [],b=>by simp[EqsOk]
 |p::a,b=>by simp[EqsOk,EqsOk.app (a:=a),and_assoc]
theorem EqsOk.of: ∀{a:Eqs},a.map (·.1)=a.map (·.2)→EqsOk a
 | [],_=>trivial
 |p::a,h=>by simp at h; exact⟨h.1,EqsOk.of (by simpa using h.2)⟩
abbrev Fz:=List (Nat×D)
def AjN:Fz→Nat→Option D
 | [],_=>none
 |p::l,n=>bif Nat.beq p.1 n then some p.2 else AjN l n
def fzOk (η:Env)(m:Mem)(fz:Fz):Prop:= ∀n d,AjN fz n=some d→∃v,η n=some v∧FR m d v
def res (fz:Fz):AV→AV
 | .ow n=>match AjN fz n with
  |some d=> .d d
  |none=> .ow n
 |a=>a
def rv (fz:Fz)(sl:Sl)(x:Operand):AV:=res fz (aev sl x)
section
variable {η:Env}{m:Mem}{fz:Fz}{sl:Sl}{f:Fr}
theorem UN (h:fzOk η m fz){a:AV}{v:Value}(r:Rel η m a v):Rel η m (res fz a) v:=by
 unfold res;split
 ·rename_i n;split
  ·rename_i d hd; obtain⟨u,e,hf⟩:=h n d hd; rw[r.ow_inv.1]at e; cases e; exact .d hf
  ·exact r
 ·exact r
theorem My (h:fzOk η m fz)(hr: ∀t,Rel η m (get sl t) (f t))(x:Operand):Rel η m (rv fz sl x) (ev f x):=UN h (Am hr x)
end
theorem fzOk.up {η η':Env}{m M:Mem}{fz:Fz}(he:η.le η')(l:m≤M)(h:fzOk η m fz):fzOk η' M fz:=
 fun n d e=>let ⟨v,a,b⟩:=h n d e; ⟨v,he _ _ a,b.up l⟩
def kn:AV→Option Bool
 | .d (.v (.bool v))=>some v
 |_=>none
theorem TJ {η:Env}{m:Mem}{a:AV}{v:Value}{b:Bool}(h:kn a=some b)(r:Rel η m a v):v= .bool b:=by
 unfold kn at h;split at h
 ·cases h; have:=r.dd; cases this; rfl
 ·cases h
def Ai2 (sl:Sl)(c a b:Operand):Option (AV×Eqs):=
 match kn (aev sl c)with
 |some true=>some (aev sl a,[])
 |some false=>some (aev sl b,[])
 |none=>
 match aev sl c with
 | .d (.t p)=>
  match b with
  | .const (.bool false)=>
   match aev sl a with
   | .gd _ _ q (.d (.t r))=>some (.d (.t (p&&r)),[(p,q)])
   | .d (.t r)=>some (.d (.t (p&&r)),[])
   |_=>none
  |b=>
   match a with
   | .const (.bool true)=>
    match aev sl b with
    | .gd _ _ q (.d (.t r))=>some (.d (.t (p||r)),[(!p,q)])
    | .d (.t r)=>some (.d (.t (p||r)),[])
    |_=>none
   |_=>none
 |_=>none
def unV (fz:Fz)(sl:Sl)(op:UnOp)(x:Operand):Option AV:=match op,aev sl x with| .not,.d (.t p)=>some (.d (.t (!p)))| .not,.d (.v (.bool p))=>some (.d (.t (!p)))| .neg,.d (.i n)=>some (.d (.i (w64 (-n))))| .neg,.d (.u n)=>some (.d (.u (toU (-(n.toNat:Int)))))| .neg,.d (.w n)=>some (.d (.w (toW (-(n.toNat:Int)))))| .neg,.d (.b n)=>some (.d (.b (toB (-(n.toNat:Int)))))|_,_=>none
def binV (P:Program)(sl:Sl)(op:BinOp)(t:TypeId)(x y:Operand):Option AV:=
 match OK sl x,OK sl y with
 |some (k,m),some (j,n)=>
  bif Nat.beq (kc k) (kc j)then
   match cmpV op m n with
   |some r=>some (.d (.t r))
   |none=>match ariV op (aev sl x) (aev sl y)with
    |some r=>some (.d r)
    |none=>
     bif isSh op&&nnC sl y then(match shV op (aev sl x) j n with|some r=>some (.d r)|none=>none)
     else bif isQ op&&nzC y then(match quoV op (aev sl x) (aev sl y)with|some r=>some (.d r)|none=>none)
     else none
  else bif isSh op&&nnC sl y then(match shV op (aev sl x) j n with|some r=>some (.d r)|none=>none)else none
 |_,_=>
  match op,aev sl x,aev sl y with
  | .eql,.d (.t p),.d (.t q)=>(match P.underlying t with|some .bool=>some (.d (.t (p==q)))|_=>none)
  | .neq,.d (.t p),.d (.t q)=>(match P.underlying t with|some .bool=>some (.d (.t (p !=q)))|_=>none)
  |op,p,q=>match ariV op p q with
   |some r=>some (.d r)
   |none=>none
def Aj8 (P:Program)(sl:Sl)(t t':TypeId)(x:Operand):Option AV:=match OK sl x,P.underlying t,P.underlying t' with|some (_,n),some _,some (.int .i64)=>some (.d (.i (w64 n)))|some (_,n),some _,some (.int .u64)=>some (.d (.u (toU n)))|some (_,n),some _,some (.int .u32)=>some (.d (.w (toW n)))|some (_,n),some _,some (.int .u8)=>some (.d (.b (toB n)))|some (_,n),some _,some (.int .i8)=>some (.d (.v (.int .i8 (IntKind.i8.wrap n))))|_,_,_=>none
def X1 (P:Program)(e:TypeId)(cs:List AV)(o:Nat):Option AV:=
 match JK P e with
 |some i=>
  let d:=(cs.drop o).take i.sz
  bif Nat.beq d.length i.sz&&(i.agg||Nat.beq i.sz 1)then some (pkA i.agg d)else none
 |none=>none
def Adz (P:Program)(sl:Sl)(t:TypeId)(x:Operand)(i:Nat):Option AV:=
 match aev sl x,P.underlying t with
 | .agg cs,some (.struct fs)=>
  match fs.toList[i]? with
  |some fd=>X1 P fd.type cs fd.offset
  |none=>none
 |_,_=>none
def AjS (P:Program)(sl:Sl)(t:TypeId)(x:Operand)(i:Nat):Option AV:=
 match P.underlying t with
 |some (.struct fs)=>
  match fs.toList[i]? with
  |some fd=>
   match JK P fd.type with
   |some ti=>bif Nat.ble 1 ti.sz then
     match aev sl x with
     | .pb n off=>some (.pb n (off+fd.offset))
     | .pe n j sz off=>some (.pe n j sz (off+fd.offset))
     | .d (.pf cs)=>some (.d (.pf (cs.drop fd.offset)))
     |_=>none
    else none
   |none=>none
  |none=>none
 |_=>none
def natC:Operand→Option Nat
 | .const (.int _ (.ofNat n))=>some n
 |_=>none
def AjB (P:Program)(sl:Sl)(t:TypeId)(x y:Operand):Option AV:=
 match aev sl x,natC y,P.underlying t with
 | .pb b off,some j,some (.array n e)=>
  match JK P e with
  |some i=>bif Nat.blt j n then some (.pb b (off+j*i.sz))else none
  |none=>none
 | .d (.pf cs),some j,some (.array n e)=>
  match JK P e with
  |some i=>bif Nat.blt j n then some (.d (.pf (cs.drop (j*i.sz))))else none
  |none=>none
 |_,_,_=>none
def Ajx (P:Program)(sl:Sl)(t:TypeId)(x y:Operand):Option AV:=
 match aev sl x,aev sl y,P.underlying t with
 | .bs b off k _,.d (.i (.ofNat j)),some (.slice e)=>
  match JK P e with
  |some i=>bif Nat.blt j k then some (.pb b (off+j*i.sz))else none
  |none=>none
 |_,_,_=>none
def Ajz (P:Program)(sl:Sl)(t:TypeId)(x y:Operand):Option AV:=match Ajx P sl t x y with|some r=>some r|none=>AjB P sl t x y
def Air (P:Program)(sl:Sl)(t:TypeId)(x:Operand)(lo hi mx:Option Operand):Option AV:=
 match aev sl x,lo,hi,mx,P.underlying t with
 | .pb b off,none,some y,none,some (.array n e)=>match natC y,JK P e with
  |some k,some _=>bif Nat.ble k n then some (.bs b off k n)else none
  |_,_=>none
 |_,_,_,_,_=>none
def Aim (P:Program)(sl:Sl)(t:TypeId)(x:Operand):Option AV:=match aev sl x,P.underlying t with| .bs b off k _,some (.array n _)=>bif Nat.ble n k then some (.pb b off)else none|_,_=>none
def idxV (P:Program)(sl:Sl)(t:TypeId)(x y:Operand):Option AV:=
 match aev sl x,natC y,P.underlying t with
 | .agg cs,some j,some (.array n e)=>
  match JK P e with
  |some i=>bif Nat.blt j n then X1 P e cs (j*i.sz)else none
  |none=>none
 |_,_,_=>none
def ldfV (P:Program)(sl:Sl)(t:TypeId)(x:Operand):Option AV:=
 match aev sl x,JK P t with
 | .d (.pf cs),some i=>
  let d:=(cs.take i.sz)
  bif Nat.beq d.length i.sz&&(i.agg||Nat.beq i.sz 1)then some (pkA i.agg (d.map .d))else none
 |_,_=>none
def lenV (P:Program)(fz:Fz)(sl:Sl)(x:Operand)(t:TypeId):Option AV:=
 match P.underlying t with
 |some (.slice _)=>(match rv fz sl x with| .d (.sl _ _ xs)=>some (.d (.i (xs.length:Int)))| .bs _ _ k _=>some (.d (.i (k:Int)))|_=>none)
 |some (.array n _)=>some (.d (.i (n:Int)))
 |some .string=>(match aev sl x with| .d (.s s)=>some (.d (.i (s.size:Int)))|_=>none)
 |_=>none
def mmV (b:Builtin)(p q:AV):Option AV:=match b,p,q with| .min,.d (.i m),.d (.i n)=>some (.d (.i (Q5 m n)))| .max,.d (.i m),.d (.i n)=>some (.d (.i (maxI m n)))| .min,.d (.u m),.d (.u n)=>some (.d (.u (minU m n)))| .max,.d (.u m),.d (.u n)=>some (.d (.u (P9 m n)))|_,_,_=>none
def bltV (P:Program)(fz:Fz)(sl:Sl)(b:Builtin)(xs:List Operand)(ts:List TypeId):Option AV:=match b,xs,ts with| .len,[x],[t]=>lenV P fz sl x t|b,[x,y],_=>mmV b (aev sl x) (aev sl y)|_,_,_=>none
def Aen:List AV→Option (List D)
 | []=>some []
 | .d x::l=>match Aen l with
  |some r=>some (x::r)
  |none=>none
 |_::_=>none
def fnAV (f:Fn)(ps cs:List AV):AV:=
 match f,ps,cs with
 | .func k,[.agg as],[]=>match Aen as with
  |some ds=> .d (.cl k ds)
  |none=> .fn f ps cs
 |_,_,_=> .fn f ps cs
theorem Z8: ∀{as:List AV} {ds:List D},Aen as=some ds→as=ds.map .d
 | [],ds,h=>by cases h; rfl
 |a::l,ds,h=>by
  cases a with
  |d x=>
   unfold Aen at h;split at h
   ·rename_i r hr; cases h; rw[Z8 hr]; rfl
   ·cases h
  |_=>
   unfold Aen at h;cases h
theorem Agm {η:Env}{m:Mem}{f:Fn}{ps cs:List AV}{v:Value}(h:Rel η m (.fn f ps cs) v):Rel η m (fnAV f ps cs) v:=by
 unfold fnAV;split
 ·rename_i k as;split
  ·rename_i ds hd;obtain⟨us,vs,rfl,h1,h2⟩:=h.fn_inv;have:=h2.nil_inv; subst this;obtain⟨u,us',rfl,a1,a2⟩:=h1.cons_inv;have:=a2.nil_inv; subst this;obtain⟨ws,rfl,hw⟩:=a1.agg_inv;rw[Z8 hd]at hw;refine .d (.cl (by simpa using hw.1) fun i d u e1 e2=> ?_);exact(hw.2 i (.d d) u (by rw[AkP,e1]; rfl) e2).dd
  ·exact h
 ·exact h
def AiV (P:Program)(fz:Fz)(sl:Sl):Op→Option (AV×Eqs)
 | .move x| .assign x=>some (aev sl x,[])
 | .pick c a b=>Ai2 sl c a b
 | .unOp op _ x=>(unV fz sl op x).map fun a=>(a,[])
 | .binOp op t x y _=>(binV P sl op t x y).map fun a=>(a,[])
 | .convert t t' x=>(Aj8 P sl t t' x).map fun a=>(a,[])
 | .extract x i=>match aev sl x with
  | .tup vs=>(nth vs i).map fun a=>(a,[])
  |_=>none
 | .field t x i=>(Adz P sl t x i).map fun a=>(a,[])
 | .fieldAddr t x i=>(AjS P sl t x i).map fun a=>(a,[])
 | .indexAddr t x y=>(Ajz P sl t x y).map fun a=>(a,[])
 | .index t x y=>(idxV P sl t x y).map fun a=>(a,[])
 | .slice t x lo hi mx=>(Air P sl t x lo hi mx).map fun a=>(a,[])
 | .sliceToArrayPointer t x=>(Aim P sl t x).map fun a=>(a,[])
 | .load t x=>(ldfV P sl t x).map fun a=>(a,[])
 | .nilCheck x=>match aev sl x with
  | .pb n off=>some (.pb n off,[])
  |_=>none
 | .makeFunc fn fst cap=>some (fnAV fn (fst.toList.map (aev sl)) (cap.toList.map (aev sl)),[])
 | .call c=>match c.callee with
  | .builtin b=>(bltV P fz sl b c.args.toList c.argTypes.toList).map fun a=>(a,[])
  |_=>none
 |_=>none
section
variable {ρ:Option Nat}{P:Program}{N:Nat}{D0:Dw}{ops:Array Oper}{rest:List Oper}{Q:DJ}{f:Fr}{w w':World}{v:Value}
variable {dst:Option Nat}{ty t t':TypeId}{pos:String}{af:Array Edge}{x y c a b:Operand}
variable {η:Env}{m:Mem}{sl:Sl}{fz:Fz}{As:List Ow}
theorem Ai1 {r:AV}{es:Eqs}(h:Ai2 sl c a b=some (r,es))(he:EqsOk es)(hr: ∀t,Rel η m (get sl t) (f t))
  (hk: ∀u,Rel η m r u→wpl ρ P N D0 ops rest Q (upo N f dst u) w):wpl ρ P N D0 ops (⟨dst,.pick c a b,ty,pos,af,none⟩::rest) Q f w:=by
 unfold Ai2 at h;split at h
 ·rename_i hkn; cases h;exact RV (TJ hkn (Am hr c)) rfl (hk _ (Am hr a))
 ·rename_i hkn; cases h;exact RW (TJ hkn (Am hr c)) rfl (hk _ (Am hr b))
 split at h
 ·rename_i p hc;have ec:ev f c=vb p:=by have:=Am hr c; rw[hc]at this; exact this.t_inv
  split at h
  ·split at h
   ·rename_i q r' ha;cases h;have ra:=Am hr a; rw[ha]at ra;have e1:=he.1;cases p with
    |true=>
     have e:=(ra.gd_inv.1 e1.symm).t_inv;exact RV ec e (hk _ (by cases r'<;>exact .d (.t _)))
    |false=>exact RW ec rfl (hk _ (.d (.t _)))
   ·rename_i r' ha;cases h;have ra:=Am hr a; rw[ha]at ra;cases p with
    |true=>exact RV ec ra.t_inv (hk _ (by cases r'<;>exact .d (.t _)))
    |false=>exact RW ec rfl (hk _ (.d (.t _)))
   ·cases h
  ·split at h
   ·split at h
    ·rename_i q r' hb;cases h;have rb:=Am hr b; rw[hb]at rb;have e1:=he.1;cases p with
     |true=>exact RV ec rfl (hk _ (.d (.t _)))
     |false=>
      have e:=(rb.gd_inv.1 e1.symm).t_inv;exact RW ec e (hk _ (by cases r'<;>exact .d (.t _)))
    ·rename_i r' hb;cases h;have rb:=Am hr b; rw[hb]at rb;cases p with
     |true=>exact RV ec rfl (hk _ (.d (.t _)))
     |false=>exact RW ec rb.t_inv (hk _ (by cases r'<;>exact .d (.t _)))
    ·cases h
   ·cases h
 ·cases h
theorem un_ok {op:UnOp}{r:AV}(h:unV fz sl op x=some r)(hr: ∀t,Rel η m (get sl t) (f t))
  (hk: ∀u,Rel η m r u→wpl ρ P N D0 ops rest Q (upo N f dst u) w):wpl ρ P N D0 ops (⟨dst,.unOp op t x,ty,pos,af,none⟩::rest) Q f w:=by
 have rx:=Am hr x;unfold unV at h;split at h<;>first|(rename_i e; rw[e]at rx; cases h)|cases h
 ·exact s_not rx.t_inv (hk _ (.d (.t _)))
 ·exact s_not (TJ rfl rx) (hk _ (.d (.t _)))
 ·exact s_negI rx.i_inv (hk _ (.d (.i _)))
 ·exact s_negU rx.u_inv (hk _ (.d (.u _)))
 ·exact s_negW rx.w_inv (hk _ (.d (.w _)))
 ·exact s_negB rx.b_inv (hk _ (.d (.b _)))
theorem nnC_ok {k:IntKind}{n:Int}(h:nnC sl y=true)(hi:OK sl y=some (k,n)):0≤n:=by
 unfold nnC at h;split at h
 ·simp only[OK,Akv,Akt]at hi; obtain⟨_,rfl⟩:=hi; exact Ald _
 ·unfold OK at hi;split at hi
  ·rename_i h1 _ _ _ _;simp only[aev,cst]at h;split at h<;>first|cases h|skip
   all_goals (rename_i e; split at e<;>first|cases e|skip)
   all_goals (rename_i q; first|(cases q; cases hi; exact Ald _)|skip)
   all_goals (rename_i q2; cases hb:Value.oneCell' (Value.int k n)<;>rw[hb]at e<;>cases e)
  ·split at h<;>first|cases h|skip
   all_goals (rename_i e; rw[e]at hi; simp only[toI,Akv,Akt]at hi; obtain⟨_,rfl⟩:=hi; exact Ald _)
theorem bin_ok {op:BinOp}{r:AV}(h:binV P sl op t x y=some r)(hr: ∀t,Rel η m (get sl t) (f t))
  (hk: ∀u,Rel η m r u→wpl ρ P N D0 ops rest Q (upo N f dst u) w):wpl ρ P N D0 ops (⟨dst,.binOp op t x y t',ty,pos,af,none⟩::rest) Q f w:=by
 have rx:=Am hr x;have ry:=Am hr y;have shc: ∀{j:IntKind} {n:Int},OK sl y=some (j,n)→(bif isSh op&&nnC sl y then(match shV op (aev sl x) j n with|some r=>some (AV.d r)|none=>none)else none)=some r→wpl ρ P N D0 ops (⟨dst,.binOp op t x y t',ty,pos,af,none⟩::rest) Q f w:=by
  intro j n hy h;cases hb:isSh op&&nnC sl y
  ·rw[hb]at h; cases h
  ·rw[hb]at h;simp only[cond_true]at h;split at h
   ·rename_i r' e; cases h;exact sh_ok e rx (B6 hy hr) (nnC_ok (by simp at hb; exact hb.2) hy) hk
   ·cases h
 unfold binV at h;split at h
 ·rename_i k m' j n hx hy;cases hb:Nat.beq (kc k) (kc j)
  ·rw[hb]at h; exact shc hy h
  ·rw[hb]at h;simp only[cond_true]at h;have:=kc_inj hb; subst this;split at h
   ·rename_i r' e; cases h;exact cmp_ok e (B6 hx hr) (B6 hy hr) (hk _ (.d (.t _)))
   ·split at h
    ·rename_i r' e; cases h;exact Ah5 (vx:=undef) (vy:=undef) e rx ry hk
    ·cases hb2:isSh op&&nnC sl y
     ·rw[hb2]at h;simp only[cond_false]at h;cases hb3:isQ op&&nzC y
      ·rw[hb3]at h; cases h
      ·rw[hb3]at h;simp only[cond_true]at h;split at h
       ·rename_i r' e; cases h;refine Acl e rx ry (B6 hy hr) ?_ hk;intro e0; subst e0;simp only[Aks]at hb3;have h3:=hb3.2;unfold nzC at h3;split at h3
        ·simp only[OK,Akv,Akt]at hy; have:=hy.2; simp at this; omega
        ·cases h3
       ·cases h
     ·exact shc hy (by rw[hb2]; rw[hb2]at h; exact h)
 ·split at h
  ·rename_i p q e1 e2;rw[e1]at rx; rw[e2]at ry;split at h
   ·rename_i hu; cases h; exact s_eqlb hu rx.t_inv ry.t_inv (hk _ (.d (.t _)))
   ·cases h
  ·rename_i p q e1 e2;rw[e1]at rx; rw[e2]at ry;split at h
   ·rename_i hu; cases h; exact s_neqb hu rx.t_inv ry.t_inv (hk _ (.d (.t _)))
   ·cases h
  ·split at h
   ·rename_i r' e; cases h;exact Ah5 (vx:=undef) (vy:=undef) e rx ry hk
   ·cases h
theorem Aj7 {r:AV}(h:Aj8 P sl t t' x=some r)(hr: ∀t,Rel η m (get sl t) (f t))
  (hk: ∀u,Rel η m r u→wpl ρ P N D0 ops rest Q (upo N f dst u) w):wpl ρ P N D0 ops (⟨dst,.convert t t' x,ty,pos,af,none⟩::rest) Q f w:=by
 unfold Aj8 at h;split at h<;>first|(rename_i e1 e2 e3; cases h)|cases h
 ·exact AiF (B6 e1 hr) e2 e3 (hk _ (.d (.i _)))
 ·exact AiE (B6 e1 hr) e2 e3 (hk _ (.d (.u _)))
 ·exact AiD (B6 e1 hr) e2 e3 (hk _ (.d (.w _)))
 ·exact AiG (B6 e1 hr) e2 e3 (hk _ (.d (.b _)))
 ·exact Wd (B6 e1 hr) e2 e3 (hk _ (.d (.v _ rfl)))
theorem R4 {agg:Bool}{cs:List AV}{vs:List Value}(h:BP η m cs vs)(h1:agg=false→cs.length=1):Rel η m (pkA agg cs) (pk agg vs):=by
 cases agg with
 |true=>exact .agg h.1 h.2
 |false=>
  have hl:=h1 rfl;match cs,vs,h with
  | [c],[v],h=>exact h.2 0 c v rfl rfl
  | [c],[],h=>simp[BP]at h
  | [c],_::_::_,h=>simp[BP]at h
theorem R5 {e:TypeId}{cs:List AV}{vs:List Value}{o:Nat}{r:AV}(h:X1 P e cs o=some r)(hv:BP η m cs vs):
  ∃agg sz d,(∀w,(isAgg e).run P w= .ok agg w)∧(∀w,(sizeOf e).run P w= .ok sz w)∧(vs.drop o).take sz=d∧d.length=sz∧(agg=false→sz=1)∧Rel η m r (pk agg d):=by
 unfold X1 at h;split at h
 ·rename_i i hi;simp only at h;cases hb:Nat.beq ((cs.drop o).take i.sz).length i.sz&&(i.agg||Nat.beq i.sz 1)
  ·rw[hb]at h; cases h
  ·rw[hb]at h;cases h;simp only[Aks,Nat.beq_eq,Alh]at hb;have rl:=(hv.drop o).take i.sz;refine⟨i.agg,i.sz,_,KK hi,Cc hi,rfl,?_,fun e=> ?_,R4 rl fun e=> ?_⟩
   ·rw[←rl.1]; exact hb.1
   ·rcases hb.2 with q|q
    ·rw[e]at q; cases q
    ·exact q
   ·rcases hb.2 with q|q
    ·rw[e]at q; cases q
    ·rw[hb.1,q]
 ·cases h
theorem Agr {i:Nat}{r:AV}(h:Adz P sl t x i=some r)(hr: ∀t,Rel η m (get sl t) (f t))
  (hk: ∀u,Rel η m r u→wpl ρ P N D0 ops rest Q (upo N f dst u) w):wpl ρ P N D0 ops (⟨dst,.field t x i,ty,pos,af,none⟩::rest) Q f w:=by
 have rx:=Am hr x;unfold Adz at h;split at h
 ·rename_i cs fs e1 e2;rw[e1]at rx;obtain⟨vs,ev_,rl⟩:=rx.agg_inv;split at h
  ·rename_i fd hf;obtain⟨agg,sz,d,ha,hs,hd,hl,h1,hR⟩:=R5 h rl;exact AiB ev_ e2 (by simpa using hf) ha hs hd hl h1 (hk _ hR)
  ·cases h
 ·cases h
theorem FRL.ptc {ds:List D}{p:Value}{n:Nat}(h:FR m (.pf ds) p): ∃cs,PtC m p cs∧FRL m ds cs:=by
 cases h with
 |pf h ho hl hr=>exact⟨_,h,hl,hr⟩
theorem PtC.isPt {p:Value}{cs:List Value}(h:PtC m p cs):p.oneCell'=true:=by obtain⟨b,o,_,_,_,rfl,_⟩:=h; rfl
theorem AjR {i:Nat}{r:AV}(h:AjS P sl t x i=some r)(hr: ∀t,Rel η m (get sl t) (f t))
  (hk: ∀u,Rel η m r u→wpl ρ P N D0 ops rest Q (upo N f dst u) w):wpl ρ P N D0 ops (⟨dst,.fieldAddr t x i,ty,pos,af,none⟩::rest) Q f w:=by
 have rx:=Am hr x;unfold AjS at h;split at h
 ·rename_i fs hu;split at h
  ·rename_i fd hf;split at h
   ·rename_i ti hti;cases hb:Nat.ble 1 ti.sz
    ·rw[hb]at h; cases h
    ·rw[hb]at h;simp only[cond_true]at h;have hsz: ∀w,(sizeOf fd.type).run P w= .ok ((ti.sz-1)+1) w:=fun w=>by
      rw[Cc hti w]; have:=AkG hb; congr 1; omega
     split at h
     ·rename_i n off e; cases h;rw[e]at rx;obtain⟨b,hb,hv⟩:=rx.pb_inv;exact AiA hv hu (by simpa using hf) rfl hsz (hk _ (.pb hb))
     ·rename_i n j sz off e; cases h;rw[e]at rx;obtain⟨v,hv,hp⟩:=rx.pe_inv;refine s_fldO rfl hp hu (by simpa using hf) rfl hsz fun p' hp'=>hk _ (.pe hv (by rw[←Alo]; exact hp'))
     ·rename_i cs e; cases h;rw[e]at rx;obtain⟨vs,hp,hl⟩:=FRL.ptc (n:=0) rx.dd;refine s_fldM rfl hp hu (by simpa using hf) rfl hsz fun p' hp'=>hk _ (.d (.pf hp' (PtC.isPt hp') (hl.drop _).1 (hl.drop _).2))
     ·cases h
   ·cases h
  ·cases h
 ·cases h
theorem Rk {j:Nat}(h:natC y=some j): ∃k,ev f y= .int k (j:Int):=by
 unfold natC at h;split at h
 ·cases h; exact⟨_,rfl⟩
 ·cases h
theorem Af5 {r:AV}(h:AjB P sl t x y=some r)(hr: ∀t,Rel η m (get sl t) (f t))
  (hk: ∀u,Rel η m r u→wpl ρ P N D0 ops rest Q (upo N f dst u) w):wpl ρ P N D0 ops (⟨dst,.indexAddr t x y,ty,pos,af,none⟩::rest) Q f w:=by
 have rx:=Am hr x;unfold AjB at h;split at h
 ·rename_i b off j n e h1 h2 h3;rw[h1]at rx;obtain⟨k,hj⟩:=Rk (f:=f) h2;split at h
  ·rename_i i hi;cases hb:Nat.blt j n
   ·rw[hb]at h; cases h
   ·rw[hb]at h; cases h;obtain⟨bb,hb',hv⟩:=rx.pb_inv;have:=Cy hb;exact Ahb hv hj h3 (Cc hi) (Ald _) (by omega) (hk _ (.pb hb'))
  ·cases h
 ·rename_i cs j n e h1 h2 h3;rw[h1]at rx;obtain⟨k,hj⟩:=Rk (f:=f) h2;split at h
  ·rename_i i hi;cases hb:Nat.blt j n
   ·rw[hb]at h; cases h
   ·rw[hb]at h; cases h;obtain⟨vs,hp,hl⟩:=FRL.ptc (n:=0) rx.dd;have:=Cy hb;exact AbW rfl hj hp h3 (Cc hi) (Ald _) (by omega) fun p hp'=>hk _ (.d (.pf hp' (PtC.isPt hp') (hl.drop _).1 (hl.drop _).2))
  ·cases h
 ·cases h
theorem Ajw {r:AV}(h:Ajx P sl t x y=some r)(hr: ∀t,Rel η m (get sl t) (f t))
  (hk: ∀u,Rel η m r u→wpl ρ P N D0 ops rest Q (upo N f dst u) w):wpl ρ P N D0 ops (⟨dst,.indexAddr t x y,ty,pos,af,none⟩::rest) Q f w:=by
 have rx:=Am hr x;have ry:=Am hr y;unfold Ajx at h;split at h
 ·rename_i b off k c j e h1 h2 h3;rw[h1]at rx; rw[h2]at ry;split at h
  ·rename_i i hi;cases hb:Nat.blt j k
   ·rw[hb]at h; cases h
   ·rw[hb]at h; cases h;obtain⟨bb,hb',hv⟩:=rx.bs_inv;have hj:=ry.i_inv;have:=Cy hb;refine Aq (v:=pt bb (off+j*i.sz)) (w':=w) rfl (fun _ e=>by cases e) ?_ (hk _ (.pb hb'));simp only[execOp,hv,hj,Instr.indexAt,asIntOf,AkJ,AkK,AkF,AkD h3];have hlt:(Int.ofNat j)<(k:Int):=by simp only[Int.ofNat_eq_natCast]; omega
    simp[hlt,Cc hi,Eg];omega
  ·cases h
 ·cases h
theorem Ajy {r:AV}(h:Ajz P sl t x y=some r)(hr: ∀t,Rel η m (get sl t) (f t))
  (hk: ∀u,Rel η m r u→wpl ρ P N D0 ops rest Q (upo N f dst u) w):wpl ρ P N D0 ops (⟨dst,.indexAddr t x y,ty,pos,af,none⟩::rest) Q f w:=by
 unfold Ajz at h;split at h
 ·rename_i r' e; cases h; exact Ajw e hr hk
 ·exact Af5 h hr hk
theorem idx_ok {r:AV}(h:idxV P sl t x y=some r)(hr: ∀t,Rel η m (get sl t) (f t))
  (hk: ∀u,Rel η m r u→wpl ρ P N D0 ops rest Q (upo N f dst u) w):wpl ρ P N D0 ops (⟨dst,.index t x y,ty,pos,af,none⟩::rest) Q f w:=by
 have rx:=Am hr x;unfold idxV at h;split at h
 ·rename_i cs j n e h1 h2 h3;rw[h1]at rx;obtain⟨vs,ev_,rl⟩:=rx.agg_inv;obtain⟨k,hj⟩:=Rk (f:=f) h2;split at h
  ·rename_i i hi;cases hb:Nat.blt j n
   ·rw[hb]at h; cases h
   ·rw[hb]at h;simp only[cond_true]at h;have:=Cy hb;obtain⟨agg,sz,d,ha,hs,hd,hl,h1',hR⟩:=R5 h rl;have:sz=i.sz:=by have a:=hs default; rw[Cc hi]at a; cases a; rfl
    subst this;exact AbV ev_ hj (Ald _) (by omega) h3 ha hs hd hl h1' (hk _ hR)
  ·cases h
 ·cases h
theorem ldf_ok {r:AV}(h:ldfV P sl t x=some r)(hr: ∀t,Rel η m (get sl t) (f t))(hS:St m As w)
  (hk: ∀u,Rel η m r u→wpl ρ P N D0 ops rest Q (upo N f dst u) w):wpl ρ P N D0 ops (⟨dst,.load t x,ty,pos,af,none⟩::rest) Q f w:=by
 have rx:=Am hr x;unfold ldfV at h;split at h
 ·rename_i cs i h1 hi;rw[h1]at rx;simp only at h;cases hb:Nat.beq (cs.take i.sz).length i.sz&&(i.agg||Nat.beq i.sz 1)
  ·rw[hb]at h; cases h
  ·rw[hb]at h;cases h;simp only[Aks,Nat.beq_eq,Alh]at hb;obtain⟨vs,hp,hl⟩:=FRL.ptc (n:=0) rx.dd;have rl:=hl.take i.sz;have hlen:(vs.take i.sz).length=i.sz:=by rw[←rl.1]; exact hb.1
   have h1':i.agg=false→i.sz=1:=fun e=>by
    rcases hb.2 with q|q
    ·rw[e]at q; cases q
    ·exact q
   refine s_ldM (cs:=vs.take i.sz) hS rfl hp (by rw[hlen]) (KK hi) (by rw[hlen]; exact Cc hi) (fun e=>by rw[hlen,h1' e]) (hk _ (R4 (.ofD rl) fun e=> ?_));rw[AkW,hb.1,h1' e]
 ·cases h
theorem len_ok {r:AV}(h:lenV P fz sl x t=some r)(hr: ∀t,Rel η m (get sl t) (f t))(hz:fzOk η m fz)
  (hk: ∀u,Rel η m r u→wpl ρ P N D0 ops rest Q (upo N f dst u) w):wpl ρ P N D0 ops (⟨dst,.call {callee:= .builtin .len,args:= #[x],argTypes:= #[t]},ty,pos,af,none⟩::rest) Q f w:=by
 unfold lenV at h;split at h
 ·rename_i e hu;have rx:=My hz hr x;split at h
  ·rename_i α E xs e1; cases h;rw[e1]at rx;have r:=rx.dd;generalize hv:ev f x=v at*;cases r with
   |sl hs=>
    obtain⟨a,c,rfl⟩:=hs.val;exact Wc hv hu (hk _ (.d (.i _)))
  ·rename_i b off k c e1; cases h;rw[e1]at rx;obtain⟨bb,hb',hv⟩:=rx.bs_inv;exact Wc hv hu (hk _ (.d (.i _)))
  ·cases h
 ·rename_i n e hu; cases h; exact s_lenA hu (hk _ (.d (.i _)))
 ·rename_i hu;have rx:=Am hr x;split at h
  ·rename_i s e1; cases h; rw[e1]at rx; exact s_lenS rx.s_inv hu (hk _ (.d (.i _)))
  ·cases h
 ·cases h
theorem mm_ok {bl:Builtin}{p q r:AV}{ats:Array TypeId}(h:mmV bl p q=some r)(hx:Rel η m p (ev f x))(hy:Rel η m q (ev f y))
  (hk: ∀u,Rel η m r u→wpl ρ P N D0 ops rest Q (upo N f dst u) w):wpl ρ P N D0 ops (⟨dst,.call {callee:= .builtin bl,args:= #[x,y],argTypes:=ats},ty,pos,af,none⟩::rest) Q f w:=by
 unfold mmV at h;split at h<;>first|cases h|skip
 ·exact s_minI hx.i_inv hy.i_inv (hk _ (.d (.i _)))
 ·exact s_maxI hx.i_inv hy.i_inv (hk _ (.d (.i _)))
 ·exact s_minU hx.u_inv hy.u_inv (hk _ (.d (.u _)))
 ·exact s_maxU hx.u_inv hy.u_inv (hk _ (.d (.u _)))
theorem blt_ok {bl:Builtin}{xs:Array Operand}{ts:Array TypeId}{r:AV}(h:bltV P fz sl bl xs.toList ts.toList=some r)(hr: ∀t,Rel η m (get sl t) (f t))(hz:fzOk η m fz)
  (hk: ∀u,Rel η m r u→wpl ρ P N D0 ops rest Q (upo N f dst u) w):wpl ρ P N D0 ops (⟨dst,.call {callee:= .builtin bl,args:=xs,argTypes:=ts},ty,pos,af,none⟩::rest) Q f w:=by
 unfold bltV at h;split at h
 ·rename_i x t e1 e2;have e1':xs= #[x]:=by apply Array.ext'; simpa using e1
  have e2':ts= #[t]:=by apply Array.ext'; simpa using e2
  subst e1' e2';exact len_ok h hr hz hk
 ·obtain⟨xs⟩:=xs;simp only at*;subst_vars;exact mm_ok h (Am hr _) (Am hr _) hk
 ·cases h
theorem BP.map_aev (hr: ∀t,Rel η m (Go.Ax.get sl t) (f t)): ∀(xs:List Operand),BP η m (xs.map (aev sl)) (xs.map (ev f))
 | []=> .nil
 |x::xs=> .cons (Am hr x) (BP.map_aev hr xs)
theorem slk_ok {lo hi mx:Option Operand}{r:AV}(h:Air P sl t x lo hi mx=some r)(hr: ∀t,Rel η m (get sl t) (f t))
  (hk: ∀u,Rel η m r u→wpl ρ P N D0 ops rest Q (upo N f dst u) w):wpl ρ P N D0 ops (⟨dst,.slice t x lo hi mx,ty,pos,af,none⟩::rest) Q f w:=by
 have rx:=Am hr x;unfold Air at h;split at h
 ·rename_i b off y n e h1 h3;rw[h1]at rx;split at h
  ·rename_i k i h2 hi;obtain⟨kk,hj⟩:=Rk (f:=f) h2;cases hb:Nat.ble k n
   ·rw[hb]at h; cases h
   ·rw[hb]at h; cases h;obtain⟨bb,hb',hv⟩:=rx.pb_inv;exact UI (k:=k) hv h3 (Cc hi) (.inr ⟨_,by rw[AkL,hj]⟩) (AkG hb) (hk _ (.bs hb'))
  ·cases h
 ·cases h
theorem toa_ok {r:AV}(h:Aim P sl t x=some r)(hr: ∀t,Rel η m (get sl t) (f t))
  (hk: ∀u,Rel η m r u→wpl ρ P N D0 ops rest Q (upo N f dst u) w):wpl ρ P N D0 ops (⟨dst,.sliceToArrayPointer t x,ty,pos,af,none⟩::rest) Q f w:=by
 have rx:=Am hr x;unfold Aim at h;split at h
 ·rename_i b off k c n e h1 h3;rw[h1]at rx;cases hb:Nat.ble n k
  ·rw[hb]at h; cases h
  ·rw[hb]at h; cases h;obtain⟨bb,hb',hv⟩:=rx.bs_inv;exact Aix hv h3 (AkG hb) (hk _ (.pb hb'))
 ·cases h
theorem AiU {op:Op}{r:AV}{es:Eqs}(h:AiV P fz sl op=some (r,es))(he:EqsOk es)(hr: ∀t,Rel η m (get sl t) (f t))(hz:fzOk η m fz)(hS:St m As w)
  (hk: ∀u,Rel η m r u→wpl ρ P N D0 ops rest Q (upo N f dst u) w):wpl ρ P N D0 ops (⟨dst,op,ty,pos,af,none⟩::rest) Q f w:=by
 unfold AiV at h;split at h
 ·cases h; exact s_mv (hk _ (Am hr _))
 ·cases h; exact s_as (hk _ (Am hr _))
 ·exact Ai1 h he hr hk
 ·simp only[Akx,Akt]at h; obtain⟨a,h,rfl,rfl⟩:=h; exact un_ok h hr hk
 ·simp only[Akx,Akt]at h; obtain⟨a,h,rfl,rfl⟩:=h; exact bin_ok h hr hk
 ·simp only[Akx,Akt]at h; obtain⟨a,h,rfl,rfl⟩:=h; exact Aj7 h hr hk
 ·split at h
  ·rename_i i vs e1;simp only[Akx,Akt]at h; obtain⟨a,h,rfl,rfl⟩:=h;have rx:=Am hr (by assumption); rw[e1]at rx;obtain⟨us,hv,rl⟩:=rx.tup_inv;rw[Ahp]at h;obtain⟨u,hu,hR⟩:=rl.get h;exact s_ext hv (by simpa using hu) (hk _ hR)
  ·cases h
 ·simp only[Akx,Akt]at h; obtain⟨a,h,rfl,rfl⟩:=h; exact Agr h hr hk
 ·simp only[Akx,Akt]at h; obtain⟨a,h,rfl,rfl⟩:=h; exact AjR h hr hk
 ·simp only[Akx,Akt]at h; obtain⟨a,h,rfl,rfl⟩:=h; exact Ajy h hr hk
 ·simp only[Akx,Akt]at h; obtain⟨a,h,rfl,rfl⟩:=h; exact idx_ok h hr hk
 ·simp only[Akx,Akt]at h; obtain⟨a,h,rfl,rfl⟩:=h; exact slk_ok h hr hk
 ·simp only[Akx,Akt]at h; obtain⟨a,h,rfl,rfl⟩:=h; exact toa_ok h hr hk
 ·simp only[Akx,Akt]at h; obtain⟨a,h,rfl,rfl⟩:=h; exact ldf_ok h hr hS hk
 ·split at h
  ·rename_i n off e1;cases h;have rx:=Am hr (by assumption); rw[e1]at rx;obtain⟨b,hb,hv⟩:=rx.pb_inv;exact s_nilc hv (hk _ (.pb hb))
  ·cases h
 ·rename_i fn fst cap;cases h;refine s_func (hk _ ?_);have e1:=BP.map_aev hr fst.toList;have e2:=BP.map_aev hr cap.toList;have g:=Rel.fn (f:=fn) e1.1 e2.1 e1.2 e2.2;have a1:(fst.toList.map (ev f)).toArray=fst.map (ev f):=by apply Array.ext'; simp
  have a2:(cap.toList.map (ev f)).toArray=cap.map (ev f):=by apply Array.ext'; simp
  rw[a1,a2]at g;exact Agm g
 ·rename_i c;split at h
  ·rename_i b hb;simp only[Akx,Akt]at h; obtain⟨a,h,rfl,rfl⟩:=h;obtain⟨ce,xs,ts⟩:=c;simp only at hb; subst hb;exact blt_ok h hr hz hk
  ·cases h
 ·cases h
end
abbrev Tok:=Nat×AObj
structure Stp:Type 1 where
 v:AV
 rd:List Tok
 use:List Tok
 made:List Tok
 nx:Nat
 es:Eqs
def reps (η:Env)(m:Mem)(l:List Tok):List Ow:=l.map fun p=>rep η m p.2
theorem AU {η:Env}{m:Mem}{a b:List Tok}:reps η m (a++b)=reps η m a++reps η m b:=by simp[reps]
theorem Ab5 {η:Env}{m:Mem}{a:Tok}{b:List Tok}:reps η m (a::b)=rep η m a.2::reps η m b:=rfl
theorem Ab4 {η:Env}{m:Mem}{a b:List Tok}(h:a.Perm b):(reps η m a).Perm (reps η m b):=h.map _
theorem St.rp {m:Mem}{η:Env}{M:Mem}{a b:List Tok}{As:List Ow}{w:World}(h:St m (reps η M a++As) w)(p:a.Perm b):St m (reps η M b++As) w:=
 h.perm ((Ab4 p).append_right _)
theorem St.ru {m:Mem}{η η':Env}{M1 M2:Mem}{l:List Tok}{As:List Ow}{w:World}(he:η.le η')(le:M1≤M2)(h:St m (reps η M1 l++As) w):St m (reps η' M2 l++As) w:=by
 have:=St.mapUp (obs:=l.map (·.2)) (As:=As) he le (by simpa[reps,List.map_map,Function.comp_def]using h);simpa[reps,List.map_map,Function.comp_def]using this
def Tri (ρ:Option Nat)(P:Program)(N:Nat)(D0:Dw)(ops:Array Oper)(o:Oper)(fz:Fz)(sl:Sl)(nx:Nat)(r:Stp):Prop:=nx≤r.nx∧∀(rest:List Oper) (Q:DJ) (η:Env) (m:Mem) (f:Fr) (w:World) (As:List Ow),(∀t,Rel η m (get sl t) (f t))→fzOk η m fz→(∀n,nx≤n→n<r.nx→η n=none)→St m (reps η m (r.use++r.rd)++As) w→(∀(η':Env) (M:Mem) (w':World) (val:Value),η.le η'→m≤M→(∀n,η' n≠none→η n≠none∨(nx≤n∧n<r.nx))→Rel η' M r.v val→St M (reps η' M (r.made++r.rd)++As) w'→wpl ρ P N D0 ops rest Q (upo N f o.dst val) w')→wpl ρ P N D0 ops (o::rest) Q f w
section
variable {η:Env}{m:Mem}{As:List Ow}{w:World}
theorem St.openBox {n:Nat}{cs:List AV}{t:TypeId}(h:St m (rep η m (.box n cs t)::As) w): ∃b vs,η n=some (pt b 0)∧BP η m cs vs∧(∀v∈vs,v.oneCell'=true)∧St m (bx b vs t::As) w:=by
 obtain⟨b,h⟩:=St.ex h;obtain⟨vs,h⟩:=St.ex h;obtain⟨a,h⟩:=St.pure h;obtain⟨c,h⟩:=St.pure h;obtain⟨d,h⟩:=St.pure h;exact⟨b,vs,a,c,d,h⟩
theorem St.closeBox {n b:Nat}{cs:List AV}{vs:List Value}{t:TypeId}(a:η n=some (pt b 0))(c:BP η m cs vs)(d: ∀v∈vs,v.oneCell'=true)(h:St m (bx b vs t::As) w):St m (rep η m (.box n cs t)::As) w:=
 St.to h fun _ k=>⟨b,vs,a,c,d,k⟩
theorem St.openRow {n sz:Nat}{α:Type}{E:α→List D}{xs:List α}(h:St m (rep η m (.row n sz α E xs)::As) w): ∃v cs,η n=some v∧v.oneCell'=true∧FRL m (xs.flatMap E) cs∧(∀x∈xs,(E x).length=sz)∧St m (Gw.row sz v cs xs.length::As) w:=by
 obtain⟨b,h⟩:=St.ex h;obtain⟨vs,h⟩:=St.ex h;obtain⟨a,h⟩:=St.pure h;obtain⟨c,h⟩:=St.pure h;obtain⟨d,h⟩:=St.pure h;obtain⟨e,h⟩:=St.pure h;exact⟨b,vs,a,c,d,e,h⟩
theorem St.emp {p:Prop}(h:St m ((fun h=>p∧h=PH.emp)::As) w):p∧St m As w:=by
 obtain⟨x,⟨h1,h2,⟨a,rfl⟩,s,d,e⟩,r⟩:=h.own;rw[PH.emp_join]at e;subst e;exact⟨a,h.os,h.tape,h.output,_,s,r⟩
theorem St.emp' {p:Prop}(a:p)(h:St m As w):St m ((fun h=>p∧h=PH.emp)::As) w:=by
 obtain⟨x,s,r⟩:=h.own;exact⟨h.os,h.tape,h.output,x,⟨PH.emp,x,⟨a,rfl⟩,s,PH.disj_symm (PH.disj_emp x),(PH.emp_join x).symm⟩,r⟩
theorem St.openFr {n:Nat}{d:D}(h:St m (rep η m (.fr n d)::As) w):(∃v,η n=some v∧FR m d v)∧St m As w:=by
 refine St.emp (p:= ∃v,η n=some v∧FR m d v) (St.to h fun x k=> ?_);obtain⟨v,a,b,c⟩:=k;exact⟨⟨v,a,b⟩,c⟩
theorem St.closeFr {n:Nat}{d:D}{v:Value}(a:η n=some v)(b:FR m d v)(h:St m As w):St m (rep η m (.fr n d)::As) w:=
 St.to (St.emp' (p:= ∃v,η n=some v∧FR m d v) ⟨v,a,b⟩ h) fun x k=>let ⟨⟨v,a,b⟩,c⟩:=k; ⟨v,a,b,c⟩
theorem St.closeRow {n sz:Nat}{v:Value}{cs:List Value}{α:Type}{E:α→List D}{xs:List α}(a:η n=some v)(b:v.oneCell'=true)(c:FRL m (xs.flatMap E) cs)(d: ∀x∈xs,(E x).length=sz)(h:St m (Gw.row sz v cs xs.length::As) w):St m (rep η m (.row n sz α E xs)::As) w:=
 St.to h fun _ k=>⟨v,cs,a,b,c,d,k⟩
end
def Oj:AV→Option (List AV)
 | .agg cs=>bif cs.all AV.cell then some cs else none
 |a=>bif a.cell then some [a]else none
theorem Wk {v:Value}(h:v.oneCell'=true):v.cells= #[v]:=by cases v<;>first|rfl|(simp[Value.oneCell']at h)
theorem HY {η:Env}{m:Mem}{a:AV}{v:Value}{cs:List AV}(h:Oj a=some cs)(r:Rel η m a v):BP η m cs v.cells.toList∧cs.all AV.cell=true:=by
 have other: ∀{a:AV},Rel η m a v→(bif a.cell then some [a]else none)=some cs→BP η m cs v.cells.toList∧cs.all AV.cell=true:=by
  intro a r h;cases hb:a.cell
  ·rw[hb]at h; cases h
  ·rw[hb]at h; cases h;rw[Wk (r.one hb)];exact⟨.cons r .nil,by simp[hb]⟩
 unfold Oj at h;split at h
 ·rename_i cs';cases hb:cs'.all AV.cell
  ·rw[hb]at h; cases h
  ·rw[hb]at h; cases h;obtain⟨vs,rfl,rl⟩:=r.agg_inv;exact⟨by simpa[Value.cells]using rl,hb⟩
 ·exact other r h
def AObj.nm:AObj→Nat
 | .box n _ _=>n
 | .row n _ _ _ _=>n
 | .fr n _=>n
 | .hp n _=>n
def Fh (t:Nat):List Nat→Bool
 | []=>false
 |a::l=>bif Nat.beq a t then true else Fh t l
theorem Gh {t:Nat}: ∀{l:List Nat},Fh t l=true↔t∈l
 | []=>by simp[Fh]
 |a::l=>by
  unfold Fh;cases h:Nat.beq a t
  ·have:a≠t:=by intro e; subst e; simp at h
   simp[Gh (l:=l),Ne.symm this]
  ·have:a=t:=Aku h;simp[this]
def DY (ts:List Nat)(l:List Tok):List Tok:=l.filter fun p=> !Fh p.1 ts
def zA (P:Program)(e:TypeId):Option (List AV):=
 match JK P e with
 |some i=>match i.z with
  |some z=>let cs:=z.cells.toList.map cst; bif cs.all AV.cell then some cs else none
  |none=>none
 |none=>none
def find (n:Nat):List Tok→Option Tok
 | []=>none
 |p::l=>bif Nat.beq p.2.nm n then some p else find n l
def ldA (P:Program)(t:TypeId)(off:Nat)(cs:List AV):Option AV:=
 match JK P t with
 |some i=>
  let d:=(cs.drop off).take i.sz
  bif Nat.beq d.length i.sz&&(i.agg||Nat.beq i.sz 1)then some (pkA i.agg d)else none
 |none=>none
def putA (P:Program)(t:TypeId)(off:Nat)(cs ds:List AV):Option (List AV):=match JK P t with|some i=>bif Nat.beq i.sz ds.length&&Nat.ble (off+ds.length) cs.length then some (cs.take off++ds++cs.drop (off+ds.length))else none|none=>none
def szsP (P:Program):List Field→Option (List Nat)
 | []=>some []
 |fd::r=>match JK P fd.type,szsP P r with
  |some i,some q=>some (i.sz::q)
  |_,_=>none
def plB (P:Program)(t:TypeId):Option (Nat→Option (Nat×Nat)):=
 match P.underlying t with
 |some (.struct fs)=>match szsP P fs.toList with
  |some ss=>some fun i=>(List.zipWith (fun(fd:Field) s=>(fd.offset,s)) fs.toList ss)[i]?
  |none=>none
 |some (.array _ e)=>match JK P e with
  |some i=>some fun j=>some (j*i.sz,i.sz)
  |none=>none
 |_=>none
def Zb (fz:Fz)(sl:Sl):List (Nat×Operand)→Option (List (Nat×List AV))
 | []=>some []
 |p::l=>match Oj (rv fz sl p.2),Zb fz sl l with
  |some c,some r=>some ((p.1,c)::r)
  |_,_=>none
def Agq (place:Nat→Option (Nat×Nat))(cells:List AV):List (Nat×List AV)→Option (List AV)
 | []=>some cells
 |p::rest=>
  match place p.1 with
  |none=>none
  |some q=>bif Nat.beq p.2.length q.2&&Nat.ble (q.1+p.2.length) cells.length then Agq place (cells.take q.1++p.2++cells.drop (q.1+p.2.length)) rest else none
def Ah0 (P:Program)(fz:Fz)(sl:Sl)(t:TypeId)(parts:List (Nat×Operand)):Option (List AV):=match zA P t,plB P t,Zb fz sl parts with|some z,some pl,some ps=>Agq pl z ps|_,_,_=>none
def eqF (P:Program)(E:TypeId→AV→AV→Option Bool):List Field→List AV→List AV→Option (List Bool)
 | [],_,_=>some []
 |fd::r,cs,ds=>bif fd.name== "_" then none else
  match X1 P fd.type cs fd.offset,X1 P fd.type ds fd.offset with
  |some a,some b=>match E fd.type a b,eqF P E r cs ds with
   |some x,some xs=>some (x::xs)
   |_,_=>none
  |_,_=>none
def eqT (P:Program):Nat→TypeId→AV→AV→Option Bool
 |0,_,_,_=>none
 |f+1,t,a,b=>
  match P.underlying t,a,b with
  |some (.struct fs),.agg cs,.agg ds=>bif P.stoodInHeld t then none else match eqF P (eqT P f) fs.toList cs ds with
   |some bs=>some (bs.all id)
   |none=>none
  |some (.array 2 e),.agg [.d (.u p),.d (.u q)],.agg [.d (.u r),.d (.u s)]=>match P.underlying e,JK P e with
   |some (.int .u64),some i=>bif Nat.beq i.sz 1&& !i.agg then some (G3 (p,q) (r,s))else none
   |_,_=>none
  |some (.int .i64),.d (.i p),.d (.i q)=>some (p==q)
  |some (.int .u64),.d (.u p),.d (.u q)=>some (p==q)
  |some .bool,.d (.t p),.d (.t q)=>some (p==q)
  |some .string,.d (.s p),.d (.s q)=>some (eqS p q)
  |_,_,_=>none
def eqV (P:Program)(sl:Sl)(op:BinOp)(t:TypeId)(x y:Operand):Option Bool:=
 match aev sl x,aev sl y with
 | .agg cs,.agg ds=>bif P.eqGuardType P.depth t then none else match op,eqT P 9 t (.agg cs) (.agg ds)with
  | .eql,some b=>some b
  | .neq,some b=>some (!b)
  |_,_=>none
 |_,_=>none
def Yc (P:Program)(t:TypeId):Bool:=match P.underlying t with|some (.slice e)=>(match P.underlying e with|some (.int .u8)=>true|_=>false)|_=>false
theorem Vb {P:Program}{t:TypeId}(h:Yc P t=true): ∃e,P.underlying t=some (.slice e)∧P.underlying e=some (.int .u8):=by
 unfold Yc at h;split at h
 ·rename_i e h1;split at h
  ·rename_i h2; exact⟨e,h1,h2⟩
  ·cases h
 ·cases h
def XM (P:Program)(fz:Fz)(sl:Sl)(ob:List Tok)(nx:Nat)(op:Op):Option Stp:=
 match AiV P fz sl op with
 |some r=>some ⟨r.1,[],[],[],nx,r.2⟩
 |none=>
  match op with
  | .alloc e=>match zA P e with
   |some cs=>some ⟨.pb nx 0,[],[],[(nx,.box nx cs e)],nx+1,[]⟩
   |none=>none
  | .box e x=>match Oj (rv fz sl x)with
   |some cs=>some ⟨.pb nx 0,[],[],[(nx,.box nx cs e)],nx+1,[]⟩
   |none=>none
  | .load t x=>match aev sl x with
   | .pb n off=>match find n ob with
    |some (i,.box k cs e)=>bif Nat.beq k n then match ldA P t off cs with
      |some a=>some ⟨a,[(i,.box k cs e)],[],[],nx,[]⟩
      |none=>none
     else none
    |_=>none
   |_=>none
  | .store t x y=>match aev sl x,Oj (rv fz sl y)with
   | .pb n off,some ds=>match find n ob with
    |some (i,.box k cs e)=>bif Nat.beq k n then match putA P t off cs ds with
      |some cs'=>some ⟨.no,[],[(i,.box k cs e)],[(nx,.box k cs' e)],nx+1,[]⟩
      |none=>none
     else none
    |_=>none
   |_,_=>none
  | .call c=>match c.callee,c.args.toList,c.argTypes.toList with
   | .builtin .len,[x],[t]=>match rv fz sl x,P.underlying t with
    | .ow n,some (.slice _)=>match find n ob with
     |some (i,.row k sz α E xs)=>bif Nat.beq k n then some ⟨.d (.i (xs.length:Int)),[(i,.row k sz α E xs)],[],[],nx,[]⟩else none
     |some (i,.fr k (.sl α E xs))=>bif Nat.beq k n then some ⟨.d (.i (xs.length:Int)),[(i,.fr k (.sl α E xs))],[],[],nx,[]⟩else none
     |_=>none
    |_,_=>none
   |_,_,_=>none
  | .build t parts=>match Ah0 P fz sl t parts.toList with
   |some cs=>some ⟨.agg cs,[],[],[],nx,[]⟩
   |none=>none
  | .binOp op t x y _=>match eqV P sl op t x y with
   |some b=>some ⟨.d (.t b),[],[],[],nx,[]⟩
   |none=>none
  | .convert t t2 x=>match aev sl x with
   | .ow n=>match find n ob with
    |some (i,.row k sz α E (y::ys))=>bif Nat.beq k n&&(Nat.beq sz 1&&(Nat.beq t t2&&Yc P t))then some ⟨.ow k,[],[(i,.row k sz α E (y::ys))],[(nx,.row k sz α E (y::ys))],nx+1,[]⟩else none
    |_=>none
   |_=>none
  |_=>none
section
variable {ρ:Option Nat}{P:Program}{N:Nat}{D0:Dw}{ops:Array Oper}{fz:Fz}{sl:Sl}{nx:Nat}{r:Stp}
variable {dst:Option Nat}{ty t t':TypeId}{pos:String}{af:Array Edge}{x y c a b:Operand}
theorem Aia {e:TypeId}{cs:List AV}(h:zA P e=some cs){η:Env}{m:Mem}: ∃z,(∀w,(zeroValue e).run P w= .ok z w)∧BP η m cs z.cells.toList∧cs.all AV.cell=true:=by
 unfold zA at h;split at h
 ·rename_i i hi;split at h
  ·rename_i z hz;simp only at h;cases hb:(z.cells.toList.map cst).all AV.cell
   ·rw[hb]at h; cases h
   ·rw[hb]at h; cases h;refine⟨z,O6 hi hz,⟨by simp,fun k c u e1 e2=> ?_⟩,hb⟩;rw[AkP,e2]at e1;cases e1;exact AdU u
  ·cases h
 ·cases h
theorem Ahx {cs:List AV}{off:Nat}{a:AV}(h:ldA P t off cs=some a){η:Env}{m:Mem}{vs:List Value}(hv:BP η m cs vs):
  ∃agg d,(∀w,(isAgg t).run P w= .ok agg w)∧(∀w,(sizeOf t).run P w= .ok d.length w)∧(vs.drop off).take d.length=d∧(agg=false→d.length=1)∧Rel η m a (pk agg d):=by
 unfold ldA at h;split at h
 ·rename_i i hi;simp only at h;cases hb:Nat.beq ((cs.drop off).take i.sz).length i.sz&&(i.agg||Nat.beq i.sz 1)
  ·rw[hb]at h; cases h
  ·rw[hb]at h;cases h;simp only[Aks,Nat.beq_eq,Alh]at hb;have rl:=(hv.drop off).take i.sz;have hlen:((vs.drop off).take i.sz).length=i.sz:=by rw[←rl.1]; exact hb.1
   have h1':i.agg=false→i.sz=1:=fun e=>by
    rcases hb.2 with q|q
    ·rw[e]at q; cases q
    ·exact q
   exact⟨i.agg,(vs.drop off).take i.sz,KK hi,by rw[hlen]; exact Cc hi,by rw[hlen],fun e=>by rw[hlen,h1' e],R4 rl fun e=>by rw[hb.1,h1' e]⟩
 ·cases h
theorem FG {n:Nat}: ∀{l:List Tok} {q:Tok},find n l=some q→q∈l
 | [],_,h=>by cases h
 |p::l,q,h=>by
  unfold find at h;cases hb:Nat.beq p.2.nm n
  ·rw[hb]at h; exact AkT _ (FG h)
  ·rw[hb]at h; cases h; exact AkN
theorem AbB: ∀{fs:List Field} {ss:List Nat},szsP P fs=some ss→Aeu P fs ss
 | [],ss,h=>by cases h; trivial
 |fd::r,ss,h=>by
  unfold szsP at h;split at h
  ·rename_i i q h1 h2; cases h; exact⟨Cc h1,AbB h2⟩
  ·cases h
theorem plB_ok {pl:Nat→Option (Nat×Nat)}(h:plB P t=some pl):OJ P t pl:=by
 unfold plB at h;split at h
 ·rename_i fs hu;split at h
  ·rename_i ss hs; cases h; exact .str hu (AbB hs)
  ·cases h
 ·rename_i n e hu;split at h
  ·rename_i i hi; cases h; exact .arr hu (Cc hi)
  ·cases h
 ·cases h
theorem ZK {pl:Nat→Option (Nat×Nat)}{η:Env}{m:Mem}{f:Fr}(hr: ∀t,Rel η m (get sl t) (f t))(hz:fzOk η m fz): ∀{l:List (Nat×Operand)} {ps:List (Nat×List AV)},Zb fz sl l=some ps→
  ∀{cells out:List AV} {vs:List Value},BP η m cells vs→Agq pl cells ps=some out→∃o,WQ pl vs (l.map fun p=>(p.1,ev f p.2,(ev f p.2).cells.toList))=some o∧BP η m out o
 | [],ps,h,cells,out,vs,hc,hf=>by cases h; cases hf; exact⟨vs,rfl,hc⟩
 |p::l,ps,h,cells,out,vs,hc,hf=>by
  unfold Zb at h;split at h
  ·rename_i c r h1 h2;cases h;obtain⟨b1,-⟩:=HY h1 (My hz hr p.2);unfold Agq at hf;simp only at hf;cases hp:pl p.1 with
   |none=>rw[hp]at hf; cases hf
   |some q=>
    rw[hp]at hf;simp only at hf;cases hb:Nat.beq c.length q.2&&Nat.ble (q.1+c.length) cells.length
    ·rw[hb]at hf; cases hf
    ·rw[hb]at hf;simp only[cond_true]at hf;obtain⟨o,e1,e2⟩:=ZK hr hz h2 (((hc.take q.1).append b1).append (hc.drop (q.1+c.length))) hf;refine⟨o,?_,e2⟩;rw[AkZ];unfold WQ;simp only[hp];rw[←b1.1,←hc.1,hb];simp only[cond_true];exact e1
  ·cases h
theorem ZN {η:Env}{m:Mem}: ∀{f:Nat} {t:TypeId} {a b:AV} {u v:Value} {r:Bool},eqT P f t a b=some r→Rel η m a u→Rel η m b v→EqV P (f+1) t u v r
 |0,t,a,b,u,v,r,h,_,_=>by cases h
 |f+1,t,a,b,u,v,r,h,ha,hb=>by
  have ih:= @ZN η m f;unfold eqT at h;split at h
  ·rename_i fs cs ds hu;cases hs:P.stoodInHeld t
   ·rw[hs]at h;simp only[cond_false]at h;split at h
    ·rename_i bs hF;cases h;obtain⟨us,rfl,hl⟩:=ha.agg_inv;obtain⟨vs,rfl,hl'⟩:=hb.agg_inv;refine EqV.struct (k:=f+1) hu hs ?_;clear hu hs ha hb;generalize fs.toList=l at*;induction l generalizing bs with
     |nil=>cases hF; trivial
     |cons fd l ihl=>
      unfold eqF at hF;cases hn:fd.name== "_"
      ·rw[hn]at hF;simp only[cond_false]at hF;split at hF
       ·rename_i x y h1 h2;split at hF
        ·rename_i z zs h3 h4;cases hF;obtain⟨agg,sz,d,p1,p2,p3,p4,p5,p6⟩:=R5 h1 hl;obtain⟨agg',sz',d',q1,q2,q3,q4,q5,q6⟩:=R5 h2 hl';refine⟨⟨by simpa using hn,Gw.pk agg d,Gw.pk agg' d',fun w=>LW p1 p2 p3 p4 p5,fun w=>LW q1 q2 q3 q4 q5,ih h3 p6 q6⟩,ihl _ h4⟩
        ·cases hF
       ·cases hF
      ·rw[hn]at hF; cases hF
    ·cases h
   ·rw[hs]at h; cases h
  ·rename_i e p q r' s hu;split at h
   ·rename_i i he hi;cases hc:Nat.beq i.sz 1&& !i.agg
    ·rw[hc]at h; cases h
    ·rw[hc]at h; cases h;simp only[Aks,Nat.beq_eq,Bool.not_eq_true']at hc;obtain⟨us,rfl,hl⟩:=ha.agg_inv;obtain⟨vs,rfl,hl'⟩:=hb.agg_inv;obtain⟨u1,us,rfl,a1,hl⟩:=hl.cons_inv;obtain⟨u2,us,rfl,a2,hl⟩:=hl.cons_inv;have:=hl.nil_inv; subst this;obtain⟨v1,vs,rfl,b1,hl'⟩:=hl'.cons_inv;obtain⟨v2,vs,rfl,b2,hl'⟩:=hl'.cons_inv;have:=hl'.nil_inv; subst this;rw[a1.u_inv,a2.u_inv,b1.u_inv,b2.u_inv];exact(EqV.sum (p:=(p,q)) (q:=(r',s)) hu he (by rw[←hc.1]; exact Cc hi) (by rw[←hc.2]; exact KK hi)).mono (by omega)
   ·cases h
  ·rename_i p q hu; cases h; rw[ha.i_inv,hb.i_inv]; exact(EqV.int hu).mono (by omega)
  ·rename_i p q hu; cases h; rw[ha.u_inv,hb.u_inv]; exact(EqV.u64 hu).mono (by omega)
  ·rename_i p q hu; cases h; rw[ha.t_inv,hb.t_inv]; exact(EqV.bool hu).mono (by omega)
  ·rename_i p q hu; cases h; rw[ha.s_inv,hb.s_inv]; exact(EqV.str hu).mono (by omega)
  ·cases h
theorem Y9 {f:Fr}: ∀(l:List (Nat×Operand)),SH (l.map fun p=>(p.1,ev f p.2,(ev f p.2).cells.toList))
 | []=>trivial
 |p::l=>⟨by simp,Y9 l⟩
theorem XL {ob:List Tok}{op:Op}(h:XM P fz sl ob nx op=some r)(he:EqsOk r.es):Tri ρ P N D0 ops ⟨dst,op,ty,pos,af,none⟩ fz sl nx r:=by
 unfold XM at h;split at h
 ·rename_i a hp;cases h;refine⟨AkC _,fun rest Q η m f w As hr hz _ hS hk=> ?_⟩;exact AiU hp he hr hz hS fun u hu=>hk η m w u Env.le_refl (Mem.rfl' m) (fun n h=> .inl h) hu hS
 ·rename_i hnp;clear hnp;split at h
  ·rename_i e;split at h
   ·rename_i cs hz0;cases h;refine⟨Ale _,fun rest Q η m f w As hr hz hn hS hk=> ?_⟩;obtain⟨z,hz,-,hc⟩:=Aia (η:=η) (m:=m) hz0;refine AiI hS hz fun b w' S=> ?_;have h0:=hn nx (AkC _) (AkO _);obtain⟨z',hz',hl,-⟩:=Aia (η:=η.put nx (pt b 0)) (m:=m) hz0;have:z=z':=by have a:=hz default; rw[hz' default]at a; cases a; rfl
    subst this;refine hk (η.put nx (pt b 0)) m w' (pt b 0) (Env.le_put h0) (Mem.rfl' m) (fun n q=> ?_) (.pb Env.put_self) (St.closeBox Env.put_self hl (hl.one hc) S);rcases Env.put_dom q with q|q
    ·exact .inl q
    ·subst q; exact .inr ⟨AkC _,AkO _⟩
   ·cases h
  ·rename_i e x;split at h
   ·rename_i cs hc;cases h;refine⟨Ale _,fun rest Q η m f w As hr hz hn hS hk=> ?_⟩;obtain⟨hl,ha⟩:=HY hc (My hz hr x);refine s_box hS rfl fun b w' S=> ?_;have h0:=hn nx (AkC _) (AkO _);refine hk (η.put nx (pt b 0)) m w' (pt b 0) (Env.le_put h0) (Mem.rfl' m) (fun n q=> ?_) (.pb Env.put_self) (St.closeBox Env.put_self (hl.up (Env.le_put h0) (Mem.rfl' m)) (hl.one ha) S);rcases Env.put_dom q with q|q
    ·exact .inl q
    ·subst q; exact .inr ⟨AkC _,AkO _⟩
   ·cases h
  ·rename_i t x;split at h
   ·rename_i n off hx;split at h
    ·rename_i i k cs e hf;cases hb:Nat.beq k n
     ·rw[hb]at h; cases h
     ·rw[hb]at h;have:=Aku hb; subst this;simp only[cond_true]at h;split at h
      ·rename_i a ha;cases h;refine⟨AkC _,fun rest Q η m f w As hr hz hn hS hk=> ?_⟩;obtain⟨b,vs,h1,h2,h3,S⟩:=St.openBox hS;obtain⟨agg,d,g1,g2,g3,g4,g5⟩:=Ahx ha h2;have rx:=Am hr x; rw[hx]at rx;obtain⟨b',hb',ex⟩:=rx.pb_inv;rw[h1]at hb'; cases hb';exact s_ld (i:=0) S ex rfl g1 g2 g3 g4 (hk η m w _ Env.le_refl (Mem.rfl' m) (fun n h=> .inl h) g5 hS)
      ·cases h
    ·cases h
   ·cases h
  ·rename_i t x y;split at h
   ·rename_i n off ds hx hy;split at h
    ·rename_i i k cs e hf;cases hb:Nat.beq k n
     ·rw[hb]at h; cases h
     ·rw[hb]at h;have:=Aku hb; subst this;simp only[cond_true]at h;split at h
      ·rename_i cs' hp;cases h;refine⟨Ale _,fun rest Q η m f w As hr hz hn hS hk=> ?_⟩;obtain⟨b,vs,h1,h2,h3,S⟩:=St.openBox hS;obtain⟨hl,ha⟩:=HY hy (My hz hr y);have rx:=Am hr x; rw[hx]at rx;obtain⟨b',hb',ex⟩:=rx.pb_inv;rw[h1]at hb'; cases hb';unfold putA at hp;split at hp
       ·rename_i ti hti;cases hb2:Nat.beq ti.sz ds.length&&Nat.ble (off+ds.length) cs.length
        ·rw[hb2]at hp; cases hp
        ·rw[hb2]at hp; cases hp;simp only[Aks,Nat.beq_eq,Nat.ble_eq]at hb2;have hsz:(ev f y).cells.size=ds.length:=by rw[hl.1]; simp
         refine s_st (i:=0) S ex rfl rfl (by rw[hsz,←hb2.1]; exact Cc hti) (hl.one ha) (by rw[hsz,←h2.1]; exact hb2.2) fun w' S'=> ?_;refine hk η m w' undef Env.le_refl (Mem.rfl' m) (fun n h=> .inl h) .no (St.closeBox h1 (vs:=vs.take off++(ev f y).cells.toList++vs.drop (off+(ev f y).cells.size)) ?_ ?_ S')
         ·rw[hsz];exact((h2.take off).append hl).append (h2.drop _)
         ·intro v hv;simp only[AkS]at hv;rcases hv with (hv|hv)|hv
          ·exact h3 v (List.mem_of_mem_take hv)
          ·exact hl.one ha v hv
          ·exact h3 v (List.mem_of_mem_drop hv)
       ·cases hp
      ·cases h
    ·cases h
   ·cases h
  ·rename_i c;split at h
   ·rename_i x t hc hx ht;split at h
    ·rename_i n e hr0 hu;split at h
     ·rename_i i k sz α E xs hf;cases hb:Nat.beq k n
      ·rw[hb]at h; cases h
      ·rw[hb]at h; cases h;have:=Aku hb; subst this;obtain⟨ce,cx,ct⟩:=c;obtain⟨cx⟩:=cx;obtain⟨ct⟩:=ct;simp only at hc hx ht;subst hc hx ht;refine⟨AkC _,fun rest Q η m f w As hr hz hn hS hk=> ?_⟩;obtain⟨v,cs,h1,h2,h3,h4,S⟩:=St.openRow hS;have rx:=My hz hr x; rw[hr0]at rx;have ex:=rx.ow_inv.1;rw[h1]at ex;exact s_lenO (i:=0) S (Akr ex).symm rfl hu (hk η m w _ Env.le_refl (Mem.rfl' m) (fun n h=> .inl h) (.d (.i _)) hS)
     ·rename_i i k α E xs hf;cases hb:Nat.beq k n
      ·rw[hb]at h; cases h
      ·rw[hb]at h; cases h;have:=Aku hb; subst this;obtain⟨ce,cx,ct⟩:=c;obtain⟨cx⟩:=cx;obtain⟨ct⟩:=ct;simp only at hc hx ht;subst hc hx ht;refine⟨AkC _,fun rest Q η m f w As hr hz hn hS hk=> ?_⟩;obtain⟨⟨v,h1,h2⟩,S⟩:=St.openFr hS;have rx:=My hz hr x; rw[hr0]at rx;have ex:=rx.ow_inv.1;rw[h1]at ex;cases h2 with
       |sl h2=>
        obtain⟨a,c,rfl⟩:=h2.val;exact Wc (Akr ex).symm hu (hk η m w _ Env.le_refl (Mem.rfl' m) (fun n h=> .inl h) (.d (.i _)) hS)
     ·cases h
    ·cases h
   ·cases h
  ·rename_i t parts;split at h
   ·rename_i cs hb;cases h;refine⟨AkC _,fun rest Q η m f w As hr hz hn hS hk=> ?_⟩;unfold Ah0 at hb;split at hb
    ·rename_i z pl ps h1 h2 h3;obtain⟨zv,g1,g2,-⟩:=Aia (η:=η) (m:=m) h1;obtain⟨o,e1,e2⟩:=ZK hr hz h3 g2 hb;have:=AiH (ρ:=ρ) (N:=N) (D:=D0) (ops:=ops) (rest:=rest) (Q:=Q) (f:=f) (w:=w) (dst:=dst) (ty:=ty) (pos:=pos) (af:=af) (parts:=parts.toList) (ps:=parts.toList.map fun p=>(p.1,ev f p.2,(ev f p.2).cells.toList)) g1 (plB_ok h2) (by simp) (Y9 _) e1 (hk η m w _ Env.le_refl (Mem.rfl' m) (fun n h=> .inl h) (.agg e2.1 e2.2) hS);rwa [Array.toArray_toList]at this
    ·cases hb
   ·cases h
  ·rename_i op t x y t2;split at h
   ·rename_i b hb;cases h;refine⟨AkC _,fun rest Q η m f w As hr hz hn hS hk=> ?_⟩;have hfin:=hk η m w (.bool b) Env.le_refl (Mem.rfl' m) (fun n h=> .inl h) (.d (.t b)) hS;unfold eqV at hb;split at hb
    ·rename_i cs ds e1 e2;have rx:=Am hr x; rw[e1]at rx;have ry:=Am hr y; rw[e2]at ry;cases hg:P.eqGuardType P.depth t
     ·rw[hg]at hb;simp only[cond_false]at hb;split at hb
      ·rename_i b' hT; cases hb;have:=ZN hT rx ry;obtain⟨us,ex,-⟩:=rx.agg_inv;obtain⟨vs,ey,-⟩:=ry.agg_inv;rw[ex,ey]at this;exact s_eqlA ex ey this (by decide) hg hfin
      ·rename_i b' hT; cases hb;have:=ZN hT rx ry;obtain⟨us,ex,-⟩:=rx.agg_inv;obtain⟨vs,ey,-⟩:=ry.agg_inv;rw[ex,ey]at this;exact s_neqA ex ey this (by decide) hg hfin
      ·cases hb
     ·rw[hg]at hb; cases hb
    ·cases hb
   ·cases h
  ·rename_i t t2 x;split at h
   ·rename_i n hx;split at h
    ·rename_i i k sz α E y ys hf;cases hb:Nat.beq k n&&(Nat.beq sz 1&&(Nat.beq t t2&&Yc P t))
     ·rw[hb]at h; cases h
     ·rw[hb]at h; cases h;simp only[Aks]at hb;obtain⟨b1,b2,b3,b4⟩:=hb;have:=Aku b1; subst this;have:=Aku b2; subst this;have:=Aku b3; subst this;obtain⟨e,u1,u2⟩:=Vb b4;refine⟨Ale _,fun rest Q η m f w As hr hz hn hS hk=> ?_⟩;obtain⟨v,cs,h1,h2,h3,h4,S⟩:=St.openRow hS;have rx:=Am hr x; rw[hx]at rx;have ex:=rx.ow_inv.1;rw[h1]at ex;refine s_mark (i:=0) S (Akr ex).symm rfl (by simp) u1 u2 fun w' S'=> ?_;exact hk η m w' v Env.le_refl (Mem.rfl' m) (fun n h=> .inl h) (.ow h1 h2) (St.closeRow h1 h2 h3 h4 S')
    ·cases h
   ·cases h
  ·cases h
end
def tmpO:List Operand→List Nat
 | []=> []
 | .tmp t::l=>t::tmpO l
 |_::l=>tmpO l
def opT (op:Op):List Nat:=tmpO op.operands.toList
def Yl (ops:Array Oper)(j:Nat):Option Nat:=(ops[j]?).bind (·.dst)
def rds (ops:Array Oper)(o:Oper):List Nat:=
 match o.guard with
 |none=>opT o.op
 |some (j,_)=>match Yl ops j with
  |some g=>g::opT o.op
  |none=>opT o.op
def rst (ts:List Nat)(sl:Sl):Sl:=ts.map fun t=>(t,get sl t)
theorem LY {η:Env}{m:Mem}{f:Fr}{sl:Sl}: ∀{ts:List Nat},(∀t∈ts,Rel η m (get sl t) (f t))→∀t,Rel η m (get (rst ts sl) t) (f t)
 | [],_,t=> .any _
 |a::ts,h,t=>by
  show Rel η m (bif Nat.beq a t then get sl a else get (rst ts sl) t) (f t);cases hb:Nat.beq a t
  ·exact LY (fun t ht=>h t (AkT _ ht)) t
  ·have:=Aku hb; subst this; exact h a AkN
theorem P5 {sl:Sl}{t:Nat}: ∀{ts:List Nat},t∈ts→get (rst ts sl) t=get sl t
 | [],h=>by cases h
 |a::ts,h=>by
  show(bif Nat.beq a t then get sl a else get (rst ts sl) t)=_;cases hb:Nat.beq a t
  ·have:a≠t:=by intro e; subst e; simp at hb
   rcases Ak1.1 h with e|e
   ·exact absurd e.symm this
   ·exact P5 e
  ·have:=Aku hb; subst this; rfl
abbrev Ctx:=List (Nat×Bool×Bool)
def AaV:Bool→Bool→Bool
 |true,b=>b
 |false,b=> !b
def ZR:Ctx→Nat→Bool→Option Bool
 | [],_,_=>none
 |p::l,g,w=>bif Nat.beq p.1 g&&AaV p.2.1 w then some p.2.2 else ZR l g w
def AbF (ctx:Ctx):AV→AV×Eqs
 | .gd g w q x=>match ZR ctx g w with
  |some p=>(x,[(p,q)])
  |none=>(.gd g w q x,[])
 |a=>(a,[])
def Aa6 (ctx:Ctx)(sl:Sl):List Nat→Sl×Eqs
 | []=>([],[])
 |t::ts=>let a:=AbF ctx (get sl t); let r:=Aa6 ctx sl ts; ((t,a.1)::r.1,a.2++r.2)
def CtxT:Ctx→Prop
 | []=>True
 |p::l=>p.2.2=true∧CtxT l
theorem ZQ: ∀{ctx:Ctx} {g:Nat} {w p:Bool},CtxT ctx→ZR ctx g w=some p→p=true
 | [],_,_,_,_,h=>by cases h
 |a::l,g,w,p,c,h=>by
  unfold ZR at h;cases hb:Nat.beq a.1 g&&AaV a.2.1 w
  ·rw[hb]at h; exact ZQ c.2 h
  ·rw[hb]at h; cases h; exact c.1
theorem AbE {η:Env}{m:Mem}{ctx:Ctx}{a:AV}{v:Value}(c:CtxT ctx)(he:EqsOk (AbF ctx a).2)(r:Rel η m a v):Rel η m (AbF ctx a).1 v:=by
 unfold AbF at*;split at*
 ·split at*
  ·rename_i p hp;have:=ZQ c hp;exact r.gd_inv.1 (he.1.symm.trans this)
  ·exact r
 ·exact r
theorem YY {η:Env}{m:Mem}{f:Fr}{sl:Sl}{ctx:Ctx}(c:CtxT ctx): ∀{ts:List Nat},EqsOk (Aa6 ctx sl ts).2→(∀t∈ts,Rel η m (get sl t) (f t))→∀t,Rel η m (get (Aa6 ctx sl ts).1 t) (f t)
 | [],_,_,t=> .any _
 |a::ts,he,h,t=>by
  have he':=EqsOk.app.1 he;show Rel η m (bif Nat.beq a t then(AbF ctx (get sl a)).1 else get (Aa6 ctx sl ts).1 t) (f t);cases hb:Nat.beq a t
  ·exact YY c he'.2 (fun t ht=>h t (AkT _ ht)) t
  ·have:=Aku hb; subst this; exact AbE c he'.1 (h a AkN)
def AjM (g:Nat):Bool→AV→Option (Bool×Ctx)
 |true,a=>match a with
  | .d (.t b)=>some (b,[(g,true,b)])
  | .gd g' w' q (.d (.t b))=>some (q&&b,[(g,true,q&&b),(g',w',q)])
  |_=>none
 |false,a=>match a with
  | .d (.t b)=>some (!b,[(g,false, !b)])
  | .gd g' w' q (.d (.t b))=>some (q&& !b,[(g,false,q&& !b),(g',w',q)])
  |_=>none
theorem Agh {g:Nat}{w p:Bool}{a:AV}{ctx:Ctx}(h:AjM g w a=some (p,ctx))(hp:p=true):CtxT ctx:=by
 cases w<;>unfold AjM at h<;>simp only at h<;>split at h
 ·cases h; exact⟨hp,trivial⟩
 ·cases h; simp only[Aks]at hp; exact⟨by simp[hp],hp.1,trivial⟩
 ·cases h
 ·cases h; exact⟨hp,trivial⟩
 ·cases h; simp only[Aks]at hp; exact⟨by simp[hp],hp.1,trivial⟩
 ·cases h
section
variable {ρ:Option Nat}{P:Program}{N:Nat}{D0:Dw}{ops:Array Oper}{fz:Fz}{sl:Sl}{nx:Nat}{r:Stp}{o:Oper}
theorem RP {j g:Nat}{want p:Bool}{ctx:Ctx}(hg:o.guard=some (j,want))(hd:Yl ops j=some g)(hi:AjM g want (get sl g)=some (p,ctx)){v:AV}{rd:List Tok}{es:Eqs}
  (he:EqsOk (Aa6 ctx sl (opT o.op)).2) (h:p=true→Tri ρ P N D0 ops {o with guard:=none} fz (Aa6 ctx sl (opT o.op)).1 nx ⟨v,rd,[],[],nx,es⟩):
  Tri ρ P N D0 ops o fz (rst (rds ops o) sl) nx ⟨.gd g want p v,rd,[],[],nx,(Aa6 ctx sl (opT o.op)).2++es⟩:=by
 refine⟨AkC _,fun rest Q η m f w As hr hz hn hS hk=> ?_⟩;have hrd:rds ops o=g::opT o.op:=by simp[rds,hg,hd]
 rw[hrd]at hr;have hrg:Rel η m (get sl g) (f g):=by have:=hr g; rwa [P5 AkN]at this
 have hro: ∀t∈opT o.op,Rel η m (get sl t) (f t):=fun t ht=>by have:=hr t; rwa [P5 (AkT _ ht)]at this
 cases hp:p with
 |true=>
  have hy:f g= .bool want:=by
   cases want<;>unfold AjM at hi<;>simp only at hi<;>split at hi
   ·rename_i b e; cases hi; rw[e]at hrg; rw[hrg.t_inv]; try simp at hp
    rw[hp]
   ·rename_i g' w' q b e; cases hi; rw[e]at hrg;simp only[Aks]at hp;rw[(hrg.gd_inv.1 hp.1).t_inv]; have h2:=hp.2; (try simp at h2); rw[h2]
   ·cases hi
   ·rename_i b e; cases hi; rw[e]at hrg; rw[hrg.t_inv]; try simp at hp
    rw[hp]
   ·rename_i g' w' q b e; cases hi; rw[e]at hrg;simp only[Aks]at hp;rw[(hrg.gd_inv.1 hp.1).t_inv]; have h2:=hp.2; (try simp at h2); rw[h2]
   ·cases hi
  refine Abe hg hd hy ?_;refine(h hp).2 rest Q η m f w As (YY (Agh hi hp) he hro) hz hn hS fun η' M w' val a b c d e=> ?_;exact hk η' M w' val a b c (.gd (fun _=>d) (fun h=>by rw[hp]at h; cases h)) e
 |false=>
  have fin:wpl ρ P N D0 ops rest Q (upo N f o.dst undef) w:=
   hk η m w undef Env.le_refl (Mem.rfl' m) (fun n h=> .inl h) (.gd (fun h=>by rw[hp]at h; cases h) (fun _=>rfl)) hS
  cases want<;>unfold AjM at hi<;>simp only at hi<;>split at hi
  ·rename_i b e; cases hi; rw[e]at hrg;exact VD hg hd (by rw[hrg.t_inv]; (try simp at hp); rw[hp]; rfl) fin
  ·rename_i g' w' q b e; cases hi; rw[e]at hrg;cases hq:q with
   |true=>
    rw[hq]at hp; simp only[Ala]at hp;exact VD hg hd (by rw[(hrg.gd_inv.1 hq).t_inv]; (try simp at hp); rw[hp]; rfl) fin
   |false=>exact Xg hg hd (hrg.gd_inv.2 hq) fin
  ·cases hi
  ·rename_i b e; cases hi; rw[e]at hrg;exact VD hg hd (by rw[hrg.t_inv]; (try simp at hp); rw[hp]; rfl) fin
  ·rename_i g' w' q b e; cases hi; rw[e]at hrg;cases hq:q with
   |true=>
    rw[hq]at hp; simp only[Ala]at hp;exact VD hg hd (by rw[(hrg.gd_inv.1 hq).t_inv]; (try simp at hp); rw[hp]; rfl) fin
   |false=>exact Xg hg hd (hrg.gd_inv.2 hq) fin
  ·cases hi
def gdC (sl:Sl):Op→Bool
 | .pick (.tmp t) _ _=>match get sl t with
  | .gd .. =>true
  |_=>false
 |_=>false
def esG (c p:Bool)(es:Eqs):Eqs:=bif c then es.map fun e=>(p&&e.1,e.2)else es
theorem esG_ok {c p:Bool}: ∀{es:Eqs},EqsOk (esG c p es)→p=true→EqsOk es:=by
 cases c with
 |false=>exact fun h _=>h
 |true=>
  intro es;induction es with
  |nil=>exact fun _ _=>trivial
  |cons e es ih=>
   intro h hp;have h':(p&&e.1)=e.2∧EqsOk (esG true p es):=h;exact⟨by rw[←h'.1,hp]; rfl,ih h'.2 hp⟩
def isNo:AV→Bool
 | .no=>true
 |_=>false
theorem AfZ {η:Env}{m:Mem}{a:AV}{v:Value}(h:isNo a=true)(r:Rel η m a v):v=undef:=by
 cases r<;>first|rfl|cases h
def stepG (P:Program)(ops:Array Oper)(fz:Fz)(sl:Sl)(ob:List Tok)(nx:Nat)(o:Oper):Option Stp:=
 match o.guard with
 |none=>XM P fz (rst (opT o.op) sl) ob nx o.op
 |some (j,w)=>match Yl ops j with
  |none=>none
  |some g=>match kn (get sl g)with
   |some v=>bif AaV v w then XM P fz (rst (opT o.op) sl) ob nx o.op else some ⟨.no,[],[],[],nx,[]⟩
   |none=>bif isNo (get sl g)then some ⟨.no,[],[],[],nx,[]⟩else match AjM g w (get sl g)with
    |none=>none
    |some (p,ctx)=>match XM P fz (Aa6 ctx sl (opT o.op)).1 ob nx o.op with
     |some ⟨v,rd,[],[],n,es⟩=>bif Nat.beq n nx then some ⟨.gd g w p v,rd,[],[],nx,(Aa6 ctx sl (opT o.op)).2++esG (gdC sl o.op) p es⟩else none
     |_=>none
theorem Aki {a b:Bool}(h:AaV a b=true):a=b:=by cases a<;>cases b<;>first|rfl|cases h
theorem Akh {a b:Bool}(h:AaV a b=false):a= !b:=by cases a<;>cases b<;>first|rfl|cases h
theorem XY {o:Oper}{j g:Nat}{w:Bool}{sl:Sl}{η:Env}{m:Mem}{f:Fr}(hg:o.guard=some (j,w))(hd:Yl ops j=some g)(hr: ∀t,Rel η m (get (rst (rds ops o) sl) t) (f t)):
  Rel η m (get sl g) (f g)∧∀t∈opT o.op,Rel η m (get sl t) (f t):=by
 have hrd:rds ops o=g::opT o.op:=by simp[rds,hg,hd]
 rw[hrd]at hr;exact⟨by have:=hr g; rwa [P5 AkN]at this,fun t ht=>by have:=hr t; rwa [P5 (AkT _ ht)]at this⟩
theorem YH {j g:Nat}{v w:Bool}(k1:o.guard=some (j,w))(k2:Yl ops j=some g)(k3:kn (get sl g)=some v)(hv:AaV v w=true)(t1:Tri ρ P N D0 ops {o with guard:=none} fz (rst (opT o.op) sl) nx r):Tri ρ P N D0 ops o fz (rst (rds ops o) sl) nx r:=by
 have hv:=Aki hv;subst hv;refine⟨t1.1,fun rest Q η m f w As hr hz hn hS hk=> ?_⟩;obtain⟨r1,r2⟩:=XY k1 k2 hr;exact Abe k1 k2 (TJ k3 r1) (t1.2 rest Q η m f w As (LY r2) hz hn hS hk)
theorem YP {ob:List Tok}(h:stepG P ops fz sl ob nx o=some r)(he:EqsOk r.es):Tri ρ P N D0 ops o fz (rst (rds ops o) sl) nx r:=by
 unfold stepG at h;split at h
 ·rename_i hg;have:rds ops o=opT o.op:=by simp[rds,hg]
  rw[this];obtain⟨dst,op,ty,pos,af,g⟩:=o;simp only at hg; subst hg;exact XL h he
 ·rename_i j w hg;split at h
  ·cases h
  ·rename_i g hd;split at h
   ·rename_i v hk;cases hb:AaV v w
    ·rw[hb]at h; cases h;refine⟨AkC _,fun rest Q η m f w' As hr hz hn hS hk'=> ?_⟩;obtain⟨r1,r2⟩:=XY hg hd hr;exact VD hg hd (by rw[TJ hk r1,Akh hb]) (hk' η m w' undef Env.le_refl (Mem.rfl' m) (fun n h=> .inl h) .no hS)
    ·rw[hb]at h;obtain⟨dst,op,ty,pos,af,gd⟩:=o;exact YH hg hd hk hb (XL h he)
   ·cases hn:isNo (get sl g)
    ·rw[hn]at h; simp only[cond_false]at h;split at h
     ·cases h
     ·rename_i p ctx hi;split at h
      ·rename_i v rd n es hs;cases hb:Nat.beq n nx
       ·rw[hb]at h; cases h
       ·rw[hb]at h; cases h;have:=Aku hb; subst this;have he':=EqsOk.app.1 he;exact RP hg hd hi he'.1 fun hp=>show Tri ρ P N D0 ops {o with guard:=none} fz (Aa6 ctx sl (opT o.op)).1 n ⟨v,rd,[],[],n,es⟩from XL (r:=⟨v,rd,[],[],n,es⟩) hs (esG_ok he'.2 hp)
      ·cases h
    ·rw[hn]at h; cases h;refine⟨AkC _,fun rest Q η m f w' As hr hz hn' hS hk'=> ?_⟩;obtain⟨r1,r2⟩:=XY hg hd hr;exact Xg hg hd (AfZ hn r1) (hk' η m w' undef Env.le_refl (Mem.rfl' m) (fun n h=> .inl h) .no hS)
end
structure AS:Type 1 where
 sl:Sl
 ob:List Tok
 fz:Fz
 nx:Nat
def setS (N:Nat)(sl:Sl)(d:Option Nat)(v:AV):Sl:=match d with|some d=>bif Nat.blt d N then(d,vwA v)::sl else sl|none=>sl
def after (N:Nat)(s:AS)(o:Oper)(r:Stp):AS:=⟨setS N s.sl o.dst r.v,DY (r.use.map (·.1)) s.ob++r.made,s.fz,r.nx⟩
def tids (l:List Tok):List Nat:=l.map (·.1)
structure Wf (s:AS):Prop where
 nd:(tids s.ob).Nodup
 lt: ∀t∈tids s.ob,t<s.nx
structure MM (s:AS)(r:Stp):Prop where
 sub: ∀p∈r.use++r.rd,p∈s.ob
 nd:(tids (r.use++r.rd)).Nodup
 mnd:(tids r.made).Nodup
 mlt: ∀t∈tids r.made,s.nx≤t∧t<r.nx
structure Gm (As:List Ow)(s:AS)(η:Env)(m:Mem)(f:Fr)(w:World):Prop where
 slr: ∀t,Rel η m (get s.sl t) (f t)
 fz:fzOk η m s.fz
 dom: ∀n,η n≠none→n<s.nx
 st:St m (reps η m s.ob++As) w
 wf:Wf s
theorem Ro {η:Env}{M:Mem}{N:Nat}{sl:Sl}{d:Option Nat}{v:AV}{f:Fr}{val:Value}(h: ∀t,Rel η M (get sl t) (f t))(hv:Rel η M v val): ∀t,Rel η M (get (setS N sl d v) t) (upo N f d val t):=by
 intro t;cases d with
 |none=>exact h t
 |some d=>
  simp only[setS,upo,up];cases hb:Nat.blt d N
  ·simp only[cond_false,Bool.and_false]; exact h t
  ·simp only[cond_true,Bool.and_true,get];cases hq:Nat.beq d t
   ·have:Nat.beq t d=false:=by cases q:Nat.beq t d; rfl; have:=Aku q; subst this; simp at hq
    rw[this]; exact h t
   ·have:=Aku hq; subst this;rw[show Nat.beq d d=true by simp]; exact XB hv
theorem HW {ts:List Tok}: ∀{l:List Tok},(tids l).Nodup→(tids ts).Nodup→(∀p∈ts,p∈l)→l.Perm (ts++DY (tids ts) l):=by
 intro l hl ht hs;induction ts with
 |nil=>
  have:DY (tids []) l=l:=by simp[DY,tids,Fh]
  rw[this]; exact List.Perm.refl _
 |cons p ts ih=>
  have h1:=ih (by simp[tids]at ht; exact ht.2) (fun q hq=>hs q (AkT _ hq));refine h1.trans ?_;rw[AlA];have hp:p∈DY (tids ts) l:=by
   simp only[DY,List.mem_filter];refine⟨hs p AkN,?_⟩;have: ¬p.1∈tids ts:=by simp only[tids,AkZ,List.nodup_cons]at ht; exact ht.1
   have:Fh p.1 (tids ts)=false:=by rw[←Bool.not_eq_true,Gh]; exact this
   simp[this]
  have h2:(DY (tids ts) l).Perm (p::DY (tids (p::ts)) l):=by
   have hnd:(tids (DY (tids ts) l)).Nodup:=by
    simp only[tids,DY]; exact List.Nodup.sublist (Alv _ List.filter_sublist) hl
   have:DY (tids (p::ts)) l=DY [p.1] (DY (tids ts) l):=by
    simp only[DY,List.filter_filter];apply List.filter_congr;intro q _;simp only[tids,AkZ,Fh];cases Nat.beq p.1 q.1<;>simp
   rw[this];generalize DY (tids ts) l=k at*;clear this h1 ih;induction k with
   |nil=>simp at hp
   |cons a k ih2=>
    simp only[tids,AkZ,List.nodup_cons]at hnd;rcases Ak1.1 hp with e|e
    ·subst e;have:DY [p.1] (p::k)=k:=by
      simp only[DY,List.filter_cons,Fh,show Nat.beq p.1 p.1=true by simp,cond_true,Alp];simp only[Bool.false_eq_true,if_false];rw[List.filter_eq_self];intro q hq;have:p.1≠q.1:=fun e=>hnd.1 (by rw[e]; exact List.mem_map_of_mem hq);have:Nat.beq p.1 q.1=false:=Gw.beq_ne this;simp[this,Fh]
     rw[this]
    ·have hne:p.1≠a.1:=fun q=>hnd.1 (by rw[←q]; exact List.mem_map_of_mem e);have:DY [p.1] (a::k)=a::DY [p.1] k:=by
      simp only[DY,List.filter_cons,Fh,Gw.beq_ne hne,cond_false,Alr,if_true]
     rw[this];exact((ih2 e hnd.2).cons a).trans (Ak8 _ _ _)
  exact(AkU ts h2).trans Alj
theorem Ms {N:Nat}{s:AS}{o:Oper}{r:Stp}(h:Wf s)(k:MM s r)(hn:s.nx≤r.nx):Wf (after N s o r):=by
 have e:tids (after N s o r).ob=tids (DY (r.use.map (·.1)) s.ob)++tids r.made:=by simp[after,tids]
 have sub: ∀t∈tids (DY (r.use.map (·.1)) s.ob),t∈tids s.ob:=by
  intro t ht;simp only[tids,DY,List.mem_map,List.mem_filter]at ht⊢;obtain⟨p,⟨hp,_⟩,e⟩:=ht; exact⟨p,hp,e⟩
 constructor
 ·rw[e];refine List.nodup_append.2 ⟨?_,k.mnd,?_⟩
  ·simp only[tids,DY]; exact List.Nodup.sublist (Alv _ List.filter_sublist) h.nd
  ·intro a ha b hb e;have:=h.lt a (sub a ha);have:=(k.mlt b hb).1;omega
 ·intro t ht;rw[e]at ht;show t<r.nx;rcases AkS.1 ht with q|q
  ·have:=h.lt t (sub t q); omega
  ·exact(k.mlt t q).2
section
variable (ρ:Option Nat)(P:Program)(N:Nat)(D0:Dw)(ops:Array Oper)
def FT (F:AS→List (Oper×Stp)→Prop):List Oper→AS→List (Oper×Stp)→Prop
 | [],s,h=>F s h
 |o::l,s,h=> ∃r,Tri ρ P N D0 ops o s.fz (rst (rds ops o) s.sl) s.nx r∧MM s r∧FT F l (after N s o r) (h++[(o,r)])
end
section
variable {ρ:Option Nat}{P:Program}{N:Nat}{D0:Dw}{ops:Array Oper}
theorem Adq {o:Oper}{s:AS}{r:Stp}{rest:List Oper}{Q:DJ}{As:List Ow}{η:Env}{m:Mem}{f:Fr}{w:World}(ht:Tri ρ P N D0 ops o s.fz (rst (rds ops o) s.sl) s.nx r)(hs:MM s r)(g:Gm As s η m f w)
  (hk: ∀η' M f' w',η.le η'→m≤M→Gm As (after N s o r) η' M f' w'→wpl ρ P N D0 ops rest Q f' w'):wpl ρ P N D0 ops (o::rest) Q f w:=by
 have hp:=HW g.wf.nd hs.nd hs.sub;have hS:=St.rp g.st hp;rw[AU,Akw]at hS;refine ht.2 rest Q η m f w _ (LY fun t _=>g.slr t) g.fz (fun n h1 _=> ?_) hS fun η' M w' val e1 e2 e3 e4 S=> ?_
 ·cases q:η n with
  |none=>rfl
  |some v=>have:=g.dom n (by rw[q]; simp); omega
 ·refine hk η' M _ w' e1 e2 ⟨Ro (fun t=>(g.slr t).up e1 e2) e4,g.fz.up e1 e2,fun n hn=> ?_,?_,Ms g.wf hs ht.1⟩
  ·show n<r.nx;rcases e3 n hn with q|q
   ·have:=g.dom n q; have:=ht.1; omega
   ·exact q.2
  ·rw[AU,Akw]at S;have S2:St M (reps η' M r.made++(reps η' M r.rd++(reps η' M (DY (tids (r.use++r.rd)) s.ob)++As))) w':=by
    have h1:=S.perm (AkE (reps η' M r.made) _ _);have h2:=h1.perm (AkU _ (AkE (reps η' M r.made) _ _));have h3:=h2.perm (AkE _ _ _);have h4:=St.ru e1 e2 (h3.perm (List.Perm.refl _));exact(h4.perm (AkE _ _ _)).perm (List.Perm.refl _)|>fun x=>by
     refine x.perm ?_;have a:=AkE (reps η' M r.rd) (reps η' M (DY (tids (r.use++r.rd)) s.ob)) (reps η' M r.made++As);have b:=AkU (reps η' M r.rd) (AkE (reps η' M (DY (tids (r.use++r.rd)) s.ob)) (reps η' M r.made) As);have c:=AkE (reps η' M r.rd) (reps η' M r.made) (reps η' M (DY (tids (r.use++r.rd)) s.ob)++As);exact(b.trans c)
   have:(DY (r.use.map (·.1)) s.ob).Perm (r.rd++DY (tids (r.use++r.rd)) s.ob):=by
    have hn1:(tids (DY (r.use.map (·.1)) s.ob)).Nodup:=by
     simp only[tids,DY]; exact List.Nodup.sublist (Alv _ List.filter_sublist) g.wf.nd
    have hnd:=hs.nd;simp only[tids,Ak3]at hnd;have hn2:=List.nodup_append.1 hnd;have:=HW (ts:=r.rd) hn1 hn2.2.1 (fun p hp=>by
     simp only[DY,List.mem_filter];refine⟨hs.sub p (List.mem_append_right _ hp),?_⟩;have: ¬p.1∈r.use.map (·.1):=fun q=>hn2.2.2 _ q _ (List.mem_map_of_mem hp) rfl;have:Fh p.1 (r.use.map (·.1))=false:=by rw[←Bool.not_eq_true,Gh]; exact this
     simp[this])
    refine this.trans (AkU _ (List.Perm.of_eq ?_));simp only[DY,List.filter_filter];apply List.filter_congr;intro q _;have e: ∀(a b:List Nat) (t:Nat),Fh t (a++b)=(Fh t a||Fh t b):=by
     intro a b t;induction a with
     |nil=>simp[Fh]
     |cons x a ih=>simp only[AlA,Fh,ih]; cases Nat.beq x t<;>simp
    simp only[tids,Ak3,e];cases Fh q.1 (r.use.map (·.1))<;>cases Fh q.1 (r.rd.map (·.1))<;>rfl
   show St M (reps η' M (DY (r.use.map (·.1)) s.ob++r.made)++As) w';have S3:St M (reps η' M ((r.rd++DY (tids (r.use++r.rd)) s.ob)++r.made)++As) w':=by
    rw[AU,AU,Akw,Akw];refine S2.perm ?_;have a:=AkE (reps η' M r.made) (reps η' M r.rd) (reps η' M (DY (tids (r.use++r.rd)) s.ob)++As);have b:=AkU (reps η' M r.rd) (AkE (reps η' M r.made) (reps η' M (DY (tids (r.use++r.rd)) s.ob)) As);exact a.trans b
   exact St.rp S3 (this.symm.append_right _)
theorem AhL {F:AS→List (Oper×Stp)→Prop}{Q:DJ}{As:List Ow}: ∀{l:List Oper} {s:AS} {h:List (Oper×Stp)},FT ρ P N D0 ops F l s h→∀{η m f w},Gm As s η m f w→
  (∀s' h',F s' h'→∀η' M f' w',η.le η'→m≤M→Gm As s' η' M f' w'→Q .normal f' w')→wpl ρ P N D0 ops l Q f w
 | [],s,h,H,η,m,f,w,g,k=>Co (k s h H η m f w Env.le_refl (Mem.rfl' m) g)
 |o::l,s,h,⟨r,ht,hs,H⟩,η,m,f,w,g,k=>Adq ht hs g fun η' M f' w' e1 e2 g'=>AhL H g' fun s' h' a η2 M2 f2 w2 a1 a2=>k s' h' a η2 M2 f2 w2 (Env.le_tr e1 a1) (Mem.tr e2 a2)
end
abbrev FQ:=List (Oper×Stp)
def G6 (N:Nat):AS→FQ→AS
 |s,[]=>s
 |s,p::l=>G6 N (after N s p.1 p.2) l
def slL (N:Nat)(L:Nat→Bool):Nat→FQ→Sl→Sl
 |_,[],sl=>sl
 |k,p::l,sl=>slL N L (k+1) l (bif L k then setS N sl p.1.dst p.2.v else sl)
def mkL (L:Nat→Bool):Nat→FQ→List Tok
 |_,[]=> []
 |k,p::l=>(bif L k then p.2.made else [])++mkL L (k+1) l
def usL (L:Nat→Bool):Nat→FQ→List Nat
 |_,[]=> []
 |k,p::l=>(bif L k then tids p.2.use else [])++usL L (k+1) l
def obL (L:Nat→Bool)(rs:FQ)(ob:List Tok):List Tok:=DY (usL L 0 rs) (ob++mkL L 0 rs)
def TL:List Nat→List Nat→Bool
 | [],_=>false
 |a::l,b=>Fh a b||TL l b
theorem JP {a b:List Nat}:TL a b=true↔∃t,t∈a∧t∈b:=by
 induction a with
 |nil=>simp[TL]
 |cons x a ih=>
  simp only[TL,Alh,Gh,ih,Ak1];constructor
  ·rintro(h|⟨t,h,k⟩)
   ·exact⟨x,.inl rfl,h⟩
   ·exact⟨t,.inr h,k⟩
  ·rintro⟨t,rfl|h,k⟩
   ·exact .inl k
   ·exact .inr ⟨t,h,k⟩
def imp (a b:Bool):Bool:= !a||b
theorem Td {a b:Bool}(h:imp a b=true)(ha:a=true):b=true:=by subst ha; simpa[imp]using h
def anc (ms:List Nat)(i j:Nat):Bool:=Nat.testBit (ms.getD i 0) j
def isD (d:Option Nat)(t:Nat):Bool:=match d with|some d=>Nat.beq d t|none=>false
def dIn (d:Option Nat)(ts:List Nat):Bool:=match d with|some d=>Fh d ts|none=>false
def dEq (d e:Option Nat):Bool:=match d,e with|some d,some e=>Nat.beq d e|_,_=>false
def Pe (ops:Array Oper)(ms:List Nat)(i:Nat)(p:Oper×Stp)(j:Nat)(q:Oper×Stp):Bool:=imp (TL (tids p.2.use) (tids q.2.use++tids q.2.rd)) (anc ms i j)&&(imp (TL (tids q.2.made) (tids p.2.use++tids p.2.rd)) (anc ms i j)&&(imp (dIn q.1.dst (rds ops p.1)) (bif Nat.blt j i then anc ms i j else anc ms j i)&&imp (dEq p.1.dst q.1.dst&&Nat.blt i j) (anc ms j i)))
def rowB (ops:Array Oper)(ms:List Nat)(i:Nat)(p:Oper×Stp):Nat→FQ→Bool
 |_,[]=>true
 |j,q::l=>(Nat.beq i j||Pe ops ms i p j q)&&rowB ops ms i p (j+1) l
def allB (ops:Array Oper)(ms:List Nat)(rs:FQ):Nat→FQ→Bool
 |_,[]=>true
 |i,p::l=>rowB ops ms i p 0 rs&&allB ops ms rs (i+1) l
def Vh (ops:List Oper)(rs:FQ):Bool:=AaW 0 ops&&allB ops.toArray (Rm ops []) rs 0 rs
section
variable {ops:Array Oper}{ms:List Nat}
theorem XU {i:Nat}{p:Oper×Stp}: ∀{l:FQ} {k j:Nat} {q:Oper×Stp},rowB ops ms i p k l=true→l[j]? =some q→i≠k+j→Pe ops ms i p (k+j) q=true
 | [],_,_,_,_,h,_=>by simp at h
 |a::l,k,0,q,h,e,ne=>by
  simp at e; subst e;simp only[rowB,Aks,Alh]at h;rcases h.1 with q|q
  ·exact absurd (Aku q) ne
  ·exact q
 |a::l,k,j+1,q,h,e,ne=>by
  simp only[rowB,Aks]at h;have:=XU (j:=j) (q:=q) h.2 (by simpa using e) (by omega);rwa [show k+1+j=k+(j+1) by omega]at this
theorem Yv {rs:FQ}: ∀{l:FQ} {k i:Nat} {p:Oper×Stp},allB ops ms rs k l=true→l[i]? =some p→rowB ops ms (k+i) p 0 rs=true
 | [],_,_,_,_,h=>by simp at h
 |a::l,k,0,p,h,e=>by simp at e; subst e; simp only[allB,Aks]at h; exact h.1
 |a::l,k,i+1,p,h,e=>by
  simp only[allB,Aks]at h;have:=Yv (i:=i) (p:=p) h.2 (by simpa using e);rwa [show k+1+i=k+(i+1) by omega]at this
end
section
variable {N:Nat}
theorem X7 {L:Nat→Bool}{x:Tok}: ∀{l:FQ} {k:Nat},x∈mkL L k l↔∃(j:Nat) (q:Oper×Stp),l[j]? =some q∧L (k+j)=true∧x∈q.2.made
 | [],k=>by simp[mkL]
 |p::l,k=>by
  simp only[mkL,AkS,X7 (l:=l) (k:=k+1)];constructor
  ·rintro(h|⟨j,q,e,h1,h2⟩)
   ·cases hl:L k
    ·rw[hl]at h; simp at h
    ·rw[hl]at h; exact⟨0,p,rfl,hl,h⟩
   ·exact⟨j+1,q,by simpa using e,by rwa [show k+(j+1)=k+1+j by omega],h2⟩
  ·rintro⟨j,q,e,h1,h2⟩;cases j with
   |zero=>simp at e; subst e; left; rw[show L k=true from h1]; exact h2
   |succ j=>right; exact⟨j,q,by simpa using e,by rwa [show k+(j+1)=k+1+j by omega]at h1,h2⟩
theorem GY {L:Nat→Bool}{x:Nat}: ∀{l:FQ} {k:Nat},x∈usL L k l↔∃(j:Nat) (q:Oper×Stp),l[j]? =some q∧L (k+j)=true∧x∈tids q.2.use
 | [],k=>by simp[usL]
 |p::l,k=>by
  simp only[usL,AkS,GY (l:=l) (k:=k+1)];constructor
  ·rintro(h|⟨j,q,e,h1,h2⟩)
   ·cases hl:L k
    ·rw[hl]at h; simp at h
    ·rw[hl]at h; exact⟨0,p,rfl,hl,h⟩
   ·exact⟨j+1,q,by simpa using e,by rwa [show k+(j+1)=k+1+j by omega],h2⟩
  ·rintro⟨j,q,e,h1,h2⟩;cases j with
   |zero=>simp at e; subst e; left; rw[show L k=true from h1]; exact h2
   |succ j=>right; exact⟨j,q,by simpa using e,by rwa [show k+(j+1)=k+1+j by omega]at h1,h2⟩
theorem X5 {L:Nat→Bool}: ∀{l:FQ} {k:Nat},(mkL L k l).Sublist (mkL (fun _=>true) k l)
 | [],k=> .slnil
 |p::l,k=>by
  simp only[mkL,cond_true];refine List.Sublist.append ?_ X5;cases L k
  ·exact List.nil_sublist _
  ·exact List.Sublist.refl _
theorem X6 {L:Nat→Bool}{i:Nat}{p:Oper×Stp}: ∀{l:FQ} {k:Nat},l[i]? =some p→L (k+i)=false→(mkL (LS L (k+i)) k l).Perm (mkL L k l++p.2.made)
 | [],_,h,_=>by simp at h
 |a::l,k,h,hL=>by
  cases i with
  |zero=>
   simp at h; subst h;have e:mkL (LS L (k+0)) (k+1) l=mkL L (k+1) l:=by
    have: ∀(l:FQ) (j:Nat),k<j→mkL (LS L k) j l=mkL L j l:=by
     intro l;induction l with
     |nil=>intro j _; rfl
     |cons b l ih=>intro j hj; simp only[mkL,ih (j+1) (by omega)]; rw[Gv (Gw.beq_ne (by omega))]
    exact this l (k+1) (by omega)
   simp only[mkL,e];rw[show LS L (k+0) k=true from IL,show L k=false from hL];simp only[cond_true,cond_false,Ak2];exact List.perm_append_comm
  |succ i=>
   have ih:=X6 (L:=L) (l:=l) (k:=k+1) (by simpa using h) (by rwa [show k+1+i=k+(i+1) by omega]);rw[show k+1+i=k+(i+1) by omega]at ih;simp only[mkL];rw[Gv (Gw.beq_ne (by omega)),Akw];exact AkU _ ih
theorem J3 {L L':Nat→Bool}{t:Nat}: ∀{l:FQ} {k:Nat} {sl sl':Sl},get sl t=get sl' t→(∀(j:Nat) (q:Oper×Stp),l[j]? =some q→isD q.1.dst t=true→L (k+j)=L' (k+j))→get (slL N L k l sl) t=get (slL N L' k l sl') t
 | [],_,_,_,h,_=>h
 |p::l,k,sl,sl',h,hw=>by
  simp only[slL];refine J3 ?_ fun j q e d=>by have:=hw (j+1) q (by simpa using e) d; rwa [show k+(j+1)=k+1+j by omega]at this
  cases hd:isD p.1.dst t
  ·have nw: ∀s,get (setS N s p.1.dst p.2.v) t=get s t:=fun s=>by
    cases hq:p.1.dst with
    |none=>rfl
    |some d=>
     rw[hq]at hd;simp only[setS];cases Nat.blt d N
     ·rfl
     ·show(bif Nat.beq d t then _ else get s t)=_;rw[show Nat.beq d t=false from hd]; rfl
   cases L k<;>cases L' k<;>simp[nw,h]
  ·have e:=hw 0 p rfl hd;simp only[Nat.add_zero]at e;rw[e];cases L' k
   ·exact h
   ·cases hq:p.1.dst with
    |none=>rw[hq]at hd; cases hd
    |some d=>
     simp only[cond_true,setS];cases Nat.blt d N
     ·exact h
     ·show(bif Nat.beq d t then _ else get sl t)=(bif Nat.beq d t then _ else get sl' t);rw[h]
theorem UE {L:Nat→Bool}{d i:Nat}{p:Oper×Stp}(hd:p.1.dst=some d)(hN:Nat.blt d N=true): ∀{l:FQ} {k:Nat} {sl:Sl},l[i]? =some p→L (k+i)=true→(∀(j:Nat) (q:Oper×Stp),l[j]? =some q→i<j→isD q.1.dst d=true→L (k+j)=false)→get (slL N L k l sl) d=vwA p.2.v
 | [],_,_,h,_,_=>by simp at h
 |a::l,k,sl,h,hL,hw=>by
  cases i with
  |zero=>
   simp at h; subst h;simp only[slL];rw[show L k=true from hL];have:=J3 (N:=N) (L:=L) (L':=fun _=>false) (t:=d) (l:=l) (k:=k+1) (sl:=setS N sl a.1.dst a.2.v) (sl':=setS N sl a.1.dst a.2.v) rfl
    (fun j q e w=>by have:=hw (j+1) q (by simpa using e) (by omega) w; rwa [show k+(j+1)=k+1+j by omega]at this)
   simp only[cond_true];rw[this];have e0: ∀(l:FQ) (k:Nat) (s:Sl),slL N (fun _=>false) k l s=s:=by
    intro l;induction l with
    |nil=>intro _ _; rfl
    |cons b l ih=>intro k s; simp only[slL,cond_false]; exact ih _ _
   rw[e0,hd];simp only[setS,hN,cond_true];show(bif Nat.beq d d then _ else _)=_;simp
  |succ i=>
   simp only[slL];refine UE hd hN (i:=i) (by simpa using h) (by rwa [show k+1+i=k+(i+1) by omega]) fun j q e lt w=> ?_;have:=hw (j+1) q (by simpa using e) (by omega) w; rwa [show k+(j+1)=k+1+j by omega]at this
theorem Lu {s:AS}: ∀{l:FQ} {i:Nat} {p:Oper×Stp},l[i]? =some p→G6 N s (l.take (i+1))=after N (G6 N s (l.take i)) p.1 p.2
 | [],_,_,h=>by simp at h
 |a::l,0,p,h=>by simp at h; subst h; rfl
 |a::l,i+1,p,h=>by
  show G6 N (after N s a.1 a.2) (l.take (i+1))=_;exact Lu (by simpa using h)
theorem RX {s:AS}: ∀{l:FQ} {k:Nat} {L:Nat→Bool},(∀j,j<l.length→L (k+j)=true)→(G6 N s l).sl=slL N L k l s.sl
 | [],_,_,_=>rfl
 |a::l,k,L,h=>by
  show(G6 N (after N s a.1 a.2) l).sl=slL N L (k+1) l _;rw[show L k=true from h 0 (by simp)];exact RX (s:=after N s a.1 a.2) fun j hj=>by have:=h (j+1) (by simpa using hj); rwa [show k+(j+1)=k+1+j by omega]at this
theorem UD {t i:Nat}{L:Nat→Bool}: ∀{l:FQ} {k:Nat} {sl:Sl},(∀j,j<i→L (k+j)=true)→(∀j,i≤j→L (k+j)=false)→slL N L k l sl=slL N (fun _=>true) k (l.take i) sl:=by
 induction i with
 |zero=>
  intro l k sl _ h0;simp only[List.take_zero,slL];have e0: ∀(l:FQ) (k:Nat) (s:Sl),(∀j,L (k+j)=false)→slL N L k l s=s:=by
   intro l;induction l with
   |nil=>intro _ _ _; rfl
   |cons b l ih=>intro k s h; simp only[slL]; rw[show L k=false from h 0]; exact ih _ _ fun j=>by have:=h (j+1); rwa [show k+(j+1)=k+1+j by omega]at this
  exact e0 l k sl fun j=>h0 j (by omega)
 |succ i ih=>
  intro l k sl h1 h0;cases l with
  |nil=>rfl
  |cons a l=>
   simp only[slL,List.take_succ_cons];rw[show L k=true from h1 0 (by omega)];exact ih (fun j hj=>by have:=h1 (j+1) (by omega); rwa [show k+(j+1)=k+1+j by omega]at this) fun j hj=>by have:=h0 (j+1) (by omega); rwa [show k+(j+1)=k+1+j by omega]at this
theorem Ab2 {s:AS}: ∀{l:FQ},(G6 N s l).fz=s.fz
 | []=>rfl
 |a::l=>Ab2 (s:=after N s a.1 a.2) (l:=l)
end
section
variable {ρ:Option Nat}{P:Program}{N:Nat}{D0:Dw}{ops:Array Oper}
variable (ρ P N D0 ops)in
def Chn:AS→FQ→Prop
 |_,[]=>True
 |s,p::l=>Tri ρ P N D0 ops p.1 s.fz (rst (rds ops p.1) s.sl) s.nx p.2∧MM s p.2∧Chn (after N s p.1 p.2) l
theorem AhM {F:AS→FQ→Prop}: ∀{l:List Oper} {s:AS} {h:FQ},FT ρ P N D0 ops F l s h→∃rs:FQ,rs.map (·.1)=l∧F (G6 N s rs) (h++rs)∧Chn ρ P N D0 ops s rs
 | [],s,h,H=>⟨[],rfl,by rw[AkX]; exact H,trivial⟩
 |o::l,s,h,⟨r,a,b,H⟩=>by
  obtain⟨rs,e,f,c⟩:=AhM H;exact⟨(o,r)::rs,by simp[e],by simpa[G6]using f,a,b,c⟩
theorem AhU: ∀{s:AS} {rs:FQ} {i:Nat} {p:Oper×Stp},Chn ρ P N D0 ops s rs→rs[i]? =some p→
  Tri ρ P N D0 ops p.1 s.fz (rst (rds ops p.1) (G6 N s (rs.take i)).sl) (G6 N s (rs.take i)).nx p.2∧MM (G6 N s (rs.take i)) p.2
 |s,[],_,_,_,h=>by simp at h
 |s,a::rs,0,p,c,h=>by simp at h; subst h; exact⟨c.1,c.2.1⟩
 |s,a::rs,i+1,p,c,h=>by
  have:=AhU (i:=i) c.2.2 (by simpa using h);exact this
theorem Ad2: ∀{s:AS} {rs:FQ},Wf s→Chn ρ P N D0 ops s rs→Wf (G6 N s rs)
 |s,[],w,_=>w
 |s,a::rs,w,c=>by
  show Wf (G6 N (after N s a.1 a.2) rs);exact Ad2 (Ms w c.2.1 c.1.1) c.2.2
theorem Rq: ∀{s:AS} {rs:FQ} {i:Nat},Chn ρ P N D0 ops s rs→Chn ρ P N D0 ops s (rs.take i)
 |s,[],_,_=>by rw[List.take_nil]; trivial
 |s,a::rs,0,_=>trivial
 |s,a::rs,i+1,c=>⟨c.1,c.2.1,Rq c.2.2⟩
theorem ZU: ∀{s:AS} {rs:FQ},Chn ρ P N D0 ops s rs→s.nx≤(G6 N s rs).nx
 |s,[],_=>AkC _
 |s,a::rs,c=>Nat.le_trans c.1.1 (ZU c.2.2)
theorem Vo: ∀{s:AS} {rs:FQ} {i j:Nat},Chn ρ P N D0 ops s rs→i≤j→(G6 N s (rs.take i)).nx≤(G6 N s (rs.take j)).nx
 |s,rs,0,j,c,_=>by simpa[G6]using ZU (Rq (i:=j) c)
 |s,[],i+1,j,_,_=>by simp
 |s,a::rs,i+1,j+1,c,h=>Vo (s:=after N s a.1 a.2) (i:=i) (j:=j) c.2.2 (by omega)
theorem Vp: ∀{s:AS} {rs:FQ},Chn ρ P N D0 ops s rs→(tids (mkL (fun _=>true) 0 rs)).Nodup∧∀t∈tids (mkL (fun _=>true) 0 rs),s.nx≤t
 |s,[],_=>⟨List.nodup_nil,fun _ h=>by cases h⟩
 |s,a::rs,c=>by
  have sh: ∀(l:FQ) (k:Nat),mkL (fun _=>true) k l=mkL (fun _=>true) 0 l:=by
   intro l;induction l with
   |nil=>intro _; rfl
   |cons b l ih=>intro k; simp only[mkL]; rw[ih (k+1),ih (0+1)]
  obtain⟨h1,h2⟩:=Vp c.2.2;have e:tids (mkL (fun _=>true) 0 (a::rs))=tids a.2.made++tids (mkL (fun _=>true) 0 rs):=by
   simp only[mkL,cond_true,tids,Ak3]; rw[sh]
  rw[e];constructor
  ·refine List.nodup_append.2 ⟨c.2.1.mnd,h1,fun x hx y hy e=> ?_⟩;have p:=(c.2.1.mlt x hx).2;have q:a.2.nx≤y:=h2 y hy;omega
  ·intro t ht;rcases AkS.1 ht with q|q
   ·exact(c.2.1.mlt t q).1
   ·exact Nat.le_trans c.1.1 (h2 t q)
theorem YF {s:AS}{r:Stp}(w:Wf s)(h:MM s r): ∀t∈tids r.use,t<s.nx:=fun t ht=>by
 simp only[tids,List.mem_map]at ht;obtain⟨p,hp,rfl⟩:=ht;exact w.lt p.1 (by simp only[tids,List.mem_map]; exact⟨p,h.sub p (List.mem_append_left _ hp),rfl⟩)
theorem Jm {a b:List Nat}{t:Nat}:Fh t (a++b)=(Fh t a||Fh t b):=by
 induction a with
 |nil=>simp[Fh]
 |cons x a ih=>simp only[AlA,Fh,ih]; cases Nat.beq x t<;>simp
theorem Ph {t:Nat}{l:List Nat}(h:t∉l):Fh t l=false:=by rw[←Bool.not_eq_true,Gh]; exact h
theorem AhT: ∀{s:AS} {rs:FQ},Wf s→Chn ρ P N D0 ops s rs→(G6 N s rs).ob=obL (fun _=>true) rs s.ob
 |s,[],_,_=>by
  simp only[obL,mkL,usL,DY,Fh,G6,AkX];exact(List.filter_eq_self.2 fun _ _=>rfl).symm
 |s,a::rs,w,c=>by
  have sh: ∀(l:FQ) (k:Nat),mkL (fun _=>true) k l=mkL (fun _=>true) 0 l:=by
   intro l;induction l with
   |nil=>intro _; rfl
   |cons b l ih=>intro k; simp only[mkL]; rw[ih (k+1),ih (0+1)]
  have su: ∀(l:FQ) (k:Nat),usL (fun _=>true) k l=usL (fun _=>true) 0 l:=by
   intro l;induction l with
   |nil=>intro _; rfl
   |cons b l ih=>intro k; simp only[usL]; rw[ih (k+1),ih (0+1)]
  show(G6 N (after N s a.1 a.2) rs).ob=_;rw[AhT (Ms w c.2.1 c.1.1) c.2.2];simp only[obL,mkL,usL,cond_true,sh rs (0+1),su rs (0+1)];simp only[after,DY,List.filter_append,List.filter_filter];have big: ∀q∈a.2.made++mkL (fun _=>true) 0 rs,Fh q.1 (tids a.2.use)=false:=by
   intro q hq;refine Ph fun h=> ?_;have h1:=YF w c.2.1 _ h;rcases AkS.1 hq with k|k
   ·have:=(c.2.1.mlt q.1 (by simp only[tids,List.mem_map]; exact⟨q,k,rfl⟩)).1; omega
   ·have k2:=(Vp c.2.2).2 q.1 (by simp only[tids,List.mem_map]; exact⟨q,k,rfl⟩);have k3:a.2.nx≤q.1:=k2;have:=c.1.1;omega
  rw[Akw];congr 1
  ·apply List.filter_congr;intro q _;rw[Jm]; simp only[tids];cases Fh q.1 (a.2.use.map (·.1))<;>cases Fh q.1 (usL (fun _=>true) 0 rs)<;>rfl
  ·congr 1
   ·apply List.filter_congr;intro q hq;rw[Jm,big q (List.mem_append_left _ hq),Alx]
   ·apply List.filter_congr;intro q hq;rw[Jm,big q (List.mem_append_right _ hq),Alx]
theorem Ad3: ∀{s:AS} {rs:FQ} {i:Nat} {x:Tok},x∈(G6 N s (rs.take i)).ob→x∈s.ob∨∃(j:Nat) (q:Oper×Stp),j<i∧rs[j]? =some q∧x∈q.2.made
 |s,[],i,x,h=>by simp[G6]at h; exact .inl h
 |s,a::rs,0,x,h=> .inl h
 |s,a::rs,i+1,x,h=>by
  have h':x∈(G6 N (after N s a.1 a.2) (rs.take i)).ob:=h;rcases Ad3 h' with q|⟨j,q,hj,e,m⟩
  ·simp only[after,AkS,DY,List.mem_filter]at q;rcases q with q|q
   ·exact .inl q.1
   ·exact .inr ⟨0,a,by omega,rfl,q⟩
  ·exact .inr ⟨j+1,q,by omega,by simpa using e,m⟩
theorem AgW {l:List Oper}{i j:Nat}{L:Nat→Bool}(h:anc (Rm l []) i j=true)(hd:Gb l.toArray L i=true)(hc: ∀k,L k=true→Gb l.toArray L k=true):L j=true:=by
 unfold anc at h;have A:=Zp (ops:=l.toArray) l [] (fun j=>by simp) (fun _ _ h=>by simp at h);cases e:(Rm l [])[i]? with
 |none=>rw[List.getD_eq_getElem?_getD,e]at h; simp at h
 |some m=>rw[List.getD_eq_getElem?_getD,e]at h; exact A i m e L hd hc j h
theorem TH {use rd l:List Tok}(hl:(tids l).Nodup)(hn:(tids (use++rd)).Nodup)(hs: ∀p∈use++rd,p∈l):(DY (tids use) l).Perm (rd++DY (tids (use++rd)) l):=by
 have hn1:(tids (DY (tids use) l)).Nodup:=by
  simp only[tids,DY]; exact List.Nodup.sublist (Alv _ List.filter_sublist) hl
 simp only[tids,Ak3]at hn;have hn2:=List.nodup_append.1 hn;have:=HW (ts:=rd) hn1 hn2.2.1 (fun p hp=>by
  simp only[DY,List.mem_filter];refine⟨hs p (List.mem_append_right _ hp),?_⟩;have:Fh p.1 (tids use)=false:=Ph fun q=>hn2.2.2 _ q _ (List.mem_map_of_mem hp) rfl;simp[this])
 refine this.trans (AkU _ (List.Perm.of_eq ?_));simp only[DY,List.filter_filter];apply List.filter_congr;intro q _;rw[show tids (use++rd)=tids use++tids rd by simp[tids],Jm];cases Fh q.1 (tids use)<;>cases Fh q.1 (tids rd)<;>rfl
theorem AjP {id:Nat}{l:List Oper}{F:AS→FQ→Prop}{Q:DJ}{As:List Ow}{s:AS}{η:Env}{m:Mem}{f:Fr}{w:World}(hm:P.follows .mixedOrders=true)
  (H:FT ρ P N D0 l.toArray F l s []) (g:Gm As s η m f w) (hF: ∀s' h',F s' h'→Vh l h'=true)
  (k: ∀s' h',F s' h'→∀η' M f' w',η.le η'→m≤M→Gm As s' η' M f' w'→Q .normal f' w'):wpc ρ P N D0 (.region id l.toArray true) Q f w:=by
 obtain⟨rs,hrs,hFin,hC⟩:=AhM H;simp only[Ak2]at hFin;have hB:=hF _ _ hFin;simp only[Vh,Aks]at hB;obtain⟨hB1,hB2⟩:=hB;have hlen:rs.length=l.length:=by rw[←hrs]; simp
 have at_: ∀{i:Nat} {o:Oper},l[i]? =some o→∃p:Oper×Stp,rs[i]? =some p∧p.1=o:=by
  intro i o h;rw[←hrs,AkP]at h;simp only[Akx]at h;obtain⟨p,a,b⟩:=h; exact⟨p,a,b⟩
 have pr: ∀{i j:Nat} {p q:Oper×Stp},rs[i]? =some p→rs[j]? =some q→i≠j→Pe l.toArray (Rm l []) i p j q=true:=by
  intro i j p q hi hj ne;have:=XU (k:=0) (by simpa using Yv (k:=0) hB2 hi) hj (by simpa using ne);simpa using this
 let I:(Nat→Bool)→Fr→World→Prop:=fun L f' w'=> ∃η' M,η.le η'∧m≤M∧(∀t,Rel η' M (get (slL N L 0 rs s.sl) t) (f' t))∧fzOk η' M s.fz∧
  (∀n,η' n≠none→n<s.nx∨∃(i:Nat) (p:Oper×Stp),L i=true∧rs[i]? =some p∧(G6 N s (rs.take i)).nx≤n∧n<p.2.nx)∧St M (reps η' M (obL L rs s.ob)++As) w'
 have nod: ∀L:Nat→Bool,(tids (s.ob++mkL L 0 rs)).Nodup:=by
  intro L;have c:=Vp hC;have e:(tids (s.ob++mkL (fun _=>true) 0 rs)).Nodup:=by
   simp only[tids,Ak3];refine List.nodup_append.2 ⟨g.wf.nd,c.1,fun x hx y hy e=> ?_⟩;have:=g.wf.lt x hx;have:=c.2 y hy;omega
  simp only[tids]at e⊢;exact e.sublist (Alv _ (List.Sublist.append_left X5 _))
 refine YB (k:=l.length) hm hB1 ?_ (AkC _) I ?_ ?_ ?_
 ·have:=Oz l [];simp only[Vg,AjO,AkI,List.mem_range];intro i hi;rw[this]at hi;simp only[AkY,Ak9]at hi;have:Nat.blt i l.length=true:=by simp[Nat.blt_eq,hi]
  simp[this]
 ·refine⟨η,m,Env.le_refl,Mem.rfl' m,?_,g.fz,fun n h=> .inl (g.dom n h),?_⟩
  ·have e0: ∀(l:FQ) (k:Nat) (s:Sl),slL N (fun _=>false) k l s=s:=by
    intro l;induction l with
    |nil=>intro _ _; rfl
    |cons b l ih=>intro k s; simp only[slL,cond_false]; exact ih _ _
   rw[e0]; exact g.slr
  ·have e1: ∀(l:FQ) (k:Nat),mkL (fun _=>false) k l=[]:=by
    intro l;induction l with
    |nil=>intro _; rfl
    |cons b l ih=>intro k; simp only[mkL,cond_false,ih]; rfl
   have e2: ∀(l:FQ) (k:Nat),usL (fun _=>false) k l=[]:=by
    intro l;induction l with
    |nil=>intro _; rfl
    |cons b l ih=>intro k; simp only[usL,cond_false,ih]; rfl
   have:obL (fun _=>false) rs s.ob=s.ob:=by simp[obL,e1,e2,DY,Fh]
   rw[this];exact St.drew g.st _
 ·rintro i o L f' w' hik ho hLi hdep hcl ⟨η',M,e1,e2,hsl,hfz,hdom,hS⟩;obtain⟨p,hp,rfl⟩:=at_ ho;obtain⟨hT,hSO⟩:=AhU hC hp;have hwi:Wf (G6 N s (rs.take i)):=Ad2 g.wf (Rq hC);have before: ∀j,anc (Rm l []) i j=true→L j=true:=fun j h=>AgW h hdep hcl;have behind: ∀j,anc (Rm l []) j i=true→L j=false:=fun j h=>by
   cases e:L j with
   |false=>rfl
   |true=>have:=AgW h (hcl j e) hcl; rw[hLi]at this; cases this
  have hrd: ∀t∈rds l.toArray p.1,Rel η' M (get (G6 N s (rs.take i)).sl t) (f' t):=by
   intro t ht;have h1:=hsl t;have h2:get (slL N L 0 rs s.sl) t=get (slL N (fun j=>Nat.blt j i) 0 rs s.sl) t:=by
    refine J3 rfl fun j q hq hd=> ?_;simp only[Ak9];by_cases ne:i=j
    ·subst ne; rw[hLi];cases q:Nat.blt i i
     · rfl
     · exact absurd (Cy q) (by omega)
    ·have pb:=pr hp hq ne;simp only[Pe,Aks]at pb;have h3:=Td pb.2.2.1 (by
       unfold isD at hd;unfold dIn;cases hqd:q.1.dst with
       |none=>rw[hqd]at hd; cases hd
       |some d=>rw[hqd]at hd; have:=Aku hd; subst this; simp only; rw[Gh]; exact ht)
     cases hb:Nat.blt j i
     · rw[hb]at h3; exact behind j h3
     · rw[hb]at h3; exact before j h3
   have h4:slL N (fun j=>Nat.blt j i) 0 rs s.sl=(G6 N s (rs.take i)).sl:=by
    rw[UD (t:=t) (i:=i) (fun j hj=>by simpa[Nat.blt_eq]using hj) (fun j hj=>by
     have: ¬(0+j<i):=by omega
     cases hq:Nat.blt (0+j) i
     · rfl
     · exact absurd (Cy hq) this)]
    exact(RX (fun _ _=>rfl)).symm
   rw[h2,h4]at h1;exact h1
  have hsub: ∀x∈p.2.use++p.2.rd,x∈obL L rs s.ob:=by
   intro x hx;simp only[obL,DY,List.mem_filter,AkS];have hxt:x.1∈tids p.2.use++tids p.2.rd:=by
    rcases AkS.1 hx with q|q
    ·exact List.mem_append_left _ (by simp only[tids,List.mem_map]; exact⟨x,q,rfl⟩)
    ·exact List.mem_append_right _ (by simp only[tids,List.mem_map]; exact⟨x,q,rfl⟩)
   constructor
   ·rcases Ad3 (hSO.sub x hx)with q|⟨j,q,hj,hq,hm⟩
    ·exact .inl q
    ·right;have pb:=pr hp hq (by omega);simp only[Pe,Aks]at pb;have h3:=Td pb.2.1 (JP.2 ⟨x.1,by simp only[tids,List.mem_map]; exact⟨x,hm,rfl⟩,hxt⟩);exact X7.2 ⟨j,q,hq,by simpa using before j h3,hm⟩
   ·have:x.1∉usL L 0 rs:=by
     intro h;obtain⟨j,q,hq,hL,hu⟩:=GY.1 h;simp only[Ak9]at hL;have ne:j≠i:=by intro e; subst e; rw[hLi]at hL; cases hL
     have pb:=pr hq hp ne;simp only[Pe,Aks]at pb;have h3:=Td pb.1 (JP.2 ⟨x.1,hu,hxt⟩);have:=behind j h3;rw[hL]at this; cases this
    simp[Ph this]
  have hnd:(tids (obL L rs s.ob)).Nodup:=by
   simp only[obL,tids,DY];exact List.Nodup.sublist (Alv _ List.filter_sublist) (nod L)
  have hS':=St.rp hS (HW hnd hSO.nd hsub);rw[AU,Akw]at hS';refine hT.2 [] _ η' M f' w' _ (LY hrd) hfz (fun n h1 h2=> ?_) hS' fun η2 M2 w2 val a1 a2 a3 a4 S2=> ?_
  ·cases q:η' n with
   |none=>rfl
   |some v=>
    exfalso;rcases hdom n (by rw[q]; simp)with h|⟨j,r,hj,hr,h3,h4⟩
    ·have:=ZU (Rq (i:=i) hC); omega
    ·have ne:j≠i:=by intro e; subst e; rw[hLi]at hj; cases hj
     rcases Nat.lt_or_gt_of_ne ne with lt|gt
     · have:=Vo (i:=j+1) (j:=i) hC (by omega);rw[Lu hr]at this;have:r.2.nx≤(G6 N s (rs.take i)).nx:=this;omega
     · have:=Vo (i:=i+1) (j:=j) hC (by omega);rw[Lu hp]at this;have:p.2.nx≤(G6 N s (rs.take j)).nx:=this;omega
  ·refine Co (nrm ⟨η2,M2,Env.le_tr e1 a1,Mem.tr e2 a2,?_,hfz.up a1 a2,?_,?_⟩)
   ·intro t;have same:isD p.1.dst t=false→get (slL N (LS L i) 0 rs s.sl) t=get (slL N L 0 rs s.sl) t:=by
     intro hd;refine J3 rfl fun j q hq hqd=> ?_;simp only[Ak9];refine Gv (Gw.beq_ne ?_);intro e; subst e;rw[hp]at hq; cases hq;rw[hd]at hqd; cases hqd
    cases hd:p.1.dst with
    |none=>
     rw[same (by rw[hd]; rfl)];exact(hsl t).up a1 a2
    |some d=>
     simp only[upo,up];cases hN:Nat.blt d N
     ·
       simp only[Bool.and_false,cond_false];have:get (slL N (LS L i) 0 rs s.sl) t=get (slL N L 0 rs s.sl) t:=by
        have nw: ∀(l:FQ) (k:Nat) (sl:Sl),(∀j (q:Oper×Stp),l[j]? =some q→k+j=i→q=p)→slL N (LS L i) k l sl=slL N L k l sl:=by
         intro l;induction l with
         |nil=>intro _ _ _; rfl
         |cons b l ih=>
          intro k sl hq;simp only[slL];rw[ih (k+1) _ fun j q e h=>hq (j+1) q (by simpa using e) (by omega)];by_cases e:k=i
          ·have:=hq 0 b rfl (by omega); subst this;have:setS N sl b.1.dst b.2.v=sl:=by rw[hd]; simp[setS,hN]
           rw[this]; cases LS L i k<;>cases L k<;>rfl
          ·rw[Gv (Gw.beq_ne e)]
        rw[nw rs 0 s.sl fun j q e h=>by
         have:j=i:=by omega
         subst this; rw[hp]at e; cases e; rfl]
       rw[this];exact(hsl t).up a1 a2
     · simp only[Bool.and_true];cases ht:Nat.beq t d
       ·simp only[cond_false];rw[same (by rw[hd]; exact Gw.beq_ne (fun e=>by subst e; simp at ht))];exact(hsl t).up a1 a2
       ·have:=Aku ht; subst this;simp only[cond_true];rw[UE hd hN hp (by simpa using IL) fun j q hq hlt hqd=> ?_]
        ·exact XB a4
        ·simp only[Ak9];rw[Gv (Gw.beq_ne (by omega))];have pb:=pr hp hq (by omega);simp only[Pe,Aks]at pb;refine behind j (Td pb.2.2.2 ?_);have hlt':Nat.blt i j=true:=by simp[Nat.blt_eq,hlt]
         rw[hd,hlt'];unfold isD at hqd;unfold dEq;cases hq2:q.1.dst with
         |none=>rw[hq2]at hqd; cases hqd
         |some d'=>rw[hq2]at hqd; have:=Aku hqd; subst this; simp
   ·intro n hn;rcases a3 n hn with h|h
    ·rcases hdom n h with h|⟨j,r,hj,hr,h3⟩
     · exact .inl h
     · exact .inr ⟨j,r,P3 hj,hr,h3⟩
    ·exact .inr ⟨i,p,IL,hp,h⟩
   ·have mk:=X6 (L:=L) (i:=i) (l:=rs) (k:=0) hp (by simpa using hLi);simp only[Ak9]at mk;have us: ∀t,Fh t (usL (LS L i) 0 rs)=(Fh t (usL L 0 rs)||Fh t (tids p.2.use)):=by
     intro t;rw[←Jm];have: ∀(a b:List Nat),(t∈a↔t∈b)→Fh t a=Fh t b:=by
       intro a b h;rw[Aly,Gh,Gh]; exact h
     apply this;simp only[AkS];constructor
     · intro h;obtain⟨j,q,hq,hL,hu⟩:=GY.1 h;simp only[Ak9]at hL;by_cases e:j=i
       ·subst e; rw[hp]at hq; cases hq; exact .inr hu
       ·rw[Gv (Gw.beq_ne e)]at hL;exact .inl (GY.2 ⟨j,q,hq,by simpa using hL,hu⟩)
     · rintro(h|h)
       ·obtain⟨j,q,hq,hL,hu⟩:=GY.1 h;exact GY.2 ⟨j,q,hq,P3 hL,hu⟩
       ·exact GY.2 ⟨i,p,hp,by simpa using IL,h⟩
    have hperm:(obL (LS L i) rs s.ob).Perm (p.2.made++(p.2.rd++DY (tids (p.2.use++p.2.rd)) (obL L rs s.ob))):=by
     have q1:(obL (LS L i) rs s.ob).Perm (DY (usL (LS L i) 0 rs) ((s.ob++mkL L 0 rs)++p.2.made)):=by
       simp only[obL,DY];refine List.Perm.filter _ ?_;rw[Akw];exact AkU _ mk
     refine q1.trans ?_;have q2:DY (usL (LS L i) 0 rs) ((s.ob++mkL L 0 rs)++p.2.made)=DY (tids p.2.use) (obL L rs s.ob)++p.2.made:=by
       simp only[DY,obL,List.filter_append,List.filter_filter,us];have e1: ∀(l:List Tok),l.filter (fun q=> !(Fh q.1 (usL L 0 rs)||Fh q.1 (tids p.2.use)))=l.filter (fun q=> !Fh q.1 (tids p.2.use)&& !Fh q.1 (usL L 0 rs)):=fun l=>by
        apply List.filter_congr; intro q _;cases Fh q.1 (usL L 0 rs)<;>cases Fh q.1 (tids p.2.use)<;>rfl
       rw[e1,e1];congr 1;rw[List.filter_eq_self];intro q hq;have ht:q.1∈tids p.2.made:=by simp only[tids,List.mem_map]; exact⟨q,hq,rfl⟩
       have n1:Fh q.1 (usL L 0 rs)=false:=Ph fun h=>by
        obtain⟨j,r,hr,hL,hu⟩:=GY.1 h;simp only[Ak9]at hL;have ne:j≠i:=by intro e; subst e; rw[hLi]at hL; cases hL
        have pb:=pr hr hp ne;simp only[Pe,Aks]at pb;have h3:=Td pb.2.1 (JP.2 ⟨q.1,ht,List.mem_append_left _ hu⟩);have:=behind j h3;rw[hL]at this; cases this
       have n2:Fh q.1 (tids p.2.use)=false:=Ph fun h=>by
        have:=YF hwi hSO _ h;have:=(hSO.mlt _ ht).1;omega
       simp[n1,n2]
     rw[q2];refine List.perm_append_comm.trans (AkU _ (TH hnd hSO.nd hsub))
    refine St.rp (a:=p.2.made++(p.2.rd++DY (tids (p.2.use++p.2.rd)) (obL L rs s.ob))) ?_ hperm.symm;rw[AU,AU,Akw,Akw];rw[AU,Akw]at S2;have T1:=S2.perm ((AkU (reps η2 M2 p.2.made) (AkE (reps η2 M2 p.2.rd) (reps η' M (DY (tids (p.2.use++p.2.rd)) (obL L rs s.ob))) As)).trans (AkE (reps η2 M2 p.2.made) (reps η' M (DY (tids (p.2.use++p.2.rd)) (obL L rs s.ob))) (reps η2 M2 p.2.rd++As)));have T2:=St.ru a1 a2 T1;exact T2.perm ((AkE _ _ _).trans (AkU _ (AkE _ _ _)))
 ·rintro L f' w' hall ⟨η',M,e1,e2,hsl,hfz,hdom,hS⟩;rw[List.drop_length];refine Co (k _ _ hFin η' M f' w' e1 e2 ⟨fun t=> ?_,by rw[Ab2]; exact hfz,fun n hn=> ?_,?_,Ad2 g.wf hC⟩)
  ·have:get (G6 N s rs).sl t=get (slL N L 0 rs s.sl) t:=by
    rw[RX (k:=0) (L:=L) fun j hj=>by simpa using hall j (by omega)]
   rw[this]; exact hsl t
  ·rcases hdom n hn with h|⟨i,p,_,hp,_,h⟩
   ·have:=ZU hC; omega
   ·have:=Vo (i:=i+1) (j:=rs.length) hC (by have:=(AkR.1 hp).1; omega);rw[Lu hp,List.take_length]at this;have:p.2.nx≤(G6 N s rs).nx:=this;omega
  ·rw[AhT g.wf hC];have e1: ∀(l':FQ) (k:Nat),(∀j,j<l'.length→L (k+j)=true)→mkL L k l'=mkL (fun _=>true) k l':=by
    intro l';induction l' with
    |nil=>intro _ _; rfl
    |cons b l' ih=>intro k h; simp only[mkL]; rw[show L k=true from h 0 (by simp),ih (k+1) fun j hj=>by have:=h (j+1) (by simpa using hj); rwa [show k+(j+1)=k+1+j by omega]at this]
   have e2: ∀(l':FQ) (k:Nat),(∀j,j<l'.length→L (k+j)=true)→usL L k l'=usL (fun _=>true) k l':=by
    intro l';induction l' with
    |nil=>intro _ _; rfl
    |cons b l' ih=>intro k h; simp only[usL]; rw[show L k=true from h 0 (by simp),ih (k+1) fun j hj=>by have:=h (j+1) (by simpa using hj); rwa [show k+(j+1)=k+1+j by omega]at this]
   have hL: ∀j,j<rs.length→L (0+j)=true:=fun j hj=>by simpa using hall j (by omega)
   have:obL (fun _=>true) rs s.ob=obL L rs s.ob:=by simp only[obL,e1 rs 0 hL,e2 rs 0 hL]
   rw[this]; exact hS
end
def Ch0 (N:Nat):AS→FQ→Prop
 |_,[]=>True
 |s,p::l=>s.nx≤p.2.nx∧MM s p.2∧Ch0 N (after N s p.1 p.2) l
section
variable {N:Nat}
theorem AhY: ∀{s:AS} {rs:FQ} {i:Nat} {p:Oper×Stp},Ch0 N s rs→rs[i]? =some p→MM (G6 N s (rs.take i)) p.2
 |s,[],_,_,_,h=>by simp at h
 |s,a::rs,0,p,c,h=>by simp at h; subst h; exact c.2.1
 |s,a::rs,i+1,p,c,h=>by
  have:=AhY (i:=i) c.2.2 (by simpa using h);exact this
theorem AhW: ∀{s:AS} {rs:FQ},Wf s→Ch0 N s rs→Wf (G6 N s rs)
 |s,[],w,_=>w
 |s,a::rs,w,c=>by
  show Wf (G6 N (after N s a.1 a.2) rs);exact AhW (Ms w c.2.1 c.1) c.2.2
theorem Rr: ∀{s:AS} {rs:FQ} {i:Nat},Ch0 N s rs→Ch0 N s (rs.take i)
 |s,[],_,_=>by rw[List.take_nil]; trivial
 |s,a::rs,0,_=>trivial
 |s,a::rs,i+1,c=>⟨c.1,c.2.1,Rr c.2.2⟩
theorem Ad9: ∀{s:AS} {rs:FQ},Ch0 N s rs→s.nx≤(G6 N s rs).nx
 |s,[],_=>AkC _
 |s,a::rs,c=>Nat.le_trans c.1 (Ad9 c.2.2)
theorem Ys: ∀{s:AS} {rs:FQ} {i j:Nat},Ch0 N s rs→i≤j→(G6 N s (rs.take i)).nx≤(G6 N s (rs.take j)).nx
 |s,rs,0,j,c,_=>by simpa[G6]using Ad9 (Rr (i:=j) c)
 |s,[],i+1,j,_,_=>by simp
 |s,a::rs,i+1,j+1,c,h=>Ys (s:=after N s a.1 a.2) (i:=i) (j:=j) c.2.2 (by omega)
theorem Vq: ∀{s:AS} {rs:FQ},Ch0 N s rs→(tids (mkL (fun _=>true) 0 rs)).Nodup∧∀t∈tids (mkL (fun _=>true) 0 rs),s.nx≤t
 |s,[],_=>⟨List.nodup_nil,fun _ h=>by cases h⟩
 |s,a::rs,c=>by
  have sh: ∀(l:FQ) (k:Nat),mkL (fun _=>true) k l=mkL (fun _=>true) 0 l:=by
   intro l;induction l with
   |nil=>intro _; rfl
   |cons b l ih=>intro k; simp only[mkL]; rw[ih (k+1),ih (0+1)]
  obtain⟨h1,h2⟩:=Vq c.2.2;have e:tids (mkL (fun _=>true) 0 (a::rs))=tids a.2.made++tids (mkL (fun _=>true) 0 rs):=by
   simp only[mkL,cond_true,tids,Ak3]; rw[sh]
  rw[e];constructor
  ·refine List.nodup_append.2 ⟨c.2.1.mnd,h1,fun x hx y hy e=> ?_⟩;have p:=(c.2.1.mlt x hx).2;have q:a.2.nx≤y:=h2 y hy;omega
  ·intro t ht;rcases AkS.1 ht with q|q
   ·exact(c.2.1.mlt t q).1
   ·exact Nat.le_trans c.1 (h2 t q)theorem ch0_ob: ∀{s:AS} {rs:FQ},Wf s→Ch0 N s rs→(G6 N s rs).ob=obL (fun _=>true) rs s.ob
 |s,[],_,_=>by
  simp only[obL,mkL,usL,DY,Fh,G6,AkX];exact(List.filter_eq_self.2 fun _ _=>rfl).symm
 |s,a::rs,w,c=>by
  have sh: ∀(l:FQ) (k:Nat),mkL (fun _=>true) k l=mkL (fun _=>true) 0 l:=by
   intro l;induction l with
   |nil=>intro _; rfl
   |cons b l ih=>intro k; simp only[mkL]; rw[ih (k+1),ih (0+1)]
  have su: ∀(l:FQ) (k:Nat),usL (fun _=>true) k l=usL (fun _=>true) 0 l:=by
   intro l;induction l with
   |nil=>intro _; rfl
   |cons b l ih=>intro k; simp only[usL]; rw[ih (k+1),ih (0+1)]
  show(G6 N (after N s a.1 a.2) rs).ob=_;rw[ch0_ob (Ms w c.2.1 c.1) c.2.2];simp only[obL,mkL,usL,cond_true,sh rs (0+1),su rs (0+1)];simp only[after,DY,List.filter_append,List.filter_filter];have big: ∀q∈a.2.made++mkL (fun _=>true) 0 rs,Fh q.1 (tids a.2.use)=false:=by
   intro q hq;refine Ph fun h=> ?_;have h1:=YF w c.2.1 _ h;rcases AkS.1 hq with k|k
   ·have:=(c.2.1.mlt q.1 (by simp only[tids,List.mem_map]; exact⟨q,k,rfl⟩)).1; omega
   ·have k2:=(Vq c.2.2).2 q.1 (by simp only[tids,List.mem_map]; exact⟨q,k,rfl⟩);have k3:a.2.nx≤q.1:=k2;have:=c.1;omega
  rw[Akw];congr 1
  ·apply List.filter_congr;intro q _;rw[Jm]; simp only[tids];cases Fh q.1 (a.2.use.map (·.1))<;>cases Fh q.1 (usL (fun _=>true) 0 rs)<;>rfl
  ·congr 1
   ·apply List.filter_congr;intro q hq;rw[Jm,big q (List.mem_append_left _ hq),Alx]
   ·apply List.filter_congr;intro q hq;rw[Jm,big q (List.mem_append_right _ hq),Alx]
theorem Ad8: ∀{s:AS} {rs:FQ} {i:Nat} {x:Tok},x∈(G6 N s (rs.take i)).ob→x∈s.ob∨∃(j:Nat) (q:Oper×Stp),j<i∧rs[j]? =some q∧x∈q.2.made
 |s,[],i,x,h=>by simp[G6]at h; exact .inl h
 |s,a::rs,0,x,h=> .inl h
 |s,a::rs,i+1,x,h=>by
  have h':x∈(G6 N (after N s a.1 a.2) (rs.take i)).ob:=h;rcases Ad8 h' with q|⟨j,q,hj,e,m⟩
  ·simp only[after,AkS,DY,List.mem_filter]at q;rcases q with q|q
   ·exact .inl q.1
   ·exact .inr ⟨0,a,by omega,rfl,q⟩
  ·exact .inr ⟨j+1,q,by omega,by simpa using e,m⟩
end
section
variable (ρ:Option Nat)(P:Program)(N:Nat)(D0:Dw)
def TriP (ops:Array Oper)(o:Oper)(fz:Fz)(sl:Sl)(rd:List Tok)(As:List Ow)(η0:Env)(m0:Mem)(Q:DJ):Prop:= ∀(η:Env) (m:Mem) (f:Fr) (w:World) (Bs:List Ow),(∀t,Rel η m (get sl t) (f t))→fzOk η m fz→η0.le η→m0≤m→St m (reps η m rd++(Bs++As)) w→wpl ρ P N D0 ops [o] (J2 (fun _ _=>False) Q) f w
def FP (As:List Ow)(η0:Env)(m0:Mem)(Q:DJ)(l rest:List Oper)(s:AS)(h:FQ):Prop:= ∃(rs:FQ) (bad:Nat→Bool) (k:Nat) (p:Oper×Stp) (ks:List Nat),rs.map (·.1)=rest∧Ch0 N s rs∧(∀i q,rs[i]? =some q→bad i=false→Tri ρ P N D0 l.toArray q.1 s.fz (rst (rds l.toArray q.1) (G6 N s (rs.take i)).sl) (G6 N s (rs.take i)).nx q.2)∧Vh l (h++rs)=true∧rs[k]? =some p∧bad k=true∧(∀i,i<rs.length→bad i=true→i=k∨anc (Rm l []) (h.length+i) (h.length+k)=true)∧p.2.use=[]∧(ks.all fun t=>l.all fun o=> !isD o.dst t)=true∧TriP ρ P N D0 l.toArray p.1 s.fz (rst (rds l.toArray p.1++ks) (G6 N s (rs.take k)).sl) p.2.rd As η0 m0 Q
end
section
variable {ρ:Option Nat}{P:Program}{N:Nat}{D0:Dw}
theorem FP.cons {As:List Ow}{η0:Env}{m0:Mem}{Q:DJ}{l rest:List Oper}{s:AS}{h:FQ}{o:Oper}{r:Stp}(ht:Tri ρ P N D0 l.toArray o s.fz (rst (rds l.toArray o) s.sl) s.nx r)(hs:MM s r)
  (g:FP ρ P N D0 As η0 m0 Q l rest (after N s o r) (h++[(o,r)])):FP ρ P N D0 As η0 m0 Q l (o::rest) s h:=by
 obtain⟨rs,bad,k,p,ks,h1,h2,h3,h4,h5,h6,h7,h8,h9⟩:=g;refine⟨(o,r)::rs,fun i=>match i with|0=>false|i+1=>bad i,k+1,p,ks,by simp[h1],⟨ht.1,hs,h2⟩,?_,by simpa using h4,by simpa using h5,h6,?_,h8,h9⟩
 ·intro i q hq hb;cases i with
  |zero=>simp at hq; subst hq; exact ht
  |succ i=>exact h3 i q (by simpa using hq) hb
 ·intro i hi hb;cases i with
  |zero=>cases hb
  |succ i=>
   rcases h7 i (by simpa using hi) hb with e|e
   ·exact .inl (by omega)
   ·right;rw[Akz,List.length_singleton]at e;rw[show h.length+(i+1)=h.length+1+i from by omega,show h.length+(k+1)=h.length+1+k from by omega];exact e
theorem AjQ {id:Nat}{l:List Oper}{Q:DJ}{As:List Ow}{η0:Env}{m0:Mem}{s:AS}{η:Env}{m:Mem}{f:Fr}{w:World}(hm:P.follows .mixedOrders=true)
  (H:FP ρ P N D0 As η0 m0 Q l l s []) (g:Gm As s η m f w) (hη0:η0.le η) (hm0:m0≤m):wpc ρ P N D0 (.region id l.toArray true) Q f w:=by
 obtain⟨rs,bad,kp,pp,ks,hrs,hC,hTri,hB,hkp,hbk,hcl0,huse,hks,hTP⟩:=H;simp only[Ak2]at hB;simp only[AkY,Ak9]at hcl0;simp only[Vh,Aks]at hB;obtain⟨hB1,hB2⟩:=hB;have hlen:rs.length=l.length:=by rw[←hrs]; simp
 have at_: ∀{i:Nat} {o:Oper},l[i]? =some o→∃p:Oper×Stp,rs[i]? =some p∧p.1=o:=by
  intro i o h;rw[←hrs,AkP]at h;simp only[Akx]at h;obtain⟨p,a,b⟩:=h; exact⟨p,a,b⟩
 have pr: ∀{i j:Nat} {p q:Oper×Stp},rs[i]? =some p→rs[j]? =some q→i≠j→Pe l.toArray (Rm l []) i p j q=true:=by
  intro i j p q hi hj ne;have:=XU (k:=0) (by simpa using Yv (k:=0) hB2 hi) hj (by simpa using ne);simpa using this
 let I:(Nat→Bool)→Fr→World→Prop:=fun L f' w'=>(∀j,L j=true→bad j=false)∧∃η' M,η.le η'∧m≤M∧(∀t,Rel η' M (get (slL N L 0 rs s.sl) t) (f' t))∧fzOk η' M s.fz∧
  (∀n,η' n≠none→n<s.nx∨∃(i:Nat) (p:Oper×Stp),L i=true∧rs[i]? =some p∧(G6 N s (rs.take i)).nx≤n∧n<p.2.nx)∧St M (reps η' M (obL L rs s.ob)++As) w'
 have nod: ∀L:Nat→Bool,(tids (s.ob++mkL L 0 rs)).Nodup:=by
  intro L;have c:=Vq hC;have e:(tids (s.ob++mkL (fun _=>true) 0 rs)).Nodup:=by
   simp only[tids,Ak3];refine List.nodup_append.2 ⟨g.wf.nd,c.1,fun x hx y hy e=> ?_⟩;have:=g.wf.lt x hx;have:=c.2 y hy;omega
  simp only[tids]at e⊢;exact e.sublist (Alv _ (List.Sublist.append_left X5 _))
 refine YB (k:=l.length) hm hB1 ?_ (AkC _) I ?_ ?_ ?_
 ·have:=Oz l [];simp only[Vg,AjO,AkI,List.mem_range];intro i hi;rw[this]at hi;simp only[AkY,Ak9]at hi;have:Nat.blt i l.length=true:=by simp[Nat.blt_eq,hi]
  simp[this]
 ·refine⟨fun _ h=>(by cases h),η,m,Env.le_refl,Mem.rfl' m,?_,g.fz,fun n h=> .inl (g.dom n h),?_⟩
  ·have e0: ∀(l:FQ) (k:Nat) (s:Sl),slL N (fun _=>false) k l s=s:=by
    intro l;induction l with
    |nil=>intro _ _; rfl
    |cons b l ih=>intro k s; simp only[slL,cond_false]; exact ih _ _
   rw[e0]; exact g.slr
  ·have e1: ∀(l:FQ) (k:Nat),mkL (fun _=>false) k l=[]:=by
    intro l;induction l with
    |nil=>intro _; rfl
    |cons b l ih=>intro k; simp only[mkL,cond_false,ih]; rfl
   have e2: ∀(l:FQ) (k:Nat),usL (fun _=>false) k l=[]:=by
    intro l;induction l with
    |nil=>intro _; rfl
    |cons b l ih=>intro k; simp only[usL,cond_false,ih]; rfl
   have:obL (fun _=>false) rs s.ob=s.ob:=by simp[obL,e1,e2,DY,Fh]
   rw[this];exact St.drew g.st _
 ·rintro i o L f' w' hik ho hLi hdep hcl ⟨hgood,η',M,e1,e2,hsl,hfz,hdom,hS⟩;obtain⟨p,hp,rfl⟩:=at_ ho;have hSO:=AhY hC hp;have hwi:Wf (G6 N s (rs.take i)):=AhW g.wf (Rr hC);have before: ∀j,anc (Rm l []) i j=true→L j=true:=fun j h=>AgW h hdep hcl;have behind: ∀j,anc (Rm l []) j i=true→L j=false:=fun j h=>by
   cases e:L j with
   |false=>rfl
   |true=>have:=AgW h (hcl j e) hcl; rw[hLi]at this; cases this
  have hrd: ∀t∈rds l.toArray p.1,Rel η' M (get (G6 N s (rs.take i)).sl t) (f' t):=by
   intro t ht;have h1:=hsl t;have h2:get (slL N L 0 rs s.sl) t=get (slL N (fun j=>Nat.blt j i) 0 rs s.sl) t:=by
    refine J3 rfl fun j q hq hd=> ?_;simp only[Ak9];by_cases ne:i=j
    ·subst ne; rw[hLi];cases q:Nat.blt i i
     · rfl
     · exact absurd (Cy q) (by omega)
    ·have pb:=pr hp hq ne;simp only[Pe,Aks]at pb;have h3:=Td pb.2.2.1 (by
       unfold isD at hd;unfold dIn;cases hqd:q.1.dst with
       |none=>rw[hqd]at hd; cases hd
       |some d=>rw[hqd]at hd; have:=Aku hd; subst this; simp only; rw[Gh]; exact ht)
     cases hb:Nat.blt j i
     · rw[hb]at h3; exact behind j h3
     · rw[hb]at h3; exact before j h3
   have h4:slL N (fun j=>Nat.blt j i) 0 rs s.sl=(G6 N s (rs.take i)).sl:=by
    rw[UD (t:=t) (i:=i) (fun j hj=>by simpa[Nat.blt_eq]using hj) (fun j hj=>by
     have: ¬(0+j<i):=by omega
     cases hq:Nat.blt (0+j) i
     · rfl
     · exact absurd (Cy hq) this)]
    exact(RX (fun _ _=>rfl)).symm
   rw[h2,h4]at h1;exact h1
  have hsub: ∀x∈p.2.use++p.2.rd,x∈obL L rs s.ob:=by
   intro x hx;simp only[obL,DY,List.mem_filter,AkS];have hxt:x.1∈tids p.2.use++tids p.2.rd:=by
    rcases AkS.1 hx with q|q
    ·exact List.mem_append_left _ (by simp only[tids,List.mem_map]; exact⟨x,q,rfl⟩)
    ·exact List.mem_append_right _ (by simp only[tids,List.mem_map]; exact⟨x,q,rfl⟩)
   constructor
   ·rcases Ad8 (hSO.sub x hx)with q|⟨j,q,hj,hq,hm⟩
    ·exact .inl q
    ·right;have pb:=pr hp hq (by omega);simp only[Pe,Aks]at pb;have h3:=Td pb.2.1 (JP.2 ⟨x.1,by simp only[tids,List.mem_map]; exact⟨x,hm,rfl⟩,hxt⟩);exact X7.2 ⟨j,q,hq,by simpa using before j h3,hm⟩
   ·have:x.1∉usL L 0 rs:=by
     intro h;obtain⟨j,q,hq,hL,hu⟩:=GY.1 h;simp only[Ak9]at hL;have ne:j≠i:=by intro e; subst e; rw[hLi]at hL; cases hL
     have pb:=pr hq hp ne;simp only[Pe,Aks]at pb;have h3:=Td pb.1 (JP.2 ⟨x.1,hu,hxt⟩);have:=behind j h3;rw[hL]at this; cases this
    simp[Ph this]
  have hnd:(tids (obL L rs s.ob)).Nodup:=by
   simp only[obL,tids,DY];exact List.Nodup.sublist (Alv _ List.filter_sublist) (nod L)
  have hS':=St.rp hS (HW hnd hSO.nd hsub);rw[AU,Akw]at hS';cases hbi:bad i with
  |true=>
   rcases hcl0 i (by omega) hbi with e|e
   ·subst e;rw[hp]at hkp;have hkp:=Akr hkp;subst hkp;rw[huse]at hS';have hS2:St M (reps η' M p.2.rd++(reps η' M (DY (tids ([]++p.2.rd)) (obL L rs s.ob))++As)) w':=hS';have hksr: ∀t∈ks,Rel η' M (get (G6 N s (rs.take i)).sl t) (f' t):=by
     intro t ht;have h1:=hsl t;have nw: ∀(j:Nat) (q:Oper×Stp),rs[j]? =some q→isD q.1.dst t=false:=fun j q hq=>by
       have h5:l[j]? =some q.1:=by rw[←hrs,AkP,hq]; rfl
       have h6:=AkI.1 (AkI.1 hks t ht) q.1 (AkQ h5);simpa using h6
     have h2:get (slL N L 0 rs s.sl) t=get (slL N (fun j=>Nat.blt j i) 0 rs s.sl) t:=
       J3 rfl fun j q hq hd=>by rw[nw j q hq]at hd; cases hd
     have h4:slL N (fun j=>Nat.blt j i) 0 rs s.sl=(G6 N s (rs.take i)).sl:=by
       rw[UD (t:=t) (i:=i) (fun j hj=>by simpa[Nat.blt_eq]using hj) (fun j hj=>by
        have: ¬(0+j<i):=by omega
        cases hq:Nat.blt (0+j) i
        ·rfl
        ·exact absurd (Cy hq) this)]
       exact(RX (fun _ _=>rfl)).symm
     rw[h2,h4]at h1;exact h1
    refine TZ ?_ (hTP η' M f' w' _ (LY fun t ht=>(AkS.1 ht).elim (hrd t) (hksr t)) hfz (Env.le_tr hη0 e1) (Mem.tr hm0 e2) hS2);rintro e f2 w2 q;cases e with
    |normal=>exact q.elim
    |_=>exact q
   ·have h1:=before kp e;have h2:=hgood kp h1;rw[hbk]at h2;cases h2
  |false=>
  have hT:=hTri i p hp hbi;refine hT.2 [] _ η' M f' w' _ (LY hrd) hfz (fun n h1 h2=> ?_) hS' fun η2 M2 w2 val a1 a2 a3 a4 S2=> ?_
  ·cases q:η' n with
   |none=>rfl
   |some v=>
    exfalso;rcases hdom n (by rw[q]; simp)with h|⟨j,r,hj,hr,h3,h4⟩
    ·have:=Ad9 (Rr (i:=i) hC); omega
    ·have ne:j≠i:=by intro e; subst e; rw[hLi]at hj; cases hj
     rcases Nat.lt_or_gt_of_ne ne with lt|gt
     · have:=Ys (i:=j+1) (j:=i) hC (by omega);rw[Lu hr]at this;have:r.2.nx≤(G6 N s (rs.take i)).nx:=this;omega
     · have:=Ys (i:=i+1) (j:=j) hC (by omega);rw[Lu hp]at this;have:p.2.nx≤(G6 N s (rs.take j)).nx:=this;omega
  ·refine Co (nrm ⟨fun j hj=> ?_,η2,M2,Env.le_tr e1 a1,Mem.tr e2 a2,?_,hfz.up a1 a2,?_,?_⟩)
   ·by_cases q:j=i
    ·subst q; exact hbi
    ·rw[Gv (Gw.beq_ne q)]at hj; exact hgood j hj
   ·intro t;have same:isD p.1.dst t=false→get (slL N (LS L i) 0 rs s.sl) t=get (slL N L 0 rs s.sl) t:=by
     intro hd;refine J3 rfl fun j q hq hqd=> ?_;simp only[Ak9];refine Gv (Gw.beq_ne ?_);intro e; subst e;rw[hp]at hq; cases hq;rw[hd]at hqd; cases hqd
    cases hd:p.1.dst with
    |none=>
     rw[same (by rw[hd]; rfl)];exact(hsl t).up a1 a2
    |some d=>
     simp only[upo,up];cases hN:Nat.blt d N
     ·
       simp only[Bool.and_false,cond_false];have:get (slL N (LS L i) 0 rs s.sl) t=get (slL N L 0 rs s.sl) t:=by
        have nw: ∀(l:FQ) (k:Nat) (sl:Sl),(∀j (q:Oper×Stp),l[j]? =some q→k+j=i→q=p)→slL N (LS L i) k l sl=slL N L k l sl:=by
         intro l;induction l with
         |nil=>intro _ _ _; rfl
         |cons b l ih=>
          intro k sl hq;simp only[slL];rw[ih (k+1) _ fun j q e h=>hq (j+1) q (by simpa using e) (by omega)];by_cases e:k=i
          ·have:=hq 0 b rfl (by omega); subst this;have:setS N sl b.1.dst b.2.v=sl:=by rw[hd]; simp[setS,hN]
           rw[this]; cases LS L i k<;>cases L k<;>rfl
          ·rw[Gv (Gw.beq_ne e)]
        rw[nw rs 0 s.sl fun j q e h=>by
         have:j=i:=by omega
         subst this; rw[hp]at e; cases e; rfl]
       rw[this];exact(hsl t).up a1 a2
     · simp only[Bool.and_true];cases ht:Nat.beq t d
       ·simp only[cond_false];rw[same (by rw[hd]; exact Gw.beq_ne (fun e=>by subst e; simp at ht))];exact(hsl t).up a1 a2
       ·have:=Aku ht; subst this;simp only[cond_true];rw[UE hd hN hp (by simpa using IL) fun j q hq hlt hqd=> ?_]
        ·exact XB a4
        ·simp only[Ak9];rw[Gv (Gw.beq_ne (by omega))];have pb:=pr hp hq (by omega);simp only[Pe,Aks]at pb;refine behind j (Td pb.2.2.2 ?_);have hlt':Nat.blt i j=true:=by simp[Nat.blt_eq,hlt]
         rw[hd,hlt'];unfold isD at hqd;unfold dEq;cases hq2:q.1.dst with
         |none=>rw[hq2]at hqd; cases hqd
         |some d'=>rw[hq2]at hqd; have:=Aku hqd; subst this; simp
   ·intro n hn;rcases a3 n hn with h|h
    ·rcases hdom n h with h|⟨j,r,hj,hr,h3⟩
     · exact .inl h
     · exact .inr ⟨j,r,P3 hj,hr,h3⟩
    ·exact .inr ⟨i,p,IL,hp,h⟩
   ·have mk:=X6 (L:=L) (i:=i) (l:=rs) (k:=0) hp (by simpa using hLi);simp only[Ak9]at mk;have us: ∀t,Fh t (usL (LS L i) 0 rs)=(Fh t (usL L 0 rs)||Fh t (tids p.2.use)):=by
     intro t;rw[←Jm];have: ∀(a b:List Nat),(t∈a↔t∈b)→Fh t a=Fh t b:=by
       intro a b h;rw[Aly,Gh,Gh]; exact h
     apply this;simp only[AkS];constructor
     · intro h;obtain⟨j,q,hq,hL,hu⟩:=GY.1 h;simp only[Ak9]at hL;by_cases e:j=i
       ·subst e; rw[hp]at hq; cases hq; exact .inr hu
       ·rw[Gv (Gw.beq_ne e)]at hL;exact .inl (GY.2 ⟨j,q,hq,by simpa using hL,hu⟩)
     · rintro(h|h)
       ·obtain⟨j,q,hq,hL,hu⟩:=GY.1 h;exact GY.2 ⟨j,q,hq,P3 hL,hu⟩
       ·exact GY.2 ⟨i,p,hp,by simpa using IL,h⟩
    have hperm:(obL (LS L i) rs s.ob).Perm (p.2.made++(p.2.rd++DY (tids (p.2.use++p.2.rd)) (obL L rs s.ob))):=by
     have q1:(obL (LS L i) rs s.ob).Perm (DY (usL (LS L i) 0 rs) ((s.ob++mkL L 0 rs)++p.2.made)):=by
       simp only[obL,DY];refine List.Perm.filter _ ?_;rw[Akw];exact AkU _ mk
     refine q1.trans ?_;have q2:DY (usL (LS L i) 0 rs) ((s.ob++mkL L 0 rs)++p.2.made)=DY (tids p.2.use) (obL L rs s.ob)++p.2.made:=by
       simp only[DY,obL,List.filter_append,List.filter_filter,us];have e1: ∀(l:List Tok),l.filter (fun q=> !(Fh q.1 (usL L 0 rs)||Fh q.1 (tids p.2.use)))=l.filter (fun q=> !Fh q.1 (tids p.2.use)&& !Fh q.1 (usL L 0 rs)):=fun l=>by
        apply List.filter_congr; intro q _;cases Fh q.1 (usL L 0 rs)<;>cases Fh q.1 (tids p.2.use)<;>rfl
       rw[e1,e1];congr 1;rw[List.filter_eq_self];intro q hq;have ht:q.1∈tids p.2.made:=by simp only[tids,List.mem_map]; exact⟨q,hq,rfl⟩
       have n1:Fh q.1 (usL L 0 rs)=false:=Ph fun h=>by
        obtain⟨j,r,hr,hL,hu⟩:=GY.1 h;simp only[Ak9]at hL;have ne:j≠i:=by intro e; subst e; rw[hLi]at hL; cases hL
        have pb:=pr hr hp ne;simp only[Pe,Aks]at pb;have h3:=Td pb.2.1 (JP.2 ⟨q.1,ht,List.mem_append_left _ hu⟩);have:=behind j h3;rw[hL]at this; cases this
       have n2:Fh q.1 (tids p.2.use)=false:=Ph fun h=>by
        have:=YF hwi hSO _ h;have:=(hSO.mlt _ ht).1;omega
       simp[n1,n2]
     rw[q2];refine List.perm_append_comm.trans (AkU _ (TH hnd hSO.nd hsub))
    refine St.rp (a:=p.2.made++(p.2.rd++DY (tids (p.2.use++p.2.rd)) (obL L rs s.ob))) ?_ hperm.symm;rw[AU,AU,Akw,Akw];rw[AU,Akw]at S2;have T1:=S2.perm ((AkU (reps η2 M2 p.2.made) (AkE (reps η2 M2 p.2.rd) (reps η' M (DY (tids (p.2.use++p.2.rd)) (obL L rs s.ob))) As)).trans (AkE (reps η2 M2 p.2.made) (reps η' M (DY (tids (p.2.use++p.2.rd)) (obL L rs s.ob))) (reps η2 M2 p.2.rd++As)));have T2:=St.ru a1 a2 T1;exact T2.perm ((AkE _ _ _).trans (AkU _ (AkE _ _ _)))
 ·rintro L f' w' hall ⟨hgood,_⟩;have hlt:kp<rs.length:=(AkR.1 hkp).1;have h1:=hall kp (by omega);have h2:=hgood kp h1;rw[hbk]at h2;cases h2
end
inductive Kt:Type 1
 |code (c:Code)
 |blk (id:Nat)
 |scp
 |ctn (J:Fr→World→Prop)
inductive Md:Type 1
 |code (c:Code)
 |pop
 |ext (id:Nat)
 |ret
 |ops (dr:Bool) (l rest:List Oper) (h:FQ)
structure Cf:Type 1 where
 s:AS
 md:Md
 K:List Kt
def nxt (P:Program)(N:Nat)(cf:Cf):Option (Cf×Eqs):=
 match cf.md with
 | .code c=>match c with
  | .skip=>some (⟨cf.s,.pop,cf.K⟩,[])
  | .label _=>some (⟨cf.s,.pop,cf.K⟩,[])
  | .seq a b=>some (⟨cf.s,.code a,.code b::cf.K⟩,[])
  | .block id c=>some (⟨cf.s,.code c,.blk id::cf.K⟩,[])
  | .scope c=>some (⟨cf.s,.code c,.scp::cf.K⟩,[])
  | .region _ ops dr=>some (⟨cf.s,.ops dr ops.toList ops.toList [],cf.K⟩,[])
  | .exit id=>some (⟨cf.s,.ext id,cf.K⟩,[])
  | .ret=>some (⟨cf.s,.ret,cf.K⟩,[])
  |_=>none
 | .pop=>match cf.K with
  | .code c::K=>some (⟨cf.s,.code c,K⟩,[])
  | .blk _::K=>some (⟨cf.s,.pop,K⟩,[])
  | .scp::K=>some (⟨cf.s,.pop,K⟩,[])
  |_=>none
 | .ext id=>match cf.K with
  | .code _::K=>some (⟨cf.s,.ext id,K⟩,[])
  | .scp::K=>some (⟨cf.s,.ext id,K⟩,[])
  | .ctn _::K=>some (⟨cf.s,.ext id,K⟩,[])
  | .blk i::K=>bif Nat.beq id i then some (⟨cf.s,.pop,K⟩,[])else some (⟨cf.s,.ext id,K⟩,[])
  | []=>none
 | .ret=>match cf.K with
  |_::K=>some (⟨cf.s,.ret,K⟩,[])
  | []=>none
 | .ops dr l rest h=>match rest with
  | []=>bif dr&& !Vh l h then none else some (⟨cf.s,.pop,cf.K⟩,[])
  |o::rest=>match stepG P l.toArray cf.s.fz cf.s.sl cf.s.ob cf.s.nx o with
   |some r=>some (⟨after N cf.s o r,.ops dr l rest (h++[(o,r)]),cf.K⟩,r.es)
   |none=>none
def adv (P:Program)(N:Nat):Nat→Cf→Cf×Eqs
 |0,cf=>(cf,[])
 |n+1,cf=>match nxt P N cf with
  |some r=>let q:=adv P N n r.1; (q.1,r.2++q.2)
  |none=>(cf,[])
section
variable (ρ:Option Nat)(P:Program)(N:Nat)(D0:Dw)(Q:DJ)
def pk:List Kt→DJ
 | []=>Q
 | .code c::K=>J2 (fun f w=>wpc ρ P N D0 c (pk K) f w) (pk K)
 | .blk id::K=>NZ id (pk K)
 | .scp::K=>noG (pk K)
 | .ctn J::K=>J2 J (pk K)
variable (As:List Ow)(η0:Env)(m0:Mem)
def Al (s:AS)(R:Fr→World→Prop):Prop:= ∀η m f w,η0.le η→m0≤m→Gm As s η m f w→R f w
def Go (cf:Cf):Prop:=match cf.md with| .code c=>Al As η0 m0 cf.s fun f w=>wpc ρ P N D0 c (pk ρ P N D0 Q cf.K) f w| .pop=>Al As η0 m0 cf.s fun f w=>pk ρ P N D0 Q cf.K .normal f w| .ext id=>Al As η0 m0 cf.s fun f w=>pk ρ P N D0 Q cf.K (.exit id) f w| .ret=>Al As η0 m0 cf.s fun f w=>pk ρ P N D0 Q cf.K .ret f w| .ops dr l rest h=>FT ρ P N D0 l.toArray (fun s' h'=>(dr=true→Vh l h'=true)∧Al As η0 m0 s' fun f w=>pk ρ P N D0 Q cf.K .normal f w) rest cf.s h∨(dr=false∧Al As η0 m0 cf.s fun f w=>wpl ρ P N D0 l.toArray rest (pk ρ P N D0 Q cf.K) f w)∨(dr=true∧FP ρ P N D0 As η0 m0 (pk ρ P N D0 Q cf.K) l rest cf.s h)
end
section
variable {ρ:Option Nat}{P:Program}{N:Nat}{D0:Dw}{Q:DJ}{As:List Ow}{η0:Env}{m0:Mem}
theorem Sn {n:Nat}{l:List Tok}{q:Tok}(h:find n l=some q):q∈l:=FG h
theorem UY {s:AS}{v:AV}{p:Tok}{es:Eqs}(h:p∈s.ob):MM s ⟨v,[p],[],[],s.nx,es⟩:=
 ⟨fun x hx=>by simp at hx; subst hx; exact h,by simp[tids],by simp[tids],fun t ht=>by simp[tids]at ht⟩
theorem UA {fz:Fz}{sl:Sl}{s:AS}{op:Op}{r:Stp}(h:XM P fz sl s.ob s.nx op=some r):MM s r:=by
 unfold XM at h;split at h
 ·cases h; exact⟨fun x hx=>by simp at hx,by simp[tids],by simp[tids],fun t ht=>by simp[tids]at ht⟩
 ·rename_i hnp;clear hnp;split at h
  ·split at h
   ·cases h; exact⟨fun x hx=>by simp at hx,by simp[tids],by simp[tids],fun t ht=>by simp[tids]at ht; subst ht; exact⟨AkC _,AkO _⟩⟩
   ·cases h
  ·split at h
   ·cases h; exact⟨fun x hx=>by simp at hx,by simp[tids],by simp[tids],fun t ht=>by simp[tids]at ht; subst ht; exact⟨AkC _,AkO _⟩⟩
   ·cases h
  ·split at h
   ·split at h
    ·rename_i i k cs e hf;cases hb:Nat.beq k _
     ·rw[hb]at h; cases h
     ·rw[hb]at h;simp only[cond_true]at h;split at h
      ·cases h; exact UY (Sn hf)
      ·cases h
    ·cases h
   ·cases h
  ·split at h
   ·split at h
    ·rename_i i k cs e hf;cases hb:Nat.beq k _
     ·rw[hb]at h; cases h
     ·rw[hb]at h;simp only[cond_true]at h;split at h
      ·cases h;exact⟨fun x hx=>by simp at hx; subst hx; exact Sn hf,by simp[tids],by simp[tids],fun t ht=>by simp[tids]at ht; subst ht; exact⟨AkC _,AkO _⟩⟩
      ·cases h
    ·cases h
   ·cases h
  ·split at h
   ·split at h
    ·split at h
     ·rename_i i k sz α E xs hf;cases hb:Nat.beq k _
      ·rw[hb]at h; cases h
      ·rw[hb]at h; cases h; exact UY (Sn hf)
     ·rename_i i k α E xs hf;cases hb:Nat.beq k _
      ·rw[hb]at h; cases h
      ·rw[hb]at h; cases h; exact UY (Sn hf)
     ·cases h
    ·cases h
   ·cases h
  ·split at h
   ·cases h; exact⟨fun x hx=>by simp at hx,by simp[tids],by simp[tids],fun t ht=>by simp[tids]at ht⟩
   ·cases h
  ·split at h
   ·cases h; exact⟨fun x hx=>by simp at hx,by simp[tids],by simp[tids],fun t ht=>by simp[tids]at ht⟩
   ·cases h
  ·split at h
   ·split at h
    ·rename_i i k sz α E y ys hf;cases hb:Nat.beq k _&&(Nat.beq sz 1&&(Nat.beq _ _&&Yc P _))
     ·rw[hb]at h; cases h
     ·rw[hb]at h;simp only[cond_true]at h;cases h;exact⟨fun x hx=>by simp at hx; subst hx; exact Sn hf,by simp[tids],by simp[tids],fun t ht=>by simp[tids]at ht; subst ht; exact⟨AkC _,AkO _⟩⟩
    ·cases h
   ·cases h
  ·cases h
theorem V7 {ops:Array Oper}{s:AS}{o:Oper}{r:Stp}(h:stepG P ops s.fz s.sl s.ob s.nx o=some r):MM s r:=by
 unfold stepG at h;split at h
 ·exact UA h
 ·split at h
  ·cases h
  ·split at h
   ·rename_i v hk;cases hb:AaV v _
    ·rw[hb]at h; cases h;exact⟨fun x hx=>by simp at hx,by simp[tids],by simp[tids],fun t ht=>by simp[tids]at ht⟩
    ·rw[hb]at h; exact UA h
   ·cases hn:isNo (get s.sl _)
    ·rw[hn]at h; simp only[cond_false]at h;split at h
     ·cases h
     ·split at h
      ·rename_i v rd n es hs;cases hb:Nat.beq n s.nx
       ·rw[hb]at h; cases h
       ·rw[hb]at h; cases h;have:=UA hs;exact⟨this.sub,this.nd,this.mnd,fun t ht=>by simp[tids]at ht⟩
      ·cases h
    ·rw[hn]at h; cases h;exact⟨fun x hx=>by simp at hx,by simp[tids],by simp[tids],fun t ht=>by simp[tids]at ht⟩
theorem Mn {s:AS}{dr:Bool}{l rest:List Oper}{o:Oper}{h:List (Oper×Stp)}{K:List Kt}{r:Stp}(ht:Tri ρ P N D0 l.toArray o s.fz (rst (rds l.toArray o) s.sl) s.nx r)(hs:MM s r)
  (g:Go ρ P N D0 Q As η0 m0 ⟨after N s o r,.ops dr l rest (h++[(o,r)]),K⟩):Go ρ P N D0 Q As η0 m0 ⟨s,.ops dr l (o::rest) h,K⟩:=by
 rcases g with g|⟨hd,g⟩|⟨hd,g⟩
 ·exact .inl ⟨r,ht,hs,g⟩
 rotate_left
 ·exact .inr (.inr ⟨hd,FP.cons ht hs g⟩)
 ·exact .inr (.inl ⟨hd,fun η m f w a b gm=>Adq ht hs gm fun η' M f' w' e1 e2 gm'=>g η' M f' w' (Env.le_tr a e1) (Mem.tr b e2) gm'⟩)
theorem Wm (hm:P.follows .mixedOrders=true){cf cf':Cf}{es:Eqs}(h:nxt P N cf=some (cf',es))(he:EqsOk es)(g:Go ρ P N D0 Q As η0 m0 cf'):Go ρ P N D0 Q As η0 m0 cf:=by
 obtain⟨s,md,K⟩:=cf;unfold nxt at h;simp only at h;split at h
 ·rename_i c;split at h<;>first|cases h|skip
  ·exact fun η m f w a b k=>NK (g η m f w a b k)
  ·exact fun η m f w a b k=>Abh (g η m f w a b k)
  ·exact fun η m f w a b k=>C5 (g η m f w a b k)
  ·exact fun η m f w a b k=>JQ (g η m f w a b k)
  ·exact fun η m f w a b k=>Abg (g η m f w a b k)
  ·rename_i id ops dr;intro η m f w a b k;have e:(Code.region id ops dr)=(Code.region id ops.toList.toArray dr):=by rw[Array.toArray_toList]
   show wpc ρ P N D0 (.region id ops dr) _ f w;rw[e];rcases g with g|⟨hd,g⟩|⟨hd,g⟩
   case inr.inl=>
    subst hd;exact A9 (g η m f w a b k)
   case inr.inr=>
    subst hd;exact AjQ hm g k a b
   have g':FT ρ P N D0 ops.toList.toArray _ ops.toList s []:=g;cases dr with
   |false=>exact A9 (AhL g' k fun s' h' F η' M f' w' e1 e2 gm=>F.2 η' M f' w' (Env.le_tr a e1) (Mem.tr b e2) gm)
   |true=>exact AjP hm g' k (fun s' h' F=>F.1 rfl) fun s' h' F η' M f' w' e1 e2 gm=>F.2 η' M f' w' (Env.le_tr a e1) (Mem.tr b e2) gm
  ·exact fun η m f w a b k=>AeI (g η m f w a b k)
  ·exact fun η m f w a b k=>Xj (g η m f w a b k)
 ·split at h<;>first|cases h|skip
  ·exact fun η m f w a b k=>nrm (g η m f w a b k)
  ·exact fun η m f w a b k=>nrmB (g η m f w a b k)
  ·exact fun η m f w a b k=>scN (g η m f w a b k)
 ·rename_i id;split at h<;>first|cases h|skip
  ·exact fun η m f w a b k=>thE (g η m f w a b k)
  ·exact fun η m f w a b k=>scE (g η m f w a b k)
  ·exact fun η m f w a b k=>thE (g η m f w a b k)
  ·rename_i i K';cases hb:Nat.beq id i
   ·rw[hb]at h; cases h;exact fun η m f w a b k=>exN hb (g η m f w a b k)
   ·rw[hb]at h; cases h;have:=Aku hb; subst this;exact fun η m f w a b k=>exB (g η m f w a b k)
 ·split at h<;>first|cases h|skip
  rename_i q K';intro η m f w a b k;have:=g η m f w a b k;cases q with
  |code c=>exact thR this
  |blk id=>exact blR this
  |scp=>exact scR this
  |ctn J=>exact thR this
 ·rename_i dr l rest hh;split at h
  ·cases hb:dr&& !Vh l hh
   ·rw[hb]at h; cases h;refine .inl ⟨fun e=> ?_,g⟩;subst e;simpa using hb
   ·rw[hb]at h; cases h
  ·split at h
   ·rename_i o rest' r hs;cases h;exact Mn (YP hs he) (V7 hs) g
   ·cases h
abbrev aC (P:Program)(N:Nat)(cf:Cf):Cf:=(adv P N 100000 cf).1
abbrev aD (P:Program)(N:Nat)(cf:Cf):Eqs:=(adv P N 100000 cf).2
abbrev bL (P:Program)(N:Nat)(cf:Cf):=(aD P N cf).map (·.1)
abbrev bR (P:Program)(N:Nat)(cf:Cf):=(aD P N cf).map (·.2)
theorem MD (hm:P.follows .mixedOrders=true): ∀{n:Nat} {cf:Cf},EqsOk (adv P N n cf).2→Go ρ P N D0 Q As η0 m0 (adv P N n cf).1→Go ρ P N D0 Q As η0 m0 cf
 |0,_,_,g=>g
 |n+1,cf,he,g=>by
  cases hr:nxt P N cf with
  |none=>
   have e:adv P N (n+1) cf=(cf,[]):=by simp only[adv,hr]
   rw[e]at g; exact g
  |some r=>
   have e:adv P N (n+1) cf=((adv P N n r.1).1,r.2++(adv P N n r.1).2):=by simp only[adv,hr]
   rw[e]at g he;have he':=EqsOk.app.1 he;exact Wm hm hr he'.1 (MD hm (n:=n) he'.2 g)
theorem AP (hm:P.follows .mixedOrders=true){cf:Cf}(he:EqsOk (aD P N cf))(g:Go ρ P N D0 Q As η0 m0 (aC P N cf)):Go ρ P N D0 Q As η0 m0 cf:=MD hm he g
end
def AfD (fz:Fz):AV→AV→AV
 | .d (.sl α E _),.d (.v (.slice none 0 0))=> .d (.sl α E [])
 |_,a=>res fz a
def zipA (fz:Fz):List AV→List AV→List AV
 |e::es,c::cs=>AfD fz e c::zipA fz es cs
 |_,[]=> []
 | [],c::cs=>res fz c::zipA fz [] cs
def Aja (fz:Fz):AV→AV→AV
 | .agg es,.agg cs=> .agg (zipA fz es cs)
 |e,a=>AfD fz e a
def Ah9 (fz:Fz):List AV→List AV→List AV
 |e::es,c::cs=>Aja fz e c::Ah9 fz es cs
 |_,[]=> []
 | [],c::cs=>res fz c::Ah9 fz [] cs
def ok0 (n:Nat):AV→Bool
 | .d _| .any| .no=>true
 | .pb k _| .ow k| .ab k| .bs k _ _ _=>Nat.blt k n
 |_=>false
def okB (n:Nat):AV→Bool
 | .agg cs=>cs.all (ok0 n)
 |a=>ok0 n a
def okA (n:Nat):AV→Bool
 | .tup cs=>cs.all (okB n)
 | .fn _ ps cs=>ps.all (ok0 n)&&cs.all (ok0 n)
 |a=>okB n a
def okO (n:Nat):AObj→Bool
 | .box k cs _=>Nat.blt k n&&cs.all (okA n)
 | .row k _ _ _ _=>Nat.blt k n
 | .fr k _=>Nat.blt k n
 | .hp k _=>Nat.blt k n
def TR (η:Env)(n:Nat):Env:=fun k=>if k<n then η k else none
section
variable {η η':Env}{m:Mem}{fz:Fz}
theorem TD {α:Type}{E:α→List D}{a:Option Addr}{c:Nat}:FR m (.sl α E []) (.slice a 0 c):=
 .sl (sz:=0) (cs:=[]) ⟨rfl,by simp,.inl ⟨rfl,_,_,rfl⟩⟩ (fun _ h=>by cases h) rfl (fun k d u h=>by simp at h)
theorem Wn (hz:fzOk η m fz){e a:AV}{v:Value}(r:Rel η m a v):Rel η m (AfD fz e a) v:=by
 unfold AfD;split
 ·cases r with
  |d h=>cases h with
   |v _ _=>exact .d TD
 ·exact UN hz r
theorem TW (hz:fzOk η m fz): ∀{es cs:List AV} {vs:List Value},BP η m cs vs→BP η m (zipA fz es cs) vs
 |es,[],vs,h=>by have:=h.nil_inv; subst this; cases es<;>exact .nil
 | [],c::cs,vs,h=>by obtain⟨v,us,rfl,a,b⟩:=h.cons_inv; exact .cons (UN hz a) (TW hz b)
 |e::es,c::cs,vs,h=>by obtain⟨v,us,rfl,a,b⟩:=h.cons_inv; exact .cons (Wn hz a) (TW hz b)
theorem AcN (hz:fzOk η m fz){e a:AV}{v:Value}(r:Rel η m a v):Rel η m (Aja fz e a) v:=by
 unfold Aja;split
 ·rename_i es cs;obtain⟨vs,rfl,h⟩:=r.agg_inv;have:=TW (es:=es) hz h;exact .agg this.1 this.2
 ·exact Wn hz r
theorem ON (hz:fzOk η m fz): ∀{es cs:List AV} {vs:List Value},BP η m cs vs→BP η m (Ah9 fz es cs) vs
 |es,[],vs,h=>by have:=h.nil_inv; subst this; cases es<;>exact .nil
 | [],c::cs,vs,h=>by obtain⟨v,us,rfl,a,b⟩:=h.cons_inv; exact .cons (UN hz a) (ON hz b)
 |e::es,c::cs,vs,h=>by obtain⟨v,us,rfl,a,b⟩:=h.cons_inv; exact .cons (AcN hz a) (ON hz b)
theorem AcK {n:Nat}(he: ∀k,k<n→η' k=η k){a:AV}{v:Value}(h:ok0 n a=true)(r:Rel η m a v):Rel η' m a v:=by
 cases r<;>simp only[ok0,reduceCtorEq]at h
 ·rename_i h1; exact .d h1
 ·exact .any _
 ·exact .no
 ·rename_i h1; exact .pb (by rw[he _ (Cy h)]; exact h1)
 ·rename_i h1; exact .bs (by rw[he _ (Cy h)]; exact h1)
 ·rename_i h2 h1; exact .ow (by rw[he _ (Cy h)]; exact h2) h1
 ·rename_i h2 h1; exact .ab (by rw[he _ (Cy h)]; exact h2) h1
theorem U0 {n:Nat}(he: ∀k,k<n→η' k=η k){cs:List AV}{vs:List Value}(h:cs.all (ok0 n)=true)(r:BP η m cs vs):BP η' m cs vs:=
 ⟨r.1,fun k c u a b=>AcK he (AkI.1 h c (AkQ a)) (r.2 k c u a b)⟩
theorem AcJ {n:Nat}(he: ∀k,k<n→η' k=η k){a:AV}{v:Value}(h:okB n a=true)(r:Rel η m a v):Rel η' m a v:=by
 cases a
 case agg cs=>
  obtain⟨vs,rfl,k⟩:=r.agg_inv;have:=U0 he h k;exact .agg this.1 this.2
 all_goals exact AcK he h r
theorem UZ {n:Nat}(he: ∀k,k<n→η' k=η k){a:AV}{v:Value}(h:okA n a=true)(r:Rel η m a v):Rel η' m a v:=by
 cases a
 case tup cs=>
  obtain⟨vs,rfl,k⟩:=r.tup_inv;exact .tup k.1 fun i c u a b=>AcJ he (AkI.1 h c (AkQ a)) (k.2 i c u a b)
 case fn f ps cs=>
  simp only[okA,Aks]at h;obtain⟨us,vs,rfl,h1,h2⟩:=r.fn_inv;have a:=U0 he h.1 h1;have b:=U0 he h.2 h2;exact .fn a.1 b.1 a.2 b.2
 all_goals exact AcJ he h r
theorem P8 {n:Nat}(he: ∀k,k<n→η' k=η k){cs:List AV}{vs:List Value}(h:cs.all (okA n)=true)(r:BP η m cs vs):BP η' m cs vs:=
 ⟨r.1,fun k c u a b=>UZ he (AkI.1 h c (AkQ a)) (r.2 k c u a b)⟩
end
def none0:Env:=fun _=>none
def Sp (P:Program)(k:FuncId)(args:List AV)(obs:List AObj)(n0:Nat)(Po:AV→List AObj→Nat→Prop):Prop:=(∀(a:Array Value) w,(callFunc k a).run P w= .ok (.enter k a) w)∧∀(η:Env) (m:Mem) (As:List Ow) (w:World) (vs:List Value),BP η m args vs→(∀n,η n≠none→n<n0)→St m (obs.map (rep η m)++As) w→Ft P k vs.toArray w fun v w'=> ∃(M:Mem) (η':Env) (r:AV) (obs':List AObj) (n1:Nat),m≤M∧η.le η'∧Po r obs' n1∧(∀n,η' n≠none→n<n1)∧Rel η' M r v∧St M (obs'.map (rep η' M)++As) w'
def is (r:AV)(obs:List AObj)(n:Nat):AV→List AObj→Nat→Prop:=fun a o k=>a=r∧o=obs∧k=n
abbrev Sf (P:Program)(k:FuncId)(args:List AV)(r:AV):Prop:=Sp P k args [] 0 (is r [] 0)
structure Ag0:Type 1 where
 l:List Oper
 o:Oper
 g:Option (Nat×Bool×Bool)
 sl:Sl
 es:Eqs
def Gt (cf:Cf):Option Ag0:=
 match cf.md with
 | .ops _ l (o::_) _=>match o.guard with
  |none=>some ⟨l,o,none,rst (opT o.op) cf.s.sl,[]⟩
  |some (j,w)=>match Yl l.toArray j with
   |none=>none
   |some g=>match kn (get cf.s.sl g)with
    |some v=>bif AaV v w then some ⟨l,{o with guard:=none},none,rst (opT o.op) cf.s.sl,[]⟩else none
    |none=>match AjM g w (get cf.s.sl g)with
     |none=>none
     |some (p,ctx)=>some ⟨l,o,some (g,w,p),(Aa6 ctx cf.s.sl (opT o.op)).1,(Aa6 ctx cf.s.sl (opT o.op)).2⟩
 |_=>none
def push (N:Nat)(cf:Cf)(r:Stp):Cf:=match cf.md with| .ops dr l (o::rest) h=>⟨after N cf.s o r,.ops dr l rest (h++[(o,r)]),cf.K⟩|_=>cf
def Pb (N:Nat)(cf:Cf)(v:AV):Cf:=
 match Gt cf with
 |some a=>match a.g with
  |none=>push N cf ⟨v,[],[],[],cf.s.nx,[]⟩
  |some (g,w,p)=>push N cf ⟨.gd g w p v,[],[],[],cf.s.nx,[]⟩
 |none=>cf
section
variable {ρ:Option Nat}{P:Program}{N:Nat}{D0:Dw}{Q:DJ}{As:List Ow}{η0:Env}{m0:Mem}
theorem X3 {s:AS}{v:AV}{es:Eqs}:MM s ⟨v,[],[],[],s.nx,es⟩:=⟨fun x hx=>by simp at hx,by simp[tids],by simp[tids],fun t ht=>by simp[tids]at ht⟩
theorem Ag3 {ops:Array Oper}{o:Oper}{fz:Fz}{sl:Sl}{nx:Nat}{v:AV}{rd us md:List Tok}{n:Nat}{es es':Eqs}(h:Tri ρ P N D0 ops o fz sl nx ⟨v,rd,us,md,n,es⟩):Tri ρ P N D0 ops o fz sl nx ⟨v,rd,us,md,n,es'⟩:=h
theorem AhF {cf:Cf}{a:Ag0}{v:AV}(ha:Gt cf=some a)(he:EqsOk a.es)
  (ht:(∀q,a.g=some q→q.2.2=true)→Tri ρ P N D0 a.l.toArray {a.o with guard:=none} cf.s.fz a.sl cf.s.nx ⟨v,[],[],[],cf.s.nx,[]⟩)
  (g:Go ρ P N D0 Q As η0 m0 (Pb N cf v)):Go ρ P N D0 Q As η0 m0 cf:=by
 obtain⟨s,md,K⟩:=cf;have ha0:=ha;unfold Gt at ha;split at ha<;>first|cases ha|skip
 rename_i dr l o rest h hmd;simp only at hmd; subst hmd;split at ha
 ·rename_i hg;cases ha;have e:{o with guard:=none}=o:=by obtain⟨a,b,c,d,e,f⟩:=o; simp only at hg; subst hg; rfl
  rw[show Pb N ⟨s,.ops dr l (o::rest) h,K⟩ v=push N ⟨s,.ops dr l (o::rest) h,K⟩ ⟨v,[],[],[],s.nx,[]⟩ by unfold Pb; rw[ha0]]at g;refine Mn ?_ X3 g;have hr:rds l.toArray o=opT o.op:=by simp[rds,hg]
  rw[hr];have:=ht (fun q hq=>by cases hq);rw[e]at this;exact this
 ·rename_i j w hg;split at ha
  ·cases ha
  ·rename_i gs hd;split at ha
   ·rename_i v' hk;cases hb:AaV v' w
    ·rw[hb]at ha; cases ha
    ·rw[hb]at ha;simp only[cond_true]at ha;cases ha;rw[show Pb N ⟨s,.ops dr l (o::rest) h,K⟩ v=push N ⟨s,.ops dr l (o::rest) h,K⟩ ⟨v,[],[],[],s.nx,[]⟩ by unfold Pb; rw[ha0]]at g;exact Mn (YH hg hd hk hb (ht (fun q hq=>by cases hq))) X3 g
   split at ha
   ·cases ha
   ·rename_i p ctx hi;cases ha;rw[show Pb N ⟨s,.ops dr l (o::rest) h,K⟩ v=push N ⟨s,.ops dr l (o::rest) h,K⟩ ⟨.gd gs w p v,[],[],[],s.nx,[]⟩ by unfold Pb; rw[ha0]]at g;refine Mn ?_ X3 g;exact Ag3 (RP hg hd hi he fun hp=>ht fun q hq=>by cases hq; exact hp)
def Qo (fz:Fz)(sl:Sl)(c:Call):Option (FuncId×List AV):=
 match c.callee with
 | .value (.func k)=>some (k,c.args.toList.map (aev sl))
 | .value x=>match rv fz sl x with
  | .fn (.func k) ps cs=>some (k,ps++(c.args.toList.map (aev sl)++cs))
  | .d (.cl k ds)=>some (k,.agg (ds.map .d)::c.args.toList.map (aev sl))
  |_=>none
 |_=>none
def AaU (cf:Cf)(ea:List AV):Option (FuncId×List AV):=
 match Gt cf with
 |some a=>match a.o.op with
  | .call c=>match Qo cf.s.fz a.sl c with
   |some (k,as)=>some (k,Ah9 cf.s.fz ea as)
   |none=>none
  |_=>none
 |none=>none
def PF (cf:Cf):Eqs:=match Gt cf with|some a=>a.es|none=> []
def gOf (cf:Cf):Bool:=match Gt cf with|some ⟨_,_,some (_,_,p),_,_⟩=>p|_=>true
theorem EqsOk.two {a b:Eqs}(h:(a++b).map (·.1)=(a++b).map (·.2)):EqsOk a∧EqsOk b:=EqsOk.app.1 (.of h)
abbrev aL (P:Program)(N:Nat)(cf:Cf):=(aD P N cf++PF (aC P N cf)).map (·.1)
abbrev aR (P:Program)(N:Nat)(cf:Cf):=(aD P N cf++PF (aC P N cf)).map (·.2)
theorem KB {P:Program}{N:Nat}{cf:Cf}(h:aL P N cf=aR P N cf):EqsOk (aD P N cf)∧EqsOk (PF (aC P N cf)):=EqsOk.two h
theorem Qn {fz:Fz}{sl:Sl}{c:Call}{k:FuncId}{as:List AV}{η:Env}{m:Mem}{f:Fr}{w:World}{ops:Array Oper}{rest:List Oper}{Q:DJ}{dst:Option Nat}{ty:TypeId}{pos:String}{af:Array Edge}{R:Value→World→Prop}
  (h:Qo fz sl c=some (k,as)) (hk: ∀(a:Array Value) w,(callFunc k a).run P w= .ok (.enter k a) w) (hr: ∀t,Rel η m (get sl t) (f t)) (hz:fzOk η m fz)
  (hc: ∀vs,BP η m as vs→Ft P k vs.toArray w R) (hn: ∀v w2,R v w2→wpl ρ P N D0 ops rest Q (upo N f dst v) w2):
  wpl ρ P N D0 ops (⟨dst,.call c,ty,pos,af,none⟩::rest) Q f w:=by
 obtain⟨ce,xs,ts⟩:=c;obtain⟨xs⟩:=xs;have ra:=BP.map_aev hr xs;unfold Qo at h;simp only at h;split at h
 ·cases h;exact s_call hk (hc _ ra) rfl hn
 ·rename_i x hx;split at h
  ·rename_i k' ps cs hv;cases h;have rx:=My hz hr x;rw[hv]at rx;obtain⟨us,vs,e,h1,h2⟩:=rx.fn_inv;refine UJ e (Qt.clo hk rfl (hc _ ?_)) rfl hn;rw[Akw];exact h1.append (ra.append h2)
  ·rename_i k' ds hv;cases h;have rx:=My hz hr x;rw[hv]at rx;replace rx:=rx.dd;generalize hu:ev f x=u at rx;cases rx with
   |cl hl hr'=>
    rename_i us;have rd:BP η m (ds.map .d) us:=BP.ofD ⟨hl,hr'⟩;refine UJ hu (Qt.clo (pre:=[.agg us.toArray]) (caps:=[]) hk rfl (hc _ ?_)) rfl hn;rw[AkX];exact BP.cons (.agg rd.1 rd.2) ra
  ·cases h
 ·cases h
theorem gc {cf:Cf}{k:FuncId}{ea:List AV}{r:AV}(hs:gOf (aC P N cf)=true→Sf P k ea r)(g:Go ρ P N D0 Q As η0 m0 (Pb N (aC P N cf) r))
  (e:(AaU (aC P N cf) ea,ea.all (okA 0),(aL P N cf))=(some (k,ea),true,(aR P N cf)):=by kernel_rfl) (hm:P.follows .mixedOrders=true:=by rfl):Go ρ P N D0 Q As η0 m0 cf:=by
 simp only[Akt]at e;obtain⟨e1,e2,e3⟩:=e;obtain⟨he1,he2⟩:=KB e3;refine AP hm he1 ?_;generalize aC P N cf=c0 at*;unfold AaU at e1;split at e1
 ·rename_i a ha;have hes:PF c0=a.es:=by unfold PF; rw[ha]
  rw[hes]at he2;refine AhF ha he2 (fun hp=> ?_) g;have hg:gOf c0=true:=by
   unfold gOf; rw[ha];obtain⟨l,o,gg,sl,es⟩:=a;cases gg with
   |none=>rfl
   |some q=>exact hp q rfl
  have hS:=hs hg;obtain⟨l,⟨dst,op,ty,pos,af,gd⟩,gg,sl,es⟩:=a;simp only at e1⊢;split at e1
  ·rename_i c;split at e1
   ·rename_i k' as hc;simp only[Akv,Akt]at e1;obtain⟨rfl,hzz⟩:=e1;refine⟨AkC _,fun rest Q η m f w As hr hz hn St0 hk=> ?_⟩;refine Qn hc hS.1 hr hz (fun vs hv=> ?_) (R:=fun v w'=> ∃(M:Mem) (η':Env) (r':AV) (obs':List AObj) (n1:Nat),m≤M∧none0.le η'∧is r [] 0 r' obs' n1∧(∀n,η' n≠none→n<n1)∧Rel η' M r' v∧St M (obs'.map (rep η' M)++As) w') ?_
    ·refine hS.2 none0 m As w vs ?_ (fun n h=>absurd rfl h) St0;have:=ON (es:=ea) hz hv;exact P8 (η:=η) (n:=0) (fun k h=>absurd h (by omega)) e2 (by rw[hzz]at this; exact this)
    ·rintro v w2 ⟨M,η',r',obs',n1,hle,_,⟨rfl,rfl,rfl⟩,hdom,hR,S⟩;have hη:η'.le η:=fun n u h=>by have:=hdom n (by rw[h]; simp); omega
     exact hk η M w2 v Env.le_refl hle (fun n h=> .inl h) (hR.up hη (Mem.rfl' M)) S
   ·cases e1
  ·cases e1
 ·cases e1
def Sz (cf:Cf):Option Bool:=
 match cf.md with
 | .code (.cond c _ _)=>match aev cf.s.sl c with
  | .d (.t b)=>some b
  | .d (.v (.bool b))=>some b
  |_=>none
 |_=>none
def way (b:Bool)(cf:Cf):Cf:=match cf.md with| .code (.cond _ x y)=>⟨cf.s,.code (bif b then x else y),cf.K⟩|_=>cf
theorem Agg (hm:P.follows .mixedOrders=true){n:Nat}{cf:Cf}{b:Bool}(e:(Sz (adv P N n cf).1,((adv P N n cf).2).map (·.1))=(some b,((adv P N n cf).2).map (·.2)))
  (h1:b=true→Go ρ P N D0 Q As η0 m0 (way true (adv P N n cf).1)) (h0:b=false→Go ρ P N D0 Q As η0 m0 (way false (adv P N n cf).1)):Go ρ P N D0 Q As η0 m0 cf:=by
 simp only[Akt]at e;obtain⟨e1,e3⟩:=e;refine MD hm (.of e3) ?_;generalize (adv P N n cf).1=c0 at*;obtain⟨s,md,K⟩:=c0;unfold Sz at e1;split at e1
 ·rename_i c x y hmd;simp only at hmd; subst hmd;split at e1
  ·rename_i b' hb;cases e1;intro η m f w a1 a2 gm;have hc:=Am gm.slr c;simp only at hb;rw[hb]at hc;exact Qu hc.t_inv (fun q=>h1 q η m f w a1 a2 gm) (fun q=>h0 q η m f w a1 a2 gm)
  ·rename_i b' hb;cases e1;intro η m f w a1 a2 gm;have hc:=Am gm.slr c;simp only at hb;rw[hb]at hc;exact Qu (TJ rfl hc) (fun q=>h1 q η m f w a1 a2 gm) (fun q=>h0 q η m f w a1 a2 gm)
  ·cases e1
 ·cases e1
end
end Go.Ax
end
