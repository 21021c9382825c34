/- Several texts, one behind the other. Conditions: none. -/
import Derived.Test.YtlahakpgjlmeaaaGreatDoorZc
import Derived.KernelRfl
import Derived.Lib.Bytealg
set_option linter.unusedSimpArgs false
set_option linter.unusedVariables false
section
namespace Go.Ax
open Go Go.Gw
def enA:Nat→List AV→Sl
 |_,[]=> []
 |k,a::l=>(k,a)::enA (k+1) l
def enO:Nat→List AObj→List Tok
 |_,[]=> []
 |k,o::l=>(k,o)::enO (k+1) l
def Q9 (args:List AV)(obs:List AObj)(n0:Nat):AS:=⟨enA 0 args,enO 0 obs,[],n0+obs.length⟩
def Ix (As:List Ow)(η0:Env)(m0:Mem)(Po:AV→List AObj→Nat→Prop):Value→World→Prop:=fun v w'=> ∃(M:Mem) (η':Env) (r:AV) (obs':List AObj) (n1:Nat),m0≤M∧η0.le η'∧Po r obs' n1∧(∀n,η' n≠none→n<n1)∧Rel η' M r v∧St M (obs'.map (rep η' M)++As) w'
theorem AdF {η:Env}{m:Mem}: ∀{args:List AV} {vs:List Value} {k:Nat},BP η m args vs→∀t,Rel η m (get (enA k args) t) (if k≤t then vs.getD (t-k) undef else undef)∨get (enA k args) t= .any
 | [],vs,k,h,t=> .inr rfl
 |a::args,vs,k,h,t=>by
  obtain⟨v,us,rfl,h1,h2⟩:=h.cons_inv;show Rel η m (bif Nat.beq k t then a else get (enA (k+1) args) t) _∨(bif Nat.beq k t then a else get (enA (k+1) args) t)= .any;cases hb:Nat.beq k t
  ·have hne:k≠t:=by intro e; subst e; simp at hb
   rcases AdF (k:=k+1) h2 t with q|q
   ·left;simp only[cond_false];by_cases hk:k≤t
    ·rw[AkA hk];rw[AkA (by omega)]at q;have:t-k=(t-(k+1))+1:=by omega
     rw[this]; exact q
    ·rw[Aky hk]; rw[Aky (by omega)]at q; exact q
   ·exact .inr q
  ·have:=Aku hb; subst this;left; simpa using h1
theorem Ef: ∀{obs:List AObj} {k:Nat},tids (enO k obs)=List.range' k obs.length
 | [],_=>rfl
 |o::l,k=>by
  show k::tids (enO (k+1) l)=_;rw[Ef]; rfl
theorem GV {η:Env}{m:Mem}: ∀{obs:List AObj} {k:Nat},reps η m (enO k obs)=obs.map (rep η m)
 | [],_=>rfl
 |o::l,k=>by
  show rep η m o::reps η m (enO (k+1) l)=_;rw[GV]; rfl
section
variable {P:Program}{N:Nat}{As:List Ow}{η0:Env}{m0:Mem}
theorem Qf {args:List AV}{obs:List AObj}{n0:Nat}{vs:List Value}{w:World}(h:BP η0 m0 args vs)(hd: ∀n,η0 n≠none→n<n0)(S:St m0 (obs.map (rep η0 m0)++As) w):Gm As (Q9 args obs n0) η0 m0 (f0 vs) w:=by
 refine⟨fun t=> ?_,fun n d h=>(by cases h),fun n h=>Alw (hd n h) (Nat.le_add_right _ _),(by show St m0 (reps η0 m0 (enO 0 obs)++As) w; rw[GV]; exact S),?_,fun t ht=> ?_⟩
 ·rcases AdF (k:=0) h t with q|q
  ·simpa[f0,Q9]using q
  ·show Rel η0 m0 (get (enA 0 args) t) _;rw[q]; exact .any _
 ·show(tids (enO 0 obs)).Nodup;rw[Ef]; exact List.nodup_range'
 ·have ht':t∈tids (enO 0 obs):=ht;rw[Ef,List.mem_range']at ht';obtain⟨i,hi,e⟩:=ht';show t<n0+obs.length;omega
theorem sp_of {k:FuncId}{fn:Func}{c:Code}{args:List AV}{obs:List AObj}{n0:Nat}{Po:AV→List AObj→Nat→Prop}(hc: ∀(a:Array Value) w,(callFunc k a).run P w= .ok (.enter k a) w)(hf:P.funcs[k]? =some fn)(hb:fn.body=some c)(hN:fn.ntmps=N)
  (hle:Nat.ble args.length N=true) (h: ∀D0 As η0 m0,(∀n,η0 n≠none→n<n0)→Go none P N D0 (Q4 P N fn (Ix As η0 m0 Po)) As η0 m0 ⟨Q9 args obs n0,.code c,[]⟩):Sp P k args obs n0 Po:=by
 refine⟨hc,fun η m As w vs hv hd S=> ?_⟩;refine ZW hf hb hN (by rw[←hv.1]; exact AkG hle) ?_;exact h (w,[],false) As η m hd η m (f0 vs) w Env.le_refl (Mem.rfl' m) (Qf hv hd S)
def resV (P:Program)(s:AS):ResultVar→Option AV
 | .tmp t=>some (get s.sl t)
 | .cell a t=>match get s.sl a with
  | .pb n off=>match find n s.ob with
   |some (i,.box k cs e)=>bif Nat.beq k n then ldA P t off cs else none
   |_=>none
  |_=>none
def Aau (P:Program)(s:AS):List ResultVar→Option (List AV)
 | []=>some []
 |r::l=>match resV P s r,Aau P s l with
  |some a,some b=>some (a::b)
  |_,_=>none
def tupE:AV→List AV
 | .tup l=>l
 |_=> []
def Xc:List Nat→Bool
 | []=>true
 |a::l=> !Fh a l&&Xc l
theorem E1: ∀{l:List Nat},Xc l=true→l.Nodup
 | [],_=>List.nodup_nil
 |a::l,h=>by
  simp only[Xc,Aks,Bool.not_eq_true']at h;refine List.nodup_cons.2 ⟨fun q=> ?_,E1 h.2⟩;rw[Gh.2 q]at h; cases h.1
def Aeh (cf:Cf):Bool:=match cf.md,cf.K with| .ret,[]=>true| .pop,[]=>true|_,_=>false
theorem Ahf {s:AS}{η:Env}{m:Mem}{f:Fr}{w:World}(hr: ∀t,Rel η m (get s.sl t) (f t))(S:St m (reps η m s.ob++As) w): ∀{rs:List ResultVar} {as:List AV},Aau P s rs=some as→∃vs,Vw P w f rs vs∧BP η m as vs
 | [],as,h=>by cases h; exact⟨[],trivial,.nil⟩
 |r::rs,as,h=>by
  unfold Aau at h;split at h
  ·rename_i a b h1 h2;cases h;obtain⟨vs,i1,i2⟩:=Ahf hr S h2;cases r with
   |tmp t=>cases h1; exact⟨f t::vs,⟨rfl,i1⟩,.cons (hr t) i2⟩
   |cell ad t=>
    unfold resV at h1;simp only at h1;split at h1
    ·rename_i n off hg;split at h1
     ·rename_i i k cs e hf;cases hb:Nat.beq k n
      ·rw[hb]at h1; cases h1
      ·rw[hb]at h1;simp only[cond_true]at h1;have:=Aku hb; subst this;have hmem:=FG hf;obtain⟨l1,l2,el⟩:=List.append_of_mem hmem;have S':St m (reps η m ((i,AObj.box k cs e)::(l1++l2))++As) w:=St.rp S (by rw[el]; exact Alj);obtain⟨bb,us,g1,g2,g3,S2⟩:=St.openBox S';obtain⟨agg,d,a1,a2,a3,a4,a5⟩:=Ahx h1 g2;have rx:=hr ad;rw[hg]at rx;obtain⟨b',hb',ex⟩:=rx.pb_inv;rw[g1]at hb'; cases hb';obtain⟨q,q1,q2⟩:=AiK (i:=0) S2 ex rfl a1 a2 a3 a4;exact⟨Gw.pk agg d::vs,⟨⟨q,q1,q2⟩,i1⟩,.cons a5 i2⟩
     ·cases h1
    ·cases h1
  ·cases h
end
@[reducible] def PQ {α:Type}(E:α→List D)(sz:Nat):GoT α where
 sz:=sz
 rep m cs x:=FRL m (E x) cs∧(E x).length=sz
 len h:=by rw[←h.1.1,h.2]
 up l h:=⟨h.1.up l,h.2⟩
 one h:=h.1.one
section
variable {α:Type}{E:α→List D}{m:Mem}{v:Value}{sz:Nat}
theorem Y0: ∀{xs:List α} {cs:List Value},FRL m (xs.flatMap E) cs→(∀x∈xs,(E x).length=sz)→ @DU α (PQ E sz) m cs xs
 | [],cs,h,_=>show cs=[]from FRL.nil_inv (by simpa using h)
 |x::xs,cs,h,hE=>by
  rw[Ak4]at h;have h1:=h.take (E x).length;have h2:=h.drop (E x).length;rw[List.take_left]at h1;rw[List.drop_left]at h2;exact⟨_,_,(List.take_append_drop _ _).symm,⟨h1,hE x AkN⟩,Y0 h2 fun y hy=>hE y (AkT _ hy)⟩
theorem XW: ∀{xs:List α} {cs:List Value}, @DU α (PQ E sz) m cs xs→FRL m (xs.flatMap E) cs∧∀x∈xs,(E x).length=sz
 | [],cs,h=>by
  have:cs=[]:=h;subst this; exact⟨.nil,fun _ h=>by cases h⟩
 |x::xs,cs,⟨c,d,e,h1,h2⟩=>by
  subst e;have ih:=XW h2;refine⟨by rw[Ak4]; exact h1.1.append ih.1,fun y hy=> ?_⟩;rcases Ak1.1 hy with q|q
  ·subst q; exact h1.2
  ·exact ih.2 y q
theorem V3 {xs:List α}(h: @SlR α (PQ E sz) m v xs):FR m (.sl α E xs) v:=by
 obtain⟨cs,h1,h2⟩:=h;have:=XW h2;exact .sl h1 this.2 this.1.1 this.1.2
theorem Wl {xs:List α}(h:FR m (.sl α E xs) v)(hE: ∀x,(E x).length=sz): @SlR α (PQ E sz) m v xs:=by
 cases h with
 | @sl _ _ _ sz' _ cs h hE' hl hr=>
  refine⟨cs,?_,Y0 ⟨hl,hr⟩ fun x _=>hE x⟩;cases xs with
  |nil=>
   have:cs=[]:=by simp at hl; exact List.length_eq_zero_iff.1 hl.symm
   subst this;exact⟨by simp,h.2.1,h.2.2⟩
  |cons x xs=>
   have:sz'=sz:=by rw[←hE' x AkN,hE x]
   subst this; exact h
end
def W8 (φ:Nat→Nat):AV→AV
 | .pb n o=> .pb (φ n) o
 | .ow n=> .ow (φ n)
 | .ab n=> .ab (φ n)
 | .bs n o k c=> .bs (φ n) o k c
 |a=>a
def Aax (φ:Nat→Nat):AV→AV
 | .agg cs=> .agg (cs.map (W8 φ))
 |a=>W8 φ a
def Rh (φ:Nat→Nat):AV→AV
 | .tup cs=> .tup (cs.map (Aax φ))
 | .fn f ps cs=> .fn f (ps.map (W8 φ)) (cs.map (W8 φ))
 |a=>Aax φ a
def PO (φ:Nat→Nat):AObj→AObj
 | .box n cs t=> .box (φ n) (cs.map (Rh φ)) t
 | .row n sz α E xs=> .row (φ n) sz α E xs
 | .fr n d=> .fr (φ n) d
 | .hp n k=> .hp (φ n) k
section
variable {η η':Env}{m:Mem}{φ:Nat→Nat}{n:Nat}
theorem Acf (h: ∀k,k<n→∀u,η' k=some u→η (φ k)=some u){a:AV}{v:Value}(ho:ok0 n a=true)(r:Rel η' m a v):Rel η m (W8 φ a) v:=by
 cases r<;>simp only[ok0,reduceCtorEq]at ho
 ·rename_i h1; exact .d h1
 ·exact .any _
 ·exact .no
 ·rename_i h1; exact .pb (h _ (Cy ho) _ h1)
 ·rename_i h1; exact .bs (h _ (Cy ho) _ h1)
 ·rename_i h2 h1; exact .ow (h _ (Cy ho) _ h2) h1
 ·rename_i h2 h1; exact .ab (h _ (Cy ho) _ h2) h1
theorem UR (h: ∀k,k<n→∀u,η' k=some u→η (φ k)=some u){cs:List AV}{vs:List Value}(ho:cs.all (ok0 n)=true)(r:BP η' m cs vs):BP η m (cs.map (W8 φ)) vs:=
 ⟨by simpa using r.1,fun k c u a b=>by
  simp only[AkP,Akx]at a;obtain⟨c',hc,rfl⟩:=a;exact Acf h (AkI.1 ho c' (AkQ hc)) (r.2 k c' u hc b)⟩
theorem Aca (h: ∀k,k<n→∀u,η' k=some u→η (φ k)=some u){a:AV}{v:Value}(ho:okB n a=true)(r:Rel η' m a v):Rel η m (Aax φ a) v:=by
 cases a
 case agg cs=>
  obtain⟨vs,rfl,k⟩:=r.agg_inv;have:=UR h ho k;exact .agg this.1 this.2
 all_goals exact Acf h (by exact ho) r
theorem UQ (h: ∀k,k<n→∀u,η' k=some u→η (φ k)=some u){a:AV}{v:Value}(ho:okA n a=true)(r:Rel η' m a v):Rel η m (Rh φ a) v:=by
 cases a
 case tup cs=>
  obtain⟨vs,rfl,k⟩:=r.tup_inv;refine .tup (by simpa using k.1) fun i c u a b=> ?_;simp only[AkP,Akx]at a;obtain⟨c',hc,rfl⟩:=a;exact Aca h (AkI.1 ho c' (AkQ hc)) (k.2 i c' u hc b)
 case fn f ps cs=>
  simp only[okA,Aks]at ho;obtain⟨us,vs,rfl,h1,h2⟩:=r.fn_inv;have a:=UR h ho.1 h1;have b:=UR h ho.2 h2;exact .fn a.1 b.1 a.2 b.2
 all_goals exact Aca h (by exact ho) r
theorem Acg (h: ∀k,k<n→η (φ k)=η' k){a:AV}{v:Value}(ho:ok0 n a=true)(r:Rel η m (W8 φ a) v):Rel η' m a v:=by
 cases a<;>simp only[ok0,reduceCtorEq]at ho<;>simp only[W8]at r
 ·exact .d r.dd
 ·exact .any _
 ·cases r; exact .no
 ·obtain⟨b,h1,rfl⟩:=r.pb_inv; exact .pb (by rw[←h _ (Cy ho)]; exact h1)
 ·obtain⟨b,h1,rfl⟩:=r.bs_inv; exact .bs (by rw[←h _ (Cy ho)]; exact h1)
 ·obtain⟨h1,h2⟩:=r.ow_inv; exact .ow (by rw[←h _ (Cy ho)]; exact h1) h2
 ·obtain⟨h1,h2⟩:=r.ab_inv; exact .ab (by rw[←h _ (Cy ho)]; exact h1) h2
theorem US (h: ∀k,k<n→η (φ k)=η' k){cs:List AV}{vs:List Value}(ho:cs.all (ok0 n)=true)(r:BP η m (cs.map (W8 φ)) vs):BP η' m cs vs:=
 ⟨by simpa using r.1,fun k c u a b=>Acg h (AkI.1 ho c (AkQ a)) (r.2 k (W8 φ c) u (by simp[a]) b)⟩
theorem Acb (h: ∀k,k<n→η (φ k)=η' k){a:AV}{v:Value}(ho:okB n a=true)(r:Rel η m (Aax φ a) v):Rel η' m a v:=by
 cases a
 case agg cs=>
  obtain⟨vs,rfl,k⟩:=r.agg_inv;have:=US h ho k;exact .agg this.1 this.2
 all_goals exact Acg h (by exact ho) r
theorem XX (h: ∀k,k<n→η (φ k)=η' k){a:AV}{v:Value}(ho:okA n a=true)(r:Rel η m (Rh φ a) v):Rel η' m a v:=by
 cases a
 case tup cs=>
  obtain⟨vs,rfl,k⟩:=r.tup_inv;refine .tup (by simpa using k.1) fun i c u a b=> ?_;exact Acb h (AkI.1 ho c (AkQ a)) (k.2 i (Aax φ c) u (by simp[a]) b)
 case fn f ps cs=>
  simp only[okA,Aks]at ho;obtain⟨us,vs,rfl,h1,h2⟩:=r.fn_inv;have a:=US h ho.1 h1;have b:=US h ho.2 h2;exact .fn a.1 b.1 a.2 b.2
 all_goals exact Acb h (by exact ho) r
theorem Nh (h: ∀k,k<n→η (φ k)=η' k){cs:List AV}{vs:List Value}(ho:cs.all (okA n)=true)(r:BP η m (cs.map (Rh φ)) vs):BP η' m cs vs:=
 ⟨by simpa using r.1,fun k c u a b=>XX h (AkI.1 ho c (AkQ a)) (r.2 k (Rh φ c) u (by simp[a]) b)⟩
theorem Ab9 (h: ∀k,k<n→∀u,η' k=some u→η (φ k)=some u){cs:List AV}{vs:List Value}(ho:cs.all (okA n)=true)(r:BP η' m cs vs):BP η m (cs.map (Rh φ)) vs:=
 ⟨by simpa using r.1,fun k c u a b=>by
  simp only[AkP,Akx]at a;obtain⟨c',hc,rfl⟩:=a;exact UQ h (AkI.1 ho c' (AkQ hc)) (r.2 k c' u hc b)⟩
theorem LZ (h: ∀k,k<n→η (φ k)=η' k){o:AObj}{x:PH}(ho:okO n o=true)(r:rep η m (PO φ o) x):rep η' m o x:=by
 cases o with
 |box nm cs t=>
  simp only[okO,Aks]at ho;obtain⟨b,vs,p,q,z,u⟩:=r;exact⟨b,vs,by rw[←h _ (Cy ho.1)]; exact p,Nh h ho.2 q,z,u⟩
 |row nm sz α E xs=>
  simp only[okO]at ho;obtain⟨v,cs,p,r⟩:=r;exact⟨v,cs,by rw[←h _ (Cy ho)]; exact p,r⟩
 |fr nm d=>
  simp only[okO]at ho;obtain⟨v,p,r⟩:=r;exact⟨v,by rw[←h _ (Cy ho)]; exact p,r⟩
 |hp nm d=>
  simp only[okO]at ho;obtain⟨v,p,r⟩:=r;exact⟨v,by rw[←h _ (Cy ho)]; exact p,r⟩
theorem UP (h: ∀k,k<n→∀u,η' k=some u→η (φ k)=some u){o:AObj}{x:PH}(ho:okO n o=true)(r:rep η' m o x):rep η m (PO φ o) x:=by
 cases o with
 |box nm cs t=>
  simp only[okO,Aks]at ho;obtain⟨b,vs,p,q,z,u⟩:=r;exact⟨b,vs,h _ (Cy ho.1) _ p,Ab9 h ho.2 q,z,u⟩
 |row nm sz α E xs=>
  simp only[okO]at ho;obtain⟨v,cs,p,r⟩:=r;exact⟨v,cs,h _ (Cy ho) _ p,r⟩
 |fr nm d=>
  simp only[okO]at ho;obtain⟨v,p,r⟩:=r;exact⟨v,h _ (Cy ho) _ p,r⟩
 |hp nm d=>
  simp only[okO]at ho;obtain⟨v,p,r⟩:=r;exact⟨v,h _ (Cy ho) _ p,r⟩
theorem AiM {o:AObj}{x:PH}(r:rep η m o x): ∃v,η o.nm=some v:=by
 cases o with
 |box=>obtain⟨b,vs,p,_⟩:=r; exact⟨_,p⟩
 |row=>obtain⟨v,cs,p,_⟩:=r; exact⟨_,p⟩
 |fr=>obtain⟨v,p,_⟩:=r; exact⟨_,p⟩
 |hp=>obtain⟨v,p,_⟩:=r; exact⟨_,p⟩
end
abbrev Mt:=List (Nat×Nat)
def mt0:AV→AV→Mt
 | .pb k _,.pb n _=> [(k,n)]
 | .bs k _ _ _,.bs n _ _ _=> [(k,n)]
 | .ow k,.ow n=> [(k,n)]
 | .ab k,.ab n=> [(k,n)]
 |_,_=> []
def mtL (f:AV→AV→Mt):List AV→List AV→Mt
 |e::es,a::as=>f e a++mtL f es as
 |_,_=> []
def mtA:AV→AV→Mt
 | .agg es,.agg as=>mtL mt0 es as
 | .tup es,.tup as=>mtL (fun e a=>match e,a with| .agg es,.agg as=>mtL mt0 es as|e,a=>mt0 e a) es as
 | .fn _ ps cs,.fn _ ps' cs'=>mtL mt0 ps ps'++mtL mt0 cs cs'
 |e,a=>mt0 e a
def Ii:Mt→Nat→Nat→Nat
 | [],_,d=>d
 |p::l,k,d=>bif Nat.beq p.1 k then p.2 else Ii l k d
def mtO (ob:List Tok):List AObj→Mt→Mt
 | [],m=>m
 | .box k es _::l,m=>(match find (Ii m k k) ob with
  |some (_,.box _ cs _)=>mtO ob l (m++mtL mtA es cs)
  |_=>mtO ob l m)
 |_::l,m=>mtO ob l m
def JH:AObj→D
 | .row _ _ α E xs=> .sl α E xs
 | .fr _ d=>d
 | .box .. => .v undef
 | .hp .. => .v undef
def frD (ob:List Tok)(n:Nat):Option D:=match find n ob with|some (_,.row k _ α E xs)=>bif Nat.beq k n then some (.sl α E xs)else none|some (_,.fr k d)=>bif Nat.beq k n then some d else none|_=>none
def cv1 (ob:List Tok):AV→AV→AV×List Nat
 | .any,_=>(.any,[])
 | .d (.sl α E _),.d (.v (.slice none 0 0))=>(.d (.sl α E []),[])
 | .d _,.ow n=>match frD ob n with
  |some d=>(.d d,[n])
  |none=>(.ow n,[])
 | .d (.op false ds),.d (.v (.pointer none))=>(.d (.op false ds),[])
 | .d (.op true _),.d (.pf ds)=>(.d (.op true ds),[])
 |_,a=>(a,[])
def cvL (ob:List Tok):List AV→List AV→List AV×List Nat
 |e::es,a::as=>let x:=cv1 ob e a; let y:=cvL ob es as; (x.1::y.1,x.2++y.2)
 |_,as=>(as,[])
def cvA (ob:List Tok):AV→AV→AV×List Nat
 | .agg es,.agg as=>let x:=cvL ob es as; (.agg x.1,x.2)
 |e,a=>cv1 ob e a
def cvV (ob:List Tok):List AV→List AV→List AV×List Nat
 |e::es,a::as=>let x:=cvA ob e a; let y:=cvV ob es as; (x.1::y.1,x.2++y.2)
 |_,as=>(as,[])
def cvO (ob:List Tok):AObj→AObj→AObj×List Nat
 | .box _ es _,.box n cs t=>let x:=cvV ob es cs; (.box n x.1 t,x.2)
 |_,a=>(a,[])
def Vy (ob:List Tok):List AObj→List Tok→List AObj×List Nat
 |e::es,p::ps=>let x:=cvO ob e p.2; let y:=Vy ob es ps; (x.1::y.1,x.2++y.2)
 |_,ps=>(ps.map (·.2),[])
def Kn (ob:List Tok)(η:Env)(m:Mem)(ns:List Nat):Prop:= ∀n∈ns,∀d,frD ob n=some d→∃v,η n=some v∧FR m d v
section
variable {ob:List Tok}{η:Env}{m:Mem}
theorem Kn.app {a b:List Nat}(h:Kn ob η m (a++b)):Kn ob η m a∧Kn ob η m b:=⟨fun n hn=>h n (List.mem_append_left _ hn),fun n hn=>h n (List.mem_append_right _ hn)⟩
theorem AdQ {e a:AV}{v:Value}(k:Kn ob η m (cv1 ob e a).2)(r:Rel η m a v):Rel η m (cv1 ob e a).1 v:=by
 unfold cv1 at*;split
 ·exact .any _
 ·cases r with
  |d h=>cases h with
   |v _ _=>exact .d TD
 ·rename_i n;simp only at k;split at k
  ·rename_i d hd;obtain⟨u,h1,h2⟩:=k n (by simp) d hd;have:=r.ow_inv.1;rw[h1]at this; cases this;exact .d h2
  ·exact r
 ·cases r with
  |d h=>cases h with
   |v _ _=>exact .d .op0
 ·exact .d (.op1 r.dd)
 ·exact r
theorem AdO: ∀{es as:List AV} {vs:List Value},Kn ob η m (cvL ob es as).2→BP η m as vs→BP η m (cvL ob es as).1 vs
 | [],as,vs,_,r=>by unfold cvL; exact r
 |_::_,[],vs,_,r=>by unfold cvL; exact r
 |e::es,a::as,vs,k,r=>by
  obtain⟨v,us,rfl,h1,h2⟩:=r.cons_inv;have k':=Kn.app k;exact .cons (AdQ k'.1 h1) (AdO k'.2 h2)
theorem AdP {e a:AV}{v:Value}(k:Kn ob η m (cvA ob e a).2)(r:Rel η m a v):Rel η m (cvA ob e a).1 v:=by
 unfold cvA at*;split
 ·obtain⟨vs,rfl,h⟩:=r.agg_inv;have:=AdO k h;exact .agg this.1 this.2
 ·rename_i h;refine AdQ ?_ r;split at k
  ·exact absurd rfl (h _ _ rfl)
  ·exact k
theorem Qk: ∀{es as:List AV} {vs:List Value},Kn ob η m (cvV ob es as).2→BP η m as vs→BP η m (cvV ob es as).1 vs
 | [],as,vs,_,r=>by unfold cvV; exact r
 |_::_,[],vs,_,r=>by unfold cvV; exact r
 |e::es,a::as,vs,k,r=>by
  obtain⟨v,us,rfl,h1,h2⟩:=r.cons_inv;have k':=Kn.app k;exact .cons (AdP k'.1 h1) (Qk k'.2 h2)
theorem Aj1 {e o:AObj}{x:PH}(k:Kn ob η m (cvO ob e o).2)(r:rep η m o x):rep η m (cvO ob e o).1 x:=by
 cases e<;>cases o<;>first|exact r|skip
 obtain⟨b,vs,p,q,z,u⟩:=r;exact⟨b,vs,p,Qk k q,z,u⟩
theorem Rp: ∀{es:List AObj} {ps:List Tok} {h:PH} {B:List Ow},Kn ob η m (Vy ob es ps).2→sepL (reps η m ps++B) h→sepL ((Vy ob es ps).1.map (rep η m)++B) h
 | [],ps,h,B,_,S=>by unfold Vy; simpa[reps,List.map_map,Function.comp_def]using S
 |_::_,[],h,B,_,S=>by unfold Vy; simpa[reps]using S
 |e::es,p::ps,h,B,k,⟨h1,h2,a,s,d,x⟩=>by
  have k':=Kn.app k;exact⟨h1,h2,Aj1 k'.1 a,Rp k'.2 s,d,x⟩
end
def KF:AObj→Bool
 | .row .. =>true
 |_=>false
def WG:AObj→Bool
 | .fr .. =>true
 |_=>false
section
variable {η:Env}{As:List Ow}{w:World}
theorem Lc: ∀{ps:List Tok} {m:Mem},ps.all (fun p=>KF p.2)=true→St m (reps η m ps++As) w→∃m',m≤m'∧(∀p∈ps,∃v,η p.2.nm=some v∧FR m' (JH p.2) v)∧St m' As w
 | [],m,_,S=>⟨m,Mem.rfl' m,(fun _ h=>by cases h),S⟩
 |(i,.row n sz α E xs)::ps,m,h,S=>by
  obtain⟨v,cs,h1,h2,h3,h4,S1⟩:=St.openRow S;letI:=PQ E sz;obtain⟨m1,l1,h5,S2⟩:=St.rowKeepT (i:=0) S1 rfl (Y0 h3 h4) rfl;have S3:=St.ru (l:=ps) Env.le_refl l1 S2;obtain⟨m2,l2,h6,S4⟩:=Lc (ps:=ps) (by simp only[Alf,Aks]at h; exact h.2) S3;refine⟨m2,Mem.tr l1 l2,fun p hp=> ?_,S4⟩;rcases Ak1.1 hp with q|q
  ·subst q; exact⟨v,h1,(V3 h5).up l2⟩
  ·exact h6 p q
 |(i,.box ..)::ps,m,h,S=>by simp[KF]at h
 |(i,.fr ..)::ps,m,h,S=>by simp[KF]at h
 |(i,.hp ..)::ps,m,h,S=>by simp[KF]at h
theorem ND: ∀{ps:List Tok} {m:Mem},ps.all (fun p=>WG p.2)=true→St m (reps η m ps++As) w→(∀p∈ps,∃v,η p.2.nm=some v∧FR m (JH p.2) v)∧St m As w
 | [],m,_,S=>⟨(fun _ h=>by cases h),S⟩
 |(i,.fr n d)::ps,m,h,S=>by
  obtain⟨⟨v,h1,h2⟩,S1⟩:=St.openFr S;obtain⟨h3,S2⟩:=ND (ps:=ps) (by simp only[Alf,Aks]at h; exact h.2) S1;refine⟨fun p hp=> ?_,S2⟩;rcases Ak1.1 hp with q|q
  ·subst q; exact⟨v,h1,h2⟩
  ·exact h3 p q
 |(i,.box ..)::ps,m,h,S=>by simp[WG]at h
 |(i,.row ..)::ps,m,h,S=>by simp[WG]at h
 |(i,.hp ..)::ps,m,h,S=>by simp[WG]at h
def OM:List Tok→List AObj
 | []=> []
 |p::l=> .fr p.2.nm (JH p.2)::OM l
theorem K4 {m:Mem}: ∀{ps:List Tok},(∀p∈ps,∃v,η p.2.nm=some v∧FR m (JH p.2) v)→St m As w→St m ((OM ps).map (rep η m)++As) w
 | [],_,S=>S
 |p::ps,h,S=>by
  obtain⟨v,h1,h2⟩:=h p AkN;exact St.closeFr h1 h2 (K4 (fun q hq=>h q (AkT _ hq)) S)
theorem Mq {m:Mem}: ∀{ps:List Tok},ps.all (fun p=>WG p.2)=true→(∀p∈ps,∃v,η p.2.nm=some v∧FR m (JH p.2) v)→St m As w→St m (reps η m ps++As) w
 | [],_,_,S=>S
 |(i,.fr n d)::ps,k,h,S=>by
  obtain⟨v,h1,h2⟩:=h _ AkN;exact St.closeFr h1 h2 (Mq (by simp only[Alf,Aks]at k; exact k.2) (fun q hq=>h q (AkT _ hq)) S)
 |(i,.box ..)::ps,k,h,S=>by simp[WG]at k
 |(i,.row ..)::ps,k,h,S=>by simp[WG]at k
 |(i,.hp ..)::ps,k,h,S=>by simp[WG]at k
end
def KJ (ob:List Tok):List Nat→List Nat→List Tok
 | [],_=> []
 |n::ns,seen=>bif Fh n seen then KJ ob ns seen else match find n ob with
  |some p=>p::KJ ob ns (n::seen)
  |none=>KJ ob ns (n::seen)
structure Aa2:Type 1 where
 k:FuncId
 as:List AV
 objs:List AObj
 ut:List Tok
 fw:List Tok
 fr:List Tok
 mt:Mt
def Ago (ob:List Tok)(mt:Mt):List AObj→Option (List Tok)
 | []=>some []
 |o::l=>match find (Ii mt o.nm o.nm) ob,Ago ob mt l with
  |some p,some r=>some (p::r)
  |_,_=>none
def Q3 (ob:List Tok)(k:FuncId)(as ea:List AV)(eobs:List AObj):Option Aa2:=
 let mt:=mtO ob eobs (mtO ob eobs (mtL mtA ea as))
 match Ago ob mt eobs with
 |some ut=>
  let c:=cvV ob ea as
  let o:=Vy ob eobs ut
  let ts:=KJ ob (c.2++o.2) []
  some ⟨k,c.1,o.1,ut,ts.filter (fun p=>KF p.2),ts.filter (fun p=> !KF p.2),mt⟩
 |none=>none
def Ni (cf:Cf)(ea:List AV)(eobs:List AObj):Option Aa2:=
 match Gt cf with
 |some a=>match a.g,a.o.op with
  |none,.call c=>match Qo cf.s.fz a.sl c with
   |some (k,as)=>Q3 cf.s.ob k as ea eobs
   |none=>none
  |_,_=>none
 |none=>none
def ZS (ns:List Nat):Nat→Bool
 |0=>true
 |n+1=>Fh n ns&&ZS ns n
theorem Sy {ns:List Nat}: ∀{n:Nat},ZS ns n=true→∀j,j<n→j∈ns
 |0,_,j,h=>by omega
 |n+1,h,j,hj=>by
  simp only[ZS,Aks]at h;by_cases e:j=n
  ·subst e; exact Gh.1 h.1
  ·exact Sy h.2 j (by omega)
def known (ob:List Tok)(ts:List Tok):List Nat→Bool
 | []=>true
 |n::ns=>(match find n ob with|some p=>Fh p.1 (tids ts)&&Nat.beq p.2.nm n|none=>true)&&known ob ts ns
def Tz (ob:List Tok)(p:Aa2)(ea:List AV)(eobs:List AObj)(n0:Nat):Bool:=ea.all (okA n0)&&(eobs.all (okO n0)&&(Xc (tids ((p.ut++p.fw)++p.fr))&&(ZS (eobs.map (·.nm)) n0&&(p.fr.all (fun p=>WG p.2)&&(p.fw.all (fun p=>KF p.2)&&true)))))
def bk (φ:Nat→Nat)(nx n0:Nat):Nat→Nat:=fun j=>bif Nat.blt j n0 then φ j else nx+(j-n0)
def Aip (s:AS)(p:Aa2)(n0:Nat)(r:AV)(obs':List AObj)(n1:Nat):Stp:=
 let φ:=bk (fun j=>Ii p.mt j 0) s.nx n0
 let md:=obs'.map (PO φ)++OM p.fw
 ⟨Rh φ r,p.fr,p.ut++p.fw,enO (s.nx+(n1-n0)) md,s.nx+(n1-n0)+md.length,[]⟩
def Afs (N:Nat)(cf:Cf)(ea:List AV)(eobs:List AObj)(n0:Nat)(r:AV)(obs':List AObj)(n1:Nat):Cf:=match Ni cf ea eobs with|some p=>push N cf (Aip cf.s p n0 r obs' n1)|none=>cf
def Ld (cf:Cf)(ea:List AV)(eobs:List AObj)(n0:Nat):Option (FuncId×List AV×List AObj×Bool):=match Ni cf ea eobs with|some p=>some (p.k,p.as,p.objs,Tz cf.s.ob p ea eobs n0)|none=>none
def FH (cf:Cf)(ea:List AV)(eobs:List AObj):List AV×List AObj:=match Ni cf ea eobs with|some p=>(ea.map (Rh fun j=>Ii p.mt j 0),eobs.map (PO fun j=>Ii p.mt j 0))|none=>([],[])
theorem Gf {ob:List Tok}: ∀{ns seen:List Nat} {p:Tok},p∈KJ ob ns seen→p∈ob
 | [],_,_,h=>by cases h
 |n::ns,seen,p,h=>by
  unfold KJ at h;cases hb:Fh n seen
  ·rw[hb]at h;simp only[cond_false]at h;split at h
   ·rename_i q hq;rcases Ak1.1 h with e|e
    ·subst e; exact FG hq
    ·exact Gf e
   ·exact Gf h
  ·rw[hb]at h; exact Gf h
theorem JJ {ob:List Tok}{n:Nat}{p:Tok}(hf:find n ob=some p): ∀{ns seen:List Nat},n∈ns→Fh n seen=false→p∈KJ ob ns seen
 | [],_,h,_=>by cases h
 |a::ns,seen,h,hs=>by
  unfold KJ;by_cases e:n=a
  ·subst e;rw[hs];simp only[cond_false,hf];exact AkN
  ·have h':n∈ns:=by
    rcases Ak1.1 h with q|q
    ·exact absurd q e
    ·exact q
   have hs':Fh n (a::seen)=false:=by
    unfold Fh;rw[Gw.beq_ne (Ne.symm e)]; exact hs
   cases hb:Fh a seen
   ·simp only[cond_false];split
    ·exact AkT _ (JJ hf h' hs')
    ·exact JJ hf h' hs'
   ·exact JJ hf h' hs
theorem PD {ob:List Tok}{mt:Mt}: ∀{es:List AObj} {ps:List Tok},Ago ob mt es=some ps→∀p∈ps,p∈ob
 | [],ps,h,p,hp=>by cases h; cases hp
 |e::es,ps,h,p,hp=>by
  unfold Ago at h;split at h
  ·rename_i a b h1 h2; cases h;rcases Ak1.1 hp with q|q
   ·subst q; exact FG h1
   ·exact PD h2 p q
  ·cases h
theorem So {n:Nat}: ∀{l:List Tok} {q:Tok},find n l=some q→q.2.nm=n
 | [],_,h=>by cases h
 |p::l,q,h=>by
  unfold find at h;cases hb:Nat.beq p.2.nm n
  ·rw[hb]at h; exact So h
  ·rw[hb]at h; cases h; exact Aku hb
theorem NF {ob:List Tok}{n:Nat}{d:D}(h:frD ob n=some d): ∃p,find n ob=some p∧JH p.2=d∧(KF p.2=true∨WG p.2=true)∧p.2.nm=n:=by
 unfold frD at h;split at h
 ·rename_i i k sz α E xs hf;cases hb:Nat.beq k n
  ·rw[hb]at h; cases h
  ·rw[hb]at h; cases h; exact⟨_,hf,rfl,.inl rfl,So hf⟩
 ·rename_i i k d' hf;cases hb:Nat.beq k n
  ·rw[hb]at h; cases h
  ·rw[hb]at h; cases h; exact⟨_,hf,rfl,.inr rfl,So hf⟩
 ·cases h
theorem Ym {η:Env}{m:Mem}{As:List Ow}{w:World}: ∀{os:List AObj},St m (os.map (rep η m)++As) w→∀o∈os,∃v,η o.nm=some v
 | [],_,_,h=>by cases h
 |a::os,S,o,h=>by
  obtain⟨x,⟨h1,h2,ha,hs,d,e⟩,d1,g,g',nd⟩:=S.own;rcases Ak1.1 h with q|q
  ·subst q; exact AiM ha
  ·have S2:St m (os.map (rep η m)++(rep η m a::As)) w:=S.perm List.perm_middle.symm;exact Ym S2 o q
section
variable {ρ:Option Nat}{P:Program}{N:Nat}{D0:Dw}{Q:DJ}{As:List Ow}{η0:Env}{m0:Mem}
theorem DC {cf:Cf}{a:Ag0}{r:Stp}(ha:Gt cf=some a)(hg:a.g=none)(ht:Tri ρ P N D0 a.l.toArray a.o cf.s.fz a.sl cf.s.nx r)(hs:MM cf.s r)(g:Go ρ P N D0 Q As η0 m0 (push N cf r)):Go ρ P N D0 Q As η0 m0 cf:=by
 obtain⟨s,md,K⟩:=cf;unfold Gt at ha;split at ha<;>first|cases ha|skip
 rename_i dr l o rest h hmd;simp only at hmd; subst hmd;split at ha
 ·rename_i hgd;cases ha;refine Mn ?_ hs g;have hr:rds l.toArray o=opT o.op:=by simp[rds,hgd]
  rw[hr]; exact ht
 ·rename_i j w hgd;split at ha
  ·cases ha
  ·rename_i gs hd;split at ha
   ·rename_i v' hk;cases hb:AaV v' w
    ·rw[hb]at ha; cases ha
    ·rw[hb]at ha;simp only[cond_true]at ha;cases ha;exact Mn (YH hgd hd hk hb ht) hs g
   split at ha
   ·cases ha
   ·cases ha; cases hg
theorem BG {cf:Cf}{a:Ag0}(ha:Gt cf=some a)(hg:a.g=none):a.o.guard=none:=by
 unfold Gt at ha;split at ha<;>first|cases ha|skip
 split at ha
 ·rename_i hh; cases ha; exact hh
 ·rename_i j w hgd;split at ha
  ·cases ha
  ·split at ha
   ·rename_i v' hk;cases hb:AaV v' w
    ·rw[hb]at ha; cases ha
    ·rw[hb]at ha;simp only[cond_true]at ha;cases ha; rfl
   split at ha
   ·cases ha
   ·cases ha; cases hg
theorem gco {cf:Cf}{k:FuncId}{ea:List AV}{eobs obs':List AObj}{n0 n1:Nat}{r:AV}(hs:Sp P k ea eobs n0 (is r obs' n1))(g:Go ρ P N D0 Q As η0 m0 (Afs N (aC P N cf) ea eobs n0 r obs' n1))
  (e:(Ld (aC P N cf) ea eobs n0,okA n1 r&&(obs'.all (okO n1)&&Nat.ble n0 n1),(aL P N cf))=
   (some (k,(FH (aC P N cf) ea eobs).1,(FH (aC P N cf) ea eobs).2,true),true,(aR P N cf)):=by kernel_rfl) (hm:P.follows .mixedOrders=true:=by rfl):Go ρ P N D0 Q As η0 m0 cf:=by
 simp only[Akt]at e;obtain⟨e1,e2,e3⟩:=e;obtain⟨he1,-⟩:=KB e3;refine AP hm he1 ?_;generalize aC P N cf=c0 at*;unfold Ld FH at e1;unfold Afs at g;cases hp:Ni c0 ea eobs with
 |none=>rw[hp]at e1; cases e1
 |some p=>
  rw[hp]at e1 g;simp only[Akv,Akt]at e1 g;obtain⟨ek,eas,eobj,eok⟩:=e1;unfold Ni at hp;split at hp
  ·rename_i a ha;split at hp
   ·rename_i c hg hop;split at hp
    ·rename_i k' as hc;unfold Q3 at hp;simp only at hp;split at hp
     ·rename_i ut hut;have hplan:=Akr hp;clear hp;have pk':p.k=k':=by rw[←hplan]
      have pas:p.as=(cvV c0.s.ob ea as).1:=by rw[←hplan]
      have pobj:p.objs=(Vy c0.s.ob eobs ut).1:=by rw[←hplan]
      have put:p.ut=ut:=by rw[←hplan]
      have pfw:p.fw=(KJ c0.s.ob ((cvV c0.s.ob ea as).2++(Vy c0.s.ob eobs ut).2) []).filter (fun p=>KF p.2):=by rw[←hplan]
      have pfr:p.fr=(KJ c0.s.ob ((cvV c0.s.ob ea as).2++(Vy c0.s.ob eobs ut).2) []).filter (fun p=> !KF p.2):=by rw[←hplan]
      clear hplan;simp only[Tz,Aks]at eok;obtain⟨o1,o2,o3,o4,o5,o6,-⟩:=eok;simp only[Aks]at e2;obtain⟨x1,x2,x3⟩:=e2;have x3:=AkG x3;have hnd:=E1 o3;have hS:=hs.2;subst ek;refine DC ha hg ?_ ?_ g
      ·
        have hgd0:=BG ha hg;obtain⟨l,⟨dst,op,ty,pos,af,gd⟩,gg,sl,es⟩:=a;simp only at hgd0;simp only at hop hg; subst hop hg;have hgd:gd=none:=hgd0;subst hgd;refine⟨by show c0.s.nx≤c0.s.nx+(n1-n0)+_; omega,fun rest Q η m f w As hr hz hn S hk=> ?_⟩;simp only[Aip]at S hk hn⊢;rw[AU,AU,Akw,Akw]at S;have S1:=S.perm (AkE (reps η m p.ut) (reps η m p.fw) _);obtain⟨m1,l1,K1,S2⟩:=Lc o6 S1;have S3:=St.ru Env.le_refl l1 S2;have S4:=S3.perm (AkE (reps η m1 p.ut) (reps η m p.fr) _);have S5:=St.ru Env.le_refl l1 S4;obtain⟨K2,S6⟩:=ND o5 S5;have KN:Kn c0.s.ob η m1 ((cvV c0.s.ob ea as).2++(Vy c0.s.ob eobs ut).2):=by
         intro j hj d hd;obtain⟨q,hf,hq,hrf,hnm⟩:=NF hd;have hmem:=JJ hf hj (seen:=[]) rfl;rcases hrf with h|h
         ·have:q∈p.fw:=by rw[pfw]; simp only[List.mem_filter]; exact⟨hmem,h⟩
          obtain⟨v,y1,y2⟩:=K1 q this;rw[hnm]at y1; rw[hq]at y2; exact⟨v,y1,y2⟩
         ·have:q∈p.fr:=by
           rw[pfr]; simp only[List.mem_filter];refine⟨hmem,?_⟩;cases hq2:q.2<;>rw[hq2]at h<;>first|rfl|cases h
          obtain⟨v,y1,y2⟩:=K2 q this;rw[hnm]at y1; rw[hq]at y2; exact⟨v,y1,y2⟩
        obtain⟨kn1,kn2⟩:=Kn.app KN;have S7:St m1 (p.objs.map (rep η m1)++As) w:=by
         rw[pobj];rw[put]at S6;obtain⟨x,sx,rx⟩:=S6.own;exact⟨S6.os,S6.tape,S6.output,x,Rp kn2 sx,rx⟩
        let φ:Nat→Nat:=fun j=>Ii p.mt j 0;let η1:Env:=fun j=>if j<n0 then η (φ j)else none;have hη1: ∀j,j<n0→η (φ j)=η1 j:=fun j hj=>(AkA hj).symm;have S8:St m1 (eobs.map (rep η1 m1)++As) w:=by
         rw[eobj]at S7;refine S7.imp (by simp) fun i A B ha hb x hx=> ?_;rw[List.getElem?_append]at ha hb;simp only[AkW]at ha hb;split at ha
         ·rename_i q;rw[AkA q]at hb;simp only[AkP,Akx]at ha hb;obtain⟨o',⟨o,ho,rfl⟩,rfl⟩:=ha;obtain⟨o2',ho',rfl⟩:=hb;rw[ho]at ho'; cases ho';exact LZ hη1 (AkI.1 o2 o (AkQ ho)) hx
         ·rename_i q;rw[Aky q]at hb;rw[ha]at hb; cases hb; exact hx
        have hdef: ∀j,j<n0→∃v,η1 j=some v:=fun j hj=>by
         have:=Sy o4 j hj;simp only[List.mem_map]at this;obtain⟨o,ho,rfl⟩:=this;exact Ym S8 o ho
        refine Qn (η:=η) (m:=m) hc (by rw[←pk']; exact hs.1) hr hz (fun vs hv=> ?_) (R:=fun v w'=> ∃(M:Mem) (η':Env) (r':AV) (obs2:List AObj) (n2:Nat),m1≤M∧η1.le η'∧is r obs' n1 r' obs2 n2∧(∀n,η' n≠none→n<n2)∧Rel η' M r' v∧St M (obs2.map (rep η' M)++As) w') ?_
        ·rw[←pk'];have:=Qk kn1 (hv.up Env.le_refl l1);rw[←pas,eas]at this;exact hS η1 m1 As w vs (Nh hη1 o1 this) (fun j hj=>by
          by_cases q:j<n0
          ·exact q
          ·exact absurd (Aky q) hj) S8
        ·rintro v w2 ⟨M,η',r',obs2,n2,l2,le,⟨rfl,rfl,rfl⟩,hdom,hR,S9⟩;let η2:Env:=fun c=>if c0.s.nx≤c∧c<c0.s.nx+(n2-n0)then η' (n0+(c-c0.s.nx))else η c;have hle:η.le η2:=fun c u hu=>by
          show(if _ then _ else _)=_;split
          ·rename_i q;have:=hn c q.1 (by omega);rw[this]at hu; cases hu
          ·exact hu
         have hbk: ∀j,j<n2→∀u,η' j=some u→η2 (bk φ c0.s.nx n0 j)=some u:=by
          intro j hj u hu;unfold bk;cases hb:Nat.blt j n0
          ·have hge:n0≤j:=by
            rcases Nat.lt_or_ge j n0 with q|q
            ·have:Nat.blt j n0=true:=by simp[Nat.blt_eq,q]
             rw[hb]at this; cases this
            ·exact q
           simp only[cond_false];show(if _ then _ else _)=_;rw[AkA ⟨by omega,by omega⟩];have:n0+(c0.s.nx+(j-n0)-c0.s.nx)=j:=by omega
           rw[this]; exact hu
          ·have hlt:=Cy hb;simp only[cond_true];obtain⟨u0,hu0⟩:=hdef j hlt;have:=le j u0 hu0;rw[hu]at this; cases this;have h1:η (φ j)=some u:=by rw[hη1 j hlt]; exact hu0
           exact hle _ _ h1
         refine hk η2 M w2 v hle (Mem.tr l1 l2) (fun c hc2=> ?_) (UQ hbk x1 hR) ?_
         ·have:(if c0.s.nx≤c∧c<c0.s.nx+(n2-n0)then η' (n0+(c-c0.s.nx))else η c)≠none:=hc2;split at this
          ·rename_i q; exact .inr ⟨q.1,by omega⟩
          ·exact .inl this
         ·rw[AU,Akw,GV,Ak3,Akw];have T1:St M ((obs2.map (PO (bk φ c0.s.nx n0))).map (rep η2 M)++As) w2:=by
           refine S9.imp (by simp) fun i A B ha hb x hx=> ?_;rw[List.getElem?_append]at ha hb;simp only[AkW]at ha hb;split at ha
           ·rename_i q;rw[AkA q]at hb;simp only[AkP,Akx]at ha hb;obtain⟨o,ho,rfl⟩:=ha;obtain⟨o2',⟨o',ho',rfl⟩,rfl⟩:=hb;rw[ho]at ho'; cases ho';exact UP hbk (AkI.1 x2 o (AkQ ho)) hx
           ·rename_i q;rw[Aky q]at hb;rw[ha]at hb; cases hb; exact hx
          have F1: ∀q∈p.fw,∃v,η2 q.2.nm=some v∧FR M (JH q.2) v:=fun q hq=>let ⟨v,a,b⟩:=K1 q hq; ⟨v,hle _ _ a,b.up l2⟩;have F2: ∀q∈p.fr,∃v,η2 q.2.nm=some v∧FR M (JH q.2) v:=fun q hq=>let ⟨v,a,b⟩:=K2 q hq; ⟨v,hle _ _ a,b.up l2⟩;have T2:=K4 F1 (Mq o5 F2 T1);refine T2.perm ?_;exact(AkU _ (AkE _ _ _)).trans (AkE _ _ _)
      ·
        refine⟨fun q hq=> ?_,?_,?_,fun t ht=> ?_⟩
        ·simp only[Aip]at hq;rcases AkS.1 hq with h|h
         ·rcases AkS.1 h with h|h
          ·rw[put]at h; exact PD hut q h
          ·rw[pfw]at h; exact Gf (List.mem_filter.1 h).1
         ·rw[pfr]at h; exact Gf (List.mem_filter.1 h).1
        ·exact hnd
        ·simp only[Aip]; rw[Ef]; exact List.nodup_range'
        ·simp only[Aip]at ht⊢;rw[Ef,List.mem_range']at ht;obtain⟨i,hi,rfl⟩:=ht;omega
     ·cases hp
    ·cases hp
   ·cases hp
  ·cases hp
end
def AiL (ob:List Tok):AV→Option (D×List Tok)
 | .d d=>some (d,[])
 | .ow n=>match find n ob with
  |some (i,.fr k d)=>bif Nat.beq k n then some (d,[(i,.fr k d)])else none
  |_=>none
 |_=>none
theorem XV {ob:List Tok}{a:AV}{d:D}{ts:List Tok}(h:AiL ob a=some (d,ts)){η:Env}{m:Mem}{As:List Ow}{w:World}{v:Value}(S:St m (reps η m ts++As) w)(r:Rel η m a v):FR m d v:=by
 unfold AiL at h;split at h
 ·cases h; exact r.dd
 ·rename_i n;split at h
  ·rename_i i k d' hf;cases hb:Nat.beq k n
   ·rw[hb]at h; cases h
   ·rw[hb]at h; cases h;have:=Aku hb; subst this;obtain⟨⟨u,h1,h2⟩,_⟩:=St.openFr S;have:=r.ow_inv.1;rw[h1]at this; cases this; exact h2
  ·cases h
 ·cases h
theorem UO {ob:List Tok}{a:AV}{d:D}{ts:List Tok}(h:AiL ob a=some (d,ts)):(∀p∈ts,p∈ob)∧(tids ts).Nodup:=by
 unfold AiL at h;split at h
 ·cases h; exact⟨fun _ h=>(by cases h),List.nodup_nil⟩
 ·split at h
  ·rename_i i k d' hf;cases hb:Nat.beq k _
   ·rw[hb]at h; cases h
   ·rw[hb]at h; cases h;exact⟨fun p hp=>by simp at hp; subst hp; exact FG hf,by simp[tids]⟩
  ·cases h
 ·cases h
def CK (N:Nat)(cf:Cf)(v:AV)(rd:List Tok):Cf:=
 match Gt cf with
 |some a=>match a.g with
  |none=>push N cf ⟨v,rd,[],[],cf.s.nx,[]⟩
  |some (g,w,p)=>push N cf ⟨.gd g w p v,rd,[],[],cf.s.nx,[]⟩
 |none=>cf
section
variable {ρ:Option Nat}{P:Program}{N:Nat}{D0:Dw}{Q:DJ}{As:List Ow}{η0:Env}{m0:Mem}
theorem Aci {s:AS}{v:AV}{es:Eqs}{rd:List Tok}(h:(∀p∈rd,p∈s.ob)∧(tids rd).Nodup):MM s ⟨v,rd,[],[],s.nx,es⟩:=⟨fun x hx=>h.1 x (by simpa using hx),by simpa using h.2,by simp[tids],fun t ht=>by simp[tids]at ht⟩
theorem DB {cf:Cf}{a:Ag0}{v:AV}{rd:List Tok}(ha:Gt cf=some a)(he:EqsOk a.es)(hrd:(∀p∈rd,p∈cf.s.ob)∧(tids rd).Nodup)
  (ht:(∀q,a.g=some q→q.2.2=true)→Tri ρ P N D0 a.l.toArray {a.o with guard:=none} cf.s.fz a.sl cf.s.nx ⟨v,rd,[],[],cf.s.nx,[]⟩)
  (g:Go ρ P N D0 Q As η0 m0 (CK N cf v rd)):Go ρ P N D0 Q As η0 m0 cf:=by
 obtain⟨s,md,K⟩:=cf;have ha0:=ha;unfold Gt at ha;split at ha<;>first|cases ha|skip
 rename_i dr l o rest h hmd;simp only at hmd; subst hmd;split at ha
 ·rename_i hg;cases ha;have e:{o with guard:=none}=o:=by obtain⟨a,b,c,d,e,f⟩:=o; simp only at hg; subst hg; rfl
  rw[show CK N ⟨s,.ops dr l (o::rest) h,K⟩ v rd=push N ⟨s,.ops dr l (o::rest) h,K⟩ ⟨v,rd,[],[],s.nx,[]⟩ by unfold CK; rw[ha0]]at g;refine Mn ?_ (Aci hrd) g;have hr:rds l.toArray o=opT o.op:=by simp[rds,hg]
  rw[hr];have:=ht (fun q hq=>by cases hq);rw[e]at this;exact this
 ·rename_i j w hg;split at ha
  ·cases ha
  ·rename_i gs hd;split at ha
   ·rename_i v' hk;cases hb:AaV v' w
    ·rw[hb]at ha; cases ha
    ·rw[hb]at ha;simp only[cond_true]at ha;cases ha;rw[show CK N ⟨s,.ops dr l (o::rest) h,K⟩ v rd=push N ⟨s,.ops dr l (o::rest) h,K⟩ ⟨v,rd,[],[],s.nx,[]⟩ by unfold CK; rw[ha0]]at g;exact Mn (YH hg hd hk hb (ht (fun q hq=>by cases hq))) (Aci hrd) g
   split at ha
   ·cases ha
   ·rename_i p ctx hi;cases ha;rw[show CK N ⟨s,.ops dr l (o::rest) h,K⟩ v rd=push N ⟨s,.ops dr l (o::rest) h,K⟩ ⟨.gd gs w p v,rd,[],[],s.nx,[]⟩ by unfold CK; rw[ha0]]at g;refine Mn ?_ (Aci hrd) g;exact Ag3 (RP hg hd hi he fun hp=>ht fun q hq=>by cases hq; exact hp)
theorem MC {cf:Cf}{a:Ag0}(ha:Gt cf=some a)(h: ∀q,a.g=some q→q.2.2=true):gOf cf=true:=by
 unfold gOf; rw[ha];obtain⟨l,o,gg,sl,es⟩:=a;cases gg with
 |none=>rfl
 |some q=>exact h q rfl
theorem DD {cf:Cf}{a:Ag0}(ha:Gt cf=some a):PF cf=a.es:=by unfold PF; rw[ha]
def Ajv (P:Program)(cf:Cf):Option (D×Int×Nat×List Tok):=
 match Gt cf with
 |some a=>match a.o.op with
  | .indexAddr t x y=>match AiL cf.s.ob (aev a.sl x),OK a.sl y,P.underlying t with
   |some (d,ts),some (_,j),some (.slice e)=>match JK P e with
    |some i=>some (d,j,i.sz,ts)
    |none=>none
   |_,_,_=>none
  |_=>none
 |none=>none
def idxT (P:Program)(cf:Cf):List Tok:=match Ajv P cf with|some (_,_,_,ts)=>ts|none=> []
theorem gidx {k:Nat}{cf:Cf}{α:Type}{E:α→List D}{xs:List α}{j:Int}{x:α}(hE: ∀x,(E x).length=k)(hq:gOf (aC P N cf)=true→idx xs j=some x)(g:Go ρ P N D0 Q As η0 m0 (CK N (aC P N cf) (.d (.pf (E x))) (idxT P (aC P N cf))))
  (e:((Ajv P (aC P N cf)).map (fun r=>(r.1,r.2.1,r.2.2.1)),(aL P N cf))=(some (.sl α E xs,j,k),(aR P N cf)):=by kernel_rfl) (hm:P.follows .mixedOrders=true:=by rfl):Go ρ P N D0 Q As η0 m0 cf:=by
 simp only[Akt]at e;obtain⟨e1,e3⟩:=e;obtain⟨he1,he2⟩:=KB e3;refine AP hm he1 ?_;generalize aC P N cf=c0 at*;cases hk:Ajv P c0 with
 |none=>rw[hk]at e1; cases e1
 |some r=>
  have hT:idxT P c0=r.2.2.2:=by unfold idxT; rw[hk]
  rw[hT]at g;rw[hk]at e1;simp only[AkL,Akv,Akt]at e1;obtain⟨e1,e2,e4⟩:=e1;unfold Ajv at hk;split at hk
  ·rename_i a ha;rw[DD ha]at he2;split at hk
   ·rename_i t x' y hop;split at hk
    ·rename_i d ts kk jj e' h1 h2 h3;split at hk
     ·rename_i i hi;cases hk;simp only at e1 e2 e4 g;subst e1 e2;refine DB ha he2 (UO h1) (fun hp=> ?_) g;have q:=hq (MC ha hp);obtain⟨l,⟨dst,op,ty,pos,af,gd⟩,gg,sl,es⟩:=a;simp only at hop⊢; subst hop;refine⟨AkC _,fun rest Q η m f w As hr hz hn S hk=> ?_⟩;have S':St m (reps η m ts++As) w:=S;have hf:=XV h1 S' (Am hr x');letI:=PQ E k;refine s_idx (q:=x) rfl (B6 h2 hr) (Wl hf hE) q h3 (by rw[←e4]; exact Cc hi) fun p cs hp hrep=> ?_;exact hk η m w p Env.le_refl (Mem.rfl' m) (fun n h=> .inl h) (.d (.pf hp (PtC.isPt hp) hrep.1.1 hrep.1.2)) S
     ·cases hk
    ·cases hk
   ·cases hk
  ·cases hk
def dlen:D→Int
 | .sl _ _ xs=>(xs.length:Int)
 |_=>0
def cutK (P:Program)(cf:Cf):Option (D×Int×Int×Int×Nat×List Tok):=
 match Gt cf with
 |some a=>match a.o.op with
  | .slice t x lo hi mx=>match AiL cf.s.ob (aev a.sl x),P.underlying t with
   |some (d,ts),some (.slice e)=>match JK P e with
    |some i=>
     let l:Option Int:=match lo with|none=>some 0|some o=>(OK a.sl o).map (·.2)
     let h:Option Int:=match hi with|none=>some (dlen d)|some o=>(OK a.sl o).map (·.2)
     let m:Option Int:=match mx with|none=>h|some o=>match hi with|none=>none|some _=>(OK a.sl o).map (·.2)
     match l,h,m with
     |some l,some h,some m=>some (d,l,h,m,i.sz,ts)
     |_,_,_=>none
    |none=>none
   |_,_=>none
  |_=>none
 |none=>none
def cutT (P:Program)(cf:Cf):List Tok:=match cutK P cf with|some (_,_,_,_,_,ts)=>ts|none=> []
theorem gcut {k:Nat}{cf:Cf}{α:Type}{E:α→List D}{xs ys:List α}{lo hi:Int}(hE: ∀x,(E x).length=k)(hq:gOf (aC P N cf)=true→cut xs lo hi=some ys)(g:Go ρ P N D0 Q As η0 m0 (CK N (aC P N cf) (.d (.sl α E ys)) (cutT P (aC P N cf))))
  (e:((cutK P (aC P N cf)).map (fun r=>(r.1,r.2.1,r.2.2.1,r.2.2.2.1,r.2.2.2.2.1)),(aL P N cf))=(some (.sl α E xs,lo,hi,hi,k),(aR P N cf)):=by kernel_rfl) (hm:P.follows .mixedOrders=true:=by rfl):Go ρ P N D0 Q As η0 m0 cf:=by
 simp only[Akt]at e;obtain⟨e1,e3⟩:=e;obtain⟨he1,he2⟩:=KB e3;refine AP hm he1 ?_;generalize aC P N cf=c0 at*;cases hk:cutK P c0 with
 |none=>rw[hk]at e1; cases e1
 |some r=>
  have hT:cutT P c0=r.2.2.2.2.2:=by unfold cutT; rw[hk]
  rw[hT]at g;rw[hk]at e1;simp only[AkL,Akv,Akt]at e1;obtain⟨e1,e2,e4,e5,e6⟩:=e1;unfold cutK at hk;split at hk
  ·rename_i a ha;rw[DD ha]at he2;split at hk
   ·rename_i t x' lo' hi' mx' hop;split at hk
    ·rename_i d ts e' h1 h3;split at hk
     ·rename_i i hti;simp only at hk;split at hk
      ·rename_i l h m hl hh hmm;cases hk;simp only at e1 e2 e4 e5 e6 g;subst e1 e2 e4 e5;refine DB ha he2 (UO h1) (fun hp=> ?_) g;have q:=hq (MC ha hp);obtain⟨ll,⟨dst,op,ty,pos,af,gd⟩,gg,sl,es⟩:=a;simp only at hop hl hh hmm⊢; subst hop;refine⟨AkC _,fun rest Q η m' f w As hr hz hn S hk=> ?_⟩;have S':St m' (reps η m' ts++As) w:=S;have hf:=XV h1 S' (Am hr x');letI:=PQ E k;refine s_cut rfl (Wl hf hE) h3 (by rw[←e6]; exact Cc hti) ?_ ?_ ?_ q fun v' hv'=>hk η m' w v' Env.le_refl (Mem.rfl' m') (fun n h=> .inl h) (.d (V3 hv')) S
       ·cases lo' with
        |none=>simp only[Akv]at hl; exact .inl ⟨rfl,hl.symm⟩
        |some o=>
         simp only[Akx]at hl;obtain⟨⟨kk,jj⟩,hj,rfl⟩:=hl;exact .inr ⟨kk,by simp only[AkL]; rw[B6 hj hr]⟩
       ·cases hi' with
        |none=>simp only[Akv]at hh; exact .inl ⟨rfl,hh.symm⟩
        |some o=>
         simp only[Akx]at hh;obtain⟨⟨kk,jj⟩,hj,rfl⟩:=hh;exact .inr ⟨kk,by simp only[AkL]; rw[B6 hj hr]⟩
       ·cases mx' with
        |none=>exact .inl rfl
        |some o=>
         cases hi' with
         |none=>simp at hmm
         |some o2=>
          simp only[Akx]at hmm;obtain⟨⟨kk,jj⟩,hj,rfl⟩:=hmm;exact .inr ⟨by simp,kk,by simp only[AkL]; rw[B6 hj hr]⟩
      ·cases hk
     ·cases hk
    ·cases hk
   ·cases hk
  ·cases hk
def nzD:D→Prop
 | .i n=>n≠0
 | .u n=>n≠0
 |_=>False
def quoK (cf:Cf):Option (AV×D):=
 match Gt cf with
 |some a=>match a.o.op with
  | .binOp op _ x y _=>match quoV op (aev a.sl x) (aev a.sl y)with
   |some r=>some (aev a.sl y,r)
   |none=>none
  |_=>none
 |none=>none
theorem AeF {cf:Cf}{d r:D}(hq:gOf (aC P N cf)=true→nzD d)(g:Go ρ P N D0 Q As η0 m0 (CK N (aC P N cf) (.d r) []))
  (e:(quoK (aC P N cf),(aL P N cf))=(some (.d d,r),(aR P N cf)):=by kernel_rfl) (hm:P.follows .mixedOrders=true:=by rfl):Go ρ P N D0 Q As η0 m0 cf:=by
 simp only[Akt]at e;obtain⟨e1,e3⟩:=e;obtain⟨he1,he2⟩:=KB e3;refine AP hm he1 ?_;generalize aC P N cf=c0 at*;unfold quoK at e1;split at e1
 ·rename_i a ha;rw[DD ha]at he2;split at e1
  ·rename_i op t x y t' hop;split at e1
   ·rename_i r' hr';simp only[Akv,Akt]at e1;obtain⟨ed,rfl⟩:=e1;refine DB (rd:=[]) ha he2 ⟨fun _ h=>(by cases h),List.nodup_nil⟩ (fun hp=> ?_) g;have q:=hq (MC ha hp);obtain⟨l,⟨dst,op',ty,pos,af,gd⟩,gg,sl,es⟩:=a;simp only at hop ed hr'⊢; subst hop;refine⟨AkC _,fun rest Q η m f w As hr hz hn S hk=> ?_⟩;have ry:=Am hr y;rw[ed]at ry hr';have fin: ∀u,Rel η m (.d r') u→wpl ρ P N D0 l.toArray rest Q (upo N f dst u) w:=fun u hu=>hk η m w u Env.le_refl (Mem.rfl' m) (fun n h=> .inl h) hu S;cases d<;>simp only[nzD]at q
    ·exact Acl hr' (Am hr x) ry ry.i_inv q fin
    ·rename_i nn;exact Acl hr' (Am hr x) ry ry.u_inv (fun e=>q (by rw[←UInt64.toNat_inj]; simpa using e)) fin
   ·cases e1
  ·cases e1
 ·cases e1
def shK (cf:Cf):Option (Int×D):=
 match Gt cf with
 |some a=>match a.o.op with
  | .binOp op _ x y _=>match OK a.sl y with
   |some (k,n)=>match shV op (aev a.sl x) k n with
    |some r=>some (n,r)
    |none=>none
   |none=>none
  |_=>none
 |none=>none
theorem gsh {cf:Cf}{c:Int}{r:D}(hq:gOf (aC P N cf)=true→0≤c)(g:Go ρ P N D0 Q As η0 m0 (CK N (aC P N cf) (.d r) []))
  (e:(shK (aC P N cf),(aL P N cf))=(some (c,r),(aR P N cf)):=by kernel_rfl) (hm:P.follows .mixedOrders=true:=by rfl):Go ρ P N D0 Q As η0 m0 cf:=by
 simp only[Akt]at e;obtain⟨e1,e3⟩:=e;obtain⟨he1,he2⟩:=KB e3;refine AP hm he1 ?_;generalize aC P N cf=c0 at*;unfold shK at e1;split at e1
 ·rename_i a ha;rw[DD ha]at he2;split at e1
  ·rename_i op t x y t' hop;split at e1
   ·rename_i k nn hy;split at e1
    ·rename_i r' hr';simp only[Akv,Akt]at e1;obtain⟨rfl,rfl⟩:=e1;refine DB (rd:=[]) ha he2 ⟨fun _ h=>(by cases h),List.nodup_nil⟩ (fun hp=> ?_) g;have q:=hq (MC ha hp);obtain⟨l,⟨dst,op',ty,pos,af,gd⟩,gg,sl,es⟩:=a;simp only at hop hy hr'⊢; subst hop;refine⟨AkC _,fun rest Q η m f w As hr hz hn S hk=> ?_⟩;exact sh_ok hr' (Am hr x) (B6 hy hr) q fun u hu=>hk η m w u Env.le_refl (Mem.rfl' m) (fun n h=> .inl h) hu S
    ·cases e1
   ·cases e1
  ·cases e1
 ·cases e1
end
theorem R3 {ob:List Tok}{k:FuncId}{as ea:List AV}{eobs:List AObj}{p:Aa2}(hp:Q3 ob k as ea eobs=some p){η:Env}{m:Mem}{w:World}{As:List Ow}{vs:List Value}
  (o5:p.fr.all (fun p=>WG p.2)=true) (o6:p.fw.all (fun p=>KF p.2)=true) (hv:BP η m as vs) (S:St m (reps η m ((p.ut++p.fw)++p.fr)++As) w):
  ∃m1,m≤m1∧BP η m1 p.as vs∧St m1 (p.objs.map (rep η m1)++As) w:=by
 unfold Q3 at hp;simp only at hp;split at hp
 ·rename_i ut hut;have hplan:=Akr hp;clear hp;have pas:p.as=(cvV ob ea as).1:=by rw[←hplan]
  have pobj:p.objs=(Vy ob eobs ut).1:=by rw[←hplan]
  have put:p.ut=ut:=by rw[←hplan]
  have pfw:p.fw=(KJ ob ((cvV ob ea as).2++(Vy ob eobs ut).2) []).filter (fun p=>KF p.2):=by rw[←hplan]
  have pfr:p.fr=(KJ ob ((cvV ob ea as).2++(Vy ob eobs ut).2) []).filter (fun p=> !KF p.2):=by rw[←hplan]
  clear hplan;rw[AU,AU,Akw,Akw]at S;have S1:=S.perm (AkE (reps η m p.ut) (reps η m p.fw) _);obtain⟨m1,l1,K1,S2⟩:=Lc o6 S1;have S3:=St.ru Env.le_refl l1 S2;have S4:=S3.perm (AkE (reps η m1 p.ut) (reps η m p.fr) _);have S5:=St.ru Env.le_refl l1 S4;obtain⟨K2,S6⟩:=ND o5 S5;have KN:Kn ob η m1 ((cvV ob ea as).2++(Vy ob eobs ut).2):=by
   intro j hj d hd;obtain⟨q,hf,hq,hrf,hnm⟩:=NF hd;have hmem:=JJ hf hj (seen:=[]) rfl;rcases hrf with h|h
   ·have:q∈p.fw:=by rw[pfw]; simp only[List.mem_filter]; exact⟨hmem,h⟩
    obtain⟨v,y1,y2⟩:=K1 q this;rw[hnm]at y1; rw[hq]at y2; exact⟨v,y1,y2⟩
   ·have:q∈p.fr:=by
     rw[pfr]; simp only[List.mem_filter];refine⟨hmem,?_⟩;cases hq2:q.2<;>rw[hq2]at h<;>first|rfl|cases h
    obtain⟨v,y1,y2⟩:=K2 q this;rw[hnm]at y1; rw[hq]at y2; exact⟨v,y1,y2⟩
  obtain⟨kn1,kn2⟩:=Kn.app KN;refine⟨m1,l1,by rw[pas]; exact Qk kn1 (hv.up Env.le_refl l1),?_⟩;rw[pobj];rw[put]at S6;obtain⟨x,sx,rx⟩:=S6.own;exact⟨S6.os,S6.tape,S6.output,x,Rp kn2 sx,rx⟩
 ·cases hp
theorem Pc {ob:List Tok}{k:FuncId}{as ea:List AV}{eobs:List AObj}{p:Aa2}(hp:Q3 ob k as ea eobs=some p): ∀q∈(p.ut++p.fw)++p.fr,q∈ob:=by
 unfold Q3 at hp;simp only at hp;split at hp
 ·rename_i ut hut;have hplan:=Akr hp;intro q hq;rw[←hplan]at hq;simp only at hq;rcases AkS.1 hq with h|h
  ·rcases AkS.1 h with h|h
   ·exact PD hut q h
   ·exact Gf (List.mem_filter.1 h).1
  ·exact Gf (List.mem_filter.1 h).1
 ·cases hp
def asV (s t:AS):List AV:=t.sl.map fun p=>get s.sl p.1
def vwP (s t:AS):Option Aa2:=Q3 s.ob 0 (asV s t) (t.sl.map (·.2)) (t.ob.map (·.2))
def fixB (mt:Mt):Nat→Bool
 |0=>true
 |n+1=>Nat.beq (Ii mt n n) n&&fixB mt n
theorem Yj {mt:Mt}: ∀{n:Nat},fixB mt n=true→∀j,j<n→Ii mt j j=j
 |0,_,j,h=>by omega
 |n+1,h,j,hj=>by
  simp only[fixB,Aks]at h;by_cases e:j=n
  ·subst e; exact Aku h.1
  ·exact Yj h.2 j (by omega)
def Ws (n:Nat):List Nat→Bool
 | []=>true
 |a::l=>Nat.blt a n&&Ws n l
theorem Pw {n:Nat}: ∀{l:List Nat},Ws n l=true→∀t∈l,t<n
 | [],_,_,h=>by cases h
 |a::l,h,t,ht=>by
  simp only[Ws,Aks]at h;rcases Ak1.1 ht with e|e
  ·subst e; exact Cy h.1
  ·exact Pw h.2 t e
def okVw (p:Aa2)(t:AS)(n0:Nat):Bool:=(t.sl.map (·.2)).all (okA t.nx)&&((t.ob.map (·.2)).all (okO t.nx)&&(Xc (tids ((p.ut++p.fw)++p.fr))&&(fixB p.mt n0&&(Nat.ble n0 t.nx&&(p.fr.all (fun p=>WG p.2)&&(p.fw.all (fun p=>KF p.2)&&(Xc (tids t.ob)&&Ws t.nx (tids t.ob))))))))
def isNilF:Fz→Bool
 | []=>true
 |_=>false
def vwL (s t:AS)(n0:Nat):Option (List AV×List AObj×Bool×Bool):=match vwP s t with|some p=>some (p.as,p.objs,okVw p t n0,isNilF t.fz)|none=>none
def vwR (s t:AS):Option (List AV×List AObj×Bool×Bool):=match vwP s t with|some p=>some ((t.sl.map (·.2)).map (Rh fun j=>Ii p.mt j j),(t.ob.map (·.2)).map (PO fun j=>Ii p.mt j j),true,true)|none=>none
theorem Ads {η:Env}{m:Mem}{f:Fr}: ∀{l:Sl},BP η m (l.map (·.2)) (l.map fun p=>f p.1)→∀t,Rel η m (get l t) (f t)
 | [],_,t=> .any _
 |p::l,h,t=>by
  obtain⟨v,us,e,h1,h2⟩:=h.cons_inv;simp only[AkZ,List.cons.injEq]at e;obtain⟨rfl,rfl⟩:=e;show Rel η m (bif Nat.beq p.1 t then p.2 else get l t) (f t);cases hb:Nat.beq p.1 t
  ·exact Ads h2 t
  ·have:=Aku hb; rw[this]at h1; exact h1
theorem M7 {s t:AS}{n0:Nat}(e:vwL s t n0=vwR s t)(hne:(vwP s t).isSome=true){As:List Ow}{η0 η:Env}{m:Mem}{f:Fr}{w:World}(hd: ∀n,η0 n≠none→n<n0)(hle:η0.le η)(g:Gm As s η m f w):
  ∃η' m',m≤m'∧η0.le η'∧Gm As t η' m' f w:=by
 cases hp:vwP s t with
 |none=>rw[hp]at hne; cases hne
 |some p=>
  unfold vwL vwR at e;rw[hp]at e;simp only[Akv,Akt]at e;obtain⟨e1,e2,e3,e4⟩:=e;simp only[okVw,Aks]at e3;obtain⟨o1,o2,o3,o4,o5,o6,o7,o8,o9⟩:=e3;have S:=St.rp g.st (HW g.wf.nd (E1 o3) (Pc hp));rw[AU,Akw]at S;have hv:BP η m (asV s t) (t.sl.map fun p=>f p.1):=⟨by simp[asV],fun k c u a b=>by
   simp only[asV,AkP,Akx]at a b;obtain⟨x,hx,rfl⟩:=a;obtain⟨y,hy,rfl⟩:=b;rw[hx]at hy; cases hy;exact g.slr _⟩
  obtain⟨m1,l1,r1,S1⟩:=R3 hp o6 o7 hv S;rw[e1]at r1;rw[e2]at S1;let φ:Nat→Nat:=fun j=>Ii p.mt j j;let η1:Env:=fun j=>if j<t.nx then η (φ j)else none;have hη1: ∀j,j<t.nx→η (φ j)=η1 j:=fun j hj=>(AkA hj).symm;have S2:=S1.perm (show((t.ob.map (·.2)).map (PO φ)).map (rep η m1)++(reps η m (DY (tids (p.ut++p.fw++p.fr)) s.ob)++As)|>.Perm (reps η m (DY (tids (p.ut++p.fw++p.fr)) s.ob)++(((t.ob.map (·.2)).map (PO φ)).map (rep η m1)++As))from AkE _ _ _);obtain⟨m2,l2,S3⟩:=St.dropN (reps η m (DY (tids (p.ut++p.fw++p.fr)) s.ob)).length S2;rw[List.drop_left]at S3;have S4:St m2 (reps η1 m2 t.ob++As) w:=by
   have S3':=St.mapUp (obs:=(t.ob.map (·.2)).map (PO φ)) Env.le_refl l2 S3;refine S3'.imp (by simp[reps]) fun i A B ha hb x hx=> ?_;rw[List.getElem?_append]at ha hb;simp only[AkW,reps]at ha hb;split at ha
   ·rename_i q;rw[AkA q]at hb;simp only[AkP,Akx]at ha hb;obtain⟨o',⟨o,⟨tk,htk,rfl⟩,rfl⟩,rfl⟩:=ha;obtain⟨tk',htk',rfl⟩:=hb;rw[htk]at htk'; cases htk';exact LZ hη1 (AkI.1 o2 tk.2 (List.mem_map_of_mem (AkQ htk))) hx
   ·rename_i q;rw[Aky q]at hb;rw[ha]at hb; cases hb; exact hx
  refine⟨η1,m2,Mem.tr l1 l2,fun k v hv=> ?_,Ads (Nh hη1 o1 (r1.up Env.le_refl l2)),?_,fun k hk=> ?_,S4,E1 o8,fun x hx=>Pw o9 x hx⟩
  ·have hlt:=hd k (by rw[hv]; simp);show(if _ then _ else _)=_;rw[AkA (Alw hlt (AkG o5))];show η (Ii p.mt k k)=some v;rw[Yj o4 k hlt]; exact hle _ _ hv
  ·intro k d hk;cases hz:t.fz with
   |nil=>rw[hz]at hk; cases hk
   |cons _ _=>rw[hz]at e4; cases e4
  ·have:(if k<t.nx then η (φ k)else none)≠none:=hk;split at this
   ·assumption
   ·exact absurd rfl this
def Rl (As:List Ow)(η0:Env)(m0:Mem){ι:Type}(J:ι→AS)(ok:ι→Prop):Fr→World→Prop:=fun f w=> ∃x,ok x∧∃η m,η0.le η∧m0≤m∧Gm As (J x) η m f w
def AaX (cf:Cf):Option (Fr→World→Prop):=match cf.md,cf.K with| .pop,.ctn J::_=>some J|_,_=>none
section
variable {ρ:Option Nat}{P:Program}{N:Nat}{D0:Dw}{Q:DJ}{As:List Ow}{η0:Env}{m0:Mem}
def ctnC (cf:Cf)(J:Fr→World→Prop):Cf:=⟨cf.s,cf.md,.ctn J::cf.K⟩
def QP (cf:Cf):Bool:=match cf.md with| .code _=>true|_=>false
theorem Adp (hm:P.follows .mixedOrders=true){n:Nat}{cf:Cf}{ι:Type}(J:ι→AS)(ok:ι→Prop)(e:(QP (adv P N n cf).1,((adv P N n cf).2).map (·.1))=(true,((adv P N n cf).2).map (·.2)))
  (h1:Go ρ P N D0 Q As η0 m0 (ctnC (adv P N n cf).1 (Rl As η0 m0 J ok))) (h2: ∀x,ok x→Go ρ P N D0 Q As η0 m0 ⟨J x,.pop,(adv P N n cf).1.K⟩):Go ρ P N D0 Q As η0 m0 cf:=by
 simp only[Akt]at e;obtain⟨e1,e3⟩:=e;refine MD hm (.of e3) ?_;generalize (adv P N n cf).1=c0 at*;obtain⟨s,md,K⟩:=c0;unfold QP at e1;split at e1
 ·rename_i c hmd;simp only at hmd; subst hmd;intro η m f w a1 a2 g;refine FI (fun ex f' w' q=> ?_) (h1 η m f w a1 a2 g);cases ex with
  |normal=>
   obtain⟨x,hx,η',m',b1,b2,g'⟩:=q;exact h2 x hx η' m' f' w' b1 b2 g'
  |_=>exact q
 ·cases e1
def Zw (cf:Cf):Option Code:=match cf.md with| .code (.loop c)=>some c|_=>none
def rndC (cf:Cf)(s:AS)(J:Fr→World→Prop):Cf:=match cf.md with| .code (.loop c)=>⟨s,.code c,.ctn J::cf.K⟩|_=>cf
theorem AjI (hm:P.follows .mixedOrders=true){n n0:Nat}{cf:Cf}{ι:Type}(J:ι→AS)(pre:ι→Prop)(μ:ι→Nat)(x0:ι)(hx:pre x0)(hd: ∀n,η0 n≠none→n<n0)
  (e:((Zw (adv P N n cf).1).isSome,vwL (adv P N n cf).1.s (J x0) n0,(vwP (adv P N n cf).1.s (J x0)).isSome,((adv P N n cf).2).map (·.1))=(true,vwR (adv P N n cf).1.s (J x0),true,((adv P N n cf).2).map (·.2)))
  (h: ∀x,pre x→Go ρ P N D0 Q As η0 m0 (rndC (adv P N n cf).1 (J x) (Rl As η0 m0 J fun y=>pre y∧μ y<μ x))):Go ρ P N D0 Q As η0 m0 cf:=by
 simp only[Akt]at e;obtain⟨e1,e2,e4,e3⟩:=e;refine MD hm (.of e3) ?_;generalize (adv P N n cf).1=c0 at*;obtain⟨s,md,K⟩:=c0;cases md with
 |code c=>
  cases c with
  |loop c=>
   intro η m f w a1 a2 g;obtain⟨η',m',l,le,g'⟩:=M7 e2 e4 hd a1 g;refine YA (fun k f w=> ∃x,(pre x∧μ x=k)∧∃η m,η0.le η∧m0≤m∧Gm As (J x) η m f w) (μ x0) ⟨x0,⟨hx,rfl⟩,η',m',le,Mem.tr a2 l,g'⟩ ?_;rintro k f w ⟨x,⟨hp,rfl⟩,η2,m2,b1,b2,g2⟩;refine FI (fun ex f' w' q=> ?_) (h x hp η2 m2 f w b1 b2 g2);cases ex with
   |normal=>
    obtain⟨y,⟨hy,hlt⟩,η3,m3,c1,c2,g3⟩:=q;exact⟨μ y,hlt,y,⟨hy,rfl⟩,η3,m3,c1,c2,g3⟩
   |_=>exact q
  |_=>cases e1
 |_=>cases e1
end
def atBlk (id:Nat)(cf:Cf):Bool:=match cf.md with| .code (.block i _)=>Nat.beq i id|_=>false
def Lg (id:Nat)(P:Program)(N:Nat):Nat→Cf→Cf×Eqs
 |0,cf=>(cf,[])
 |n+1,cf=>bif atBlk id cf then(cf,[])else match nxt P N cf with
  |some r=>let q:=Lg id P N n r.1; (q.1,r.2++q.2)
  |none=>(cf,[])
section
variable {ρ:Option Nat}{P:Program}{N:Nat}{D0:Dw}{Q:DJ}{As:List Ow}{η0:Env}{m0:Mem}
theorem SG {id:Nat}(hm:P.follows .mixedOrders=true): ∀{n:Nat} {cf:Cf},EqsOk (Lg id P N n cf).2→Go ρ P N D0 Q As η0 m0 (Lg id P N n cf).1→Go ρ P N D0 Q As η0 m0 cf
 |0,_,_,g=>g
 |n+1,cf,he,g=>by
  cases hb:atBlk id cf with
  |true=>
   have e:Lg id P N (n+1) cf=(cf,[]):=by simp only[Lg,hb,cond_true]
   rw[e]at g; exact g
  |false=>
   cases hr:nxt P N cf with
   |none=>
    have e:Lg id P N (n+1) cf=(cf,[]):=by simp only[Lg,hr,hb,cond_false]
    rw[e]at g; exact g
   |some r=>
    have e:Lg id P N (n+1) cf=((Lg id P N n r.1).1,r.2++(Lg id P N n r.1).2):=by simp only[Lg,hr,hb,cond_false]
    rw[e]at g he;have he':=EqsOk.app.1 he;exact Wm hm hr he'.1 (SG hm (n:=n) he'.2 g)
theorem Agf {id:Nat}(hm:P.follows .mixedOrders=true){n:Nat}{cf:Cf}{ι:Type}(J:ι→AS)(ok:ι→Prop)(e:(QP (Lg id P N n cf).1,((Lg id P N n cf).2).map (·.1))=(true,((Lg id P N n cf).2).map (·.2)))
  (h1:Go ρ P N D0 Q As η0 m0 (ctnC (Lg id P N n cf).1 (Rl As η0 m0 J ok))) (h2: ∀x,ok x→Go ρ P N D0 Q As η0 m0 ⟨J x,.pop,(Lg id P N n cf).1.K⟩):Go ρ P N D0 Q As η0 m0 cf:=by
 simp only[Akt]at e;obtain⟨e1,e3⟩:=e;refine SG hm (.of e3) ?_;refine Adp (n:=0) hm J ok ?_ h1 h2;simp only[adv,e1,List.map_nil]
end
structure Bk (As:List Ow)(η0:Env)(m0:Mem){ι:Type}(J:ι→AS)(ok:ι→Prop)(Jp:Fr→World→Prop):Prop where
 h: ∀f w,Rl As η0 m0 J ok f w→Jp f w
section
variable {ρ:Option Nat}{P:Program}{N:Nat}{D0:Dw}{Q:DJ}{As:List Ow}{η0:Env}{m0:Mem}
theorem gb {n0:Nat}{cf:Cf}{ι:Type}{J:ι→AS}{ok:ι→Prop}{Jp:Fr→World→Prop}(bk:Bk As η0 m0 J ok Jp)(hd: ∀n,η0 n≠none→n<n0)(x:ι)(hx:ok x)
  (e:(AaX (aC P N cf),vwL (aC P N cf).s (J x) n0,(vwP (aC P N cf).s (J x)).isSome,(bL P N cf))=(some Jp,vwR (aC P N cf).s (J x),true,(bR P N cf)):=by kernel_rfl) (hm:P.follows .mixedOrders=true:=by rfl):
  Go ρ P N D0 Q As η0 m0 cf:=by
 simp only[Akt]at e;obtain⟨e1,e2,e4,e3⟩:=e;refine AP hm (.of e3) ?_;generalize aC P N cf=c0 at*;obtain⟨s,md,K⟩:=c0;unfold AaX at e1;split at e1
 ·rename_i J' K' hmd hK;simp only at hmd hK; subst hmd hK;cases e1;intro η m f w a1 a2 g;obtain⟨η',m',l,le,g'⟩:=M7 e2 e4 hd a1 g;exact nrm (bk.h _ _ ⟨x,hx,η',m',le,Mem.tr a2 l,g'⟩)
 ·cases e1
def lenK (s:AS)(t:Nat):Option D:=match get s.sl t with| .d d=>some d| .ow n=>frD s.ob n|_=>none
theorem Ajo {s:AS}{η:Env}{m:Mem}{f:Fr}{w:World}{t:Nat}{α:Type}{E:α→List D}{xs:List α}(h:lenK s t=some (.sl α E xs))(g:Gm As s η m f w):xs.length≤9223372036854775807:=by
 have r:=g.slr t;have of: ∀{m:Mem} {v:Value},FR m (.sl α E xs) v→xs.length≤9223372036854775807:=fun h=>by cases h with|sl h=>exact h.2.1
 unfold lenK at h;split at h
 ·rename_i d hd;cases h;rw[hd]at r;exact of r.dd
 ·rename_i n hn;obtain⟨q,hf,hq,hrf,hnm⟩:=NF h;have hmem:=FG hf;obtain⟨l1,l2,el⟩:=List.append_of_mem hmem;have S':St m (reps η m (q::(l1++l2))++As) w:=St.rp g.st (by rw[el]; exact Alj);obtain⟨i,o⟩:=q;cases o with
  |box=>rcases hrf with h|h<;>cases h
  |hp=>rcases hrf with h|h<;>cases h
  |row k sz α' E' xs'=>
   simp only[JH]at hq;cases hq;obtain⟨v,cs,h1,h2,h3,h4,S2⟩:=St.openRow S';obtain⟨⟨a,c,rfl⟩,_⟩:=St.rowVal (i:=0) S2 rfl;obtain⟨p,hp,_⟩:=St.take' S2 (i:=0) rfl;rcases hp with ⟨_,_,h0,_⟩|⟨b,cap,l,e,fr,_,_,_,_,_,h6,h7,_⟩
   ·omega
   ·have:maxLen≤9223372036854775807:=by decide
    omega
  |fr k d=>
   simp only[JH]at hq;cases hq;obtain⟨⟨v,h1,h2⟩,_⟩:=St.openFr S';exact of h2
 ·cases h
theorem go_len {id:Nat}(hm:P.follows .mixedOrders=true){n:Nat}{cf:Cf}{α:Type}{E:α→List D}{xs:List α}(t:Nat)
  (e:(QP (Lg id P N n cf).1,lenK (Lg id P N n cf).1.s t,((Lg id P N n cf).2).map (·.1))=(true,some (.sl α E xs),((Lg id P N n cf).2).map (·.2)))
  (h:xs.length≤9223372036854775807→Go ρ P N D0 Q As η0 m0 (Lg id P N n cf).1):Go ρ P N D0 Q As η0 m0 cf:=by
 simp only[Akt]at e;obtain⟨e1,e2,e3⟩:=e;refine SG hm (.of e3) ?_;generalize (Lg id P N n cf).1=c0 at*;obtain⟨s,md,K⟩:=c0;unfold QP at e1;split at e1
 ·rename_i c hmd;simp only at hmd; subst hmd;exact fun η m f w a1 a2 g=>h (Ajo e2 g) η m f w a1 a2 g
 ·cases e1
def QO:AV→Bool
 | .d (.v (.slice none 0 0))=>true
 |_=>false
def nilS (s:AS)(t sz:Nat)(α:Type)(E:α→List D):AS:=⟨(t,.ow s.nx)::s.sl,s.ob++[(s.nx,.row s.nx sz α E [])],s.fz,s.nx+1⟩
theorem nil_gm {s:AS}{η:Env}{m:Mem}{f:Fr}{w:World}{t sz:Nat}{α:Type}{E:α→List D}(h:QO (get s.sl t)=true)(g:Gm As s η m f w):
  ∃η',η.le η'∧Gm As (nilS s t sz α E) η' m f w:=by
 have r:=g.slr t;have hv:f t= .slice none 0 0:=by
  generalize get s.sl t=a at*;unfold QO at h;split at h
  ·have:=r.dd; generalize f t=u at this; cases this; rfl
  ·cases h
 have h0:η s.nx=none:=by
  cases q:η s.nx with
  |none=>rfl
  |some v=>have:=g.dom s.nx (by rw[q]; simp); omega
 have le:=Env.le_put (v:= .slice none 0 0) h0;refine⟨η.put s.nx (.slice none 0 0),le,fun u=> ?_,g.fz.up le (Mem.rfl' m),fun n hn=> ?_,?_,?_,fun x hx=> ?_⟩
 ·show Rel _ m (bif Nat.beq t u then .ow s.nx else get s.sl u) (f u);cases hb:Nat.beq t u
  ·exact(g.slr u).up le (Mem.rfl' m)
  ·have:=Aku hb; subst this;rw[hv]; exact .ow Env.put_self rfl
 ·rcases Env.put_dom hn with q|q
  ·exact Nat.lt_succ_of_lt (g.dom n q)
  ·subst q; exact AkO _
 ·have S:=St.rowNil (St.ru le (Mem.rfl' m) g.st) sz;have T:=St.closeRow (η:=η.put s.nx (.slice none 0 0)) (n:=s.nx) (E:=E) (xs:=[]) Env.put_self rfl (by simpa using FRL.nil) (fun _ h=>by cases h) S;show St m (reps _ m (s.ob++[_])++As) w;rw[AU,Akw];exact T.perm (List.perm_middle.symm)
 ·show(tids (s.ob++[_])).Nodup;simp only[tids,Ak3,AkZ,List.map_nil];refine List.nodup_append.2 ⟨g.wf.nd,by simp,fun a ha b hb e=> ?_⟩;simp at hb;have:=g.wf.lt a ha;omega
 ·show x<s.nx+1;have hx':x∈tids (s.ob++[(s.nx,AObj.row s.nx sz α E [])]):=hx;simp only[tids,Ak3,AkZ,List.map_nil,AkS,AlB]at hx';rcases hx' with q|q
  ·exact Nat.lt_succ_of_lt (g.wf.lt x q)
  ·omega
def P7 (cf:Cf):Bool:=match cf.md with| .ops .. =>false|_=>true
def nilC (cf:Cf)(t sz:Nat)(α:Type)(E:α→List D):Cf:=⟨nilS cf.s t sz α E,cf.md,cf.K⟩
theorem Ahq {cf:Cf}{t sz:Nat}{α:Type}{E:α→List D}(hp:P7 cf=true)(h:QO (get cf.s.sl t)=true)(g:Go ρ P N D0 Q As η0 m0 (nilC cf t sz α E)):Go ρ P N D0 Q As η0 m0 cf:=by
 obtain⟨s,md,K⟩:=cf;have key: ∀{R:Fr→World→Prop},Al As η0 m0 (nilS s t sz α E) R→Al As η0 m0 s R:=fun k η m f w a1 a2 gm=>
  let ⟨η',le,gm'⟩:=nil_gm h gm; k η' m f w (Env.le_tr a1 le) a2 gm'
 cases md with
 |ops=>cases hp
 |code c=>exact key g
 |pop=>exact key g
 |ext id=>exact key g
 |ret=>exact key g
theorem OE {cf:Cf}{α:Type}(E:α→List D)(t sz:Nat)(g:Go ρ P N D0 Q As η0 m0 (nilC (aC P N cf) t sz α E))
  (e:(P7 (aC P N cf),QO (get (aC P N cf).s.sl t),(bL P N cf))=(true,true,(bR P N cf)):=by kernel_rfl) (hm:P.follows .mixedOrders=true:=by rfl):Go ρ P N D0 Q As η0 m0 cf:=by
 simp only[Akt]at e;exact AP hm (.of e.2.2) (Ahq e.1 e.2.1 g)
theorem Sj {cf:Cf}{α:Type}(id:Nat)(E:α→List D)(t sz:Nat)(g:Go ρ P N D0 Q As η0 m0 (nilC (Lg id P N 100000 cf).1 t sz α E))
  (e:(P7 (Lg id P N 100000 cf).1,QO (get (Lg id P N 100000 cf).1.s.sl t),((Lg id P N 100000 cf).2).map (·.1))=(true,true,((Lg id P N 100000 cf).2).map (·.2)):=by kernel_rfl) (hm:P.follows .mixedOrders=true:=by rfl):Go ρ P N D0 Q As η0 m0 cf:=by
 simp only[Akt]at e;exact SG hm (.of e.2.2) (Ahq e.1 e.2.1 g)
end
def seqB:Nat→List (Nat×Operand)→Bool
 |_,[]=>true
 |k,p::l=>Nat.beq p.1 k&&seqB (k+1) l
theorem UH: ∀{l:List (Nat×Operand)} {k:Nat},seqB k l=true→l=((l.map (·.2)).zipIdx k).map fun p=>(p.2,p.1)
 | [],_,_=>rfl
 |(i,o)::l,k,h=>by
  simp only[seqB,Aks]at h;have e:i=k:=Aku h.1;subst e;simp only[AkZ,List.zipIdx_cons];rw[←UH h.2]
def W2 (fz:Fz)(sl:Sl)(sz:Nat):List (Nat×Operand)→Option (List AV)
 | []=>some []
 |p::l=>match Oj (rv fz sl p.2),W2 fz sl sz l with
  |some c,some r=>bif Nat.beq c.length sz then some (c++r)else none
  |_,_=>none
theorem SA {fz:Fz}{sl:Sl}{sz:Nat}{η:Env}{m:Mem}{f:Fr}(hr: ∀t,Rel η m (get sl t) (f t))(hz:fzOk η m fz): ∀{l:List (Nat×Operand)} {cs:List AV},W2 fz sl sz l=some cs→
  ∃cls:List (List Value),IE ((l.map (·.2)).map (ev f)) cls∧I0 sz cls=true∧BP η m cs cls.flatten
 | [],cs,h=>by cases h; exact⟨[],trivial,rfl,.nil⟩
 |p::l,cs,h=>by
  unfold W2 at h;split at h
  ·rename_i c r h1 h2;cases hb:Nat.beq c.length sz
   ·rw[hb]at h; cases h
   ·rw[hb]at h; cases h;obtain⟨cls,a1,a2,a3⟩:=SA hr hz h2;obtain⟨b1,b2⟩:=HY h1 (My hz hr p.2);refine⟨(ev f p.2).cells.toList::cls,⟨by simp,a1⟩,?_,?_⟩
    ·show(Nat.beq _ sz&&I0 sz cls)=true;rw[a2,←b1.1,hb]; rfl
    ·rw[List.flatten_cons]; exact b1.append a3
  ·cases h
def litK (P:Program)(cf:Cf):Option (List AV×Nat×Nat×Bool):=
 match Gt cf with
 |some a=>match a.g,a.o.op with
  |none,.buildSlice t n parts=>match P.underlying t with
   |some (.slice e)=>match JK P e with
    |some i=>match i.z,W2 cf.s.fz a.sl i.sz parts.toList with
     |some _,some cs=>some (cs,n,i.sz,seqB 0 parts.toList&&(Nat.beq n parts.toList.length&&(Nat.ble (n*i.sz) 16777216&&Nat.ble 1 i.sz)))
     |_,_=>none
    |none=>none
   |_=>none
  |_,_=>none
 |none=>none
def Afc (s:AS)(sz:Nat)(α:Type)(E:α→List D)(xs:List α):Stp:=⟨.ow s.nx,[],[],[(s.nx,.row s.nx sz α E xs)],s.nx+1,[]⟩
section
variable {ρ:Option Nat}{P:Program}{N:Nat}{D0:Dw}{Q:DJ}{As:List Ow}{η0:Env}{m0:Mem}
theorem Ajj {cf:Cf}{α:Type}{E:α→List D}{xs:List α}{k:Nat}(hE: ∀x,(E x).length=k)(e1:litK P cf=some ((xs.flatMap E).map dv,xs.length,k,true)):
  ∃a,Gt cf=some a∧a.g=none∧∀(rest:List Oper) (Q:DJ) (η:Env) (m:Mem) (f:Fr) (w:World) (As:List Ow),(∀t,Rel η m (get a.sl t) (f t))→fzOk η m cf.s.fz→St m As w→
   (∀(v:Value) (w':World) (cs:List Value),FRL m (xs.flatMap E) cs→St m (Gw.row k v cs xs.length::As) w'→wpl ρ P N D0 a.l.toArray rest Q (upo N f a.o.dst v) w')→wpl ρ P N D0 a.l.toArray (a.o::rest) Q f w:=by
 unfold litK at e1;split at e1
 ·rename_i a ha;split at e1
  ·rename_i t n parts hg hop;split at e1
   ·rename_i e hu;split at e1
    ·rename_i i hi;split at e1
     ·rename_i z cs hz hcs;simp only[Akv,Akt,Aks]at e1;obtain⟨ec,en,ek,b1,b2,b3,b4⟩:=e1;refine⟨a,ha,hg,?_⟩;have hgd:=BG ha hg;obtain⟨l,⟨dst,op,ty,pos,af,gd⟩,gg,sl,es⟩:=a;simp only at hop hgd hcs⊢; subst hop hgd;intro rest Q η m f w As hr hfz S hk;obtain⟨cls,a1,a2,a3⟩:=SA hr hfz hcs;have hp:=UH b1;have e0:parts=(((parts.toList.map (·.2)).zipIdx 0).map fun p=>(p.2,p.1)).toArray:=by
       rw[←hp]
      rw[e0];have hlen:((parts.toList.map (·.2)).map (ev f)).length=n:=by simp; exact(Aku b2).symm
      refine XQ (vs:=(parts.toList.map (·.2)).map (ev f)) (cls:=cls) S hu (Cc hi) (O6 hi hz) rfl a1 a2 hlen.symm (AkG b3) (AkG b4) fun v w' S'=> ?_;rw[ek,en]at S';refine hk v w' cls.flatten ?_ S';rw[ec]at a3;exact FRL.ofRelv a3
     ·cases e1
    ·cases e1
   ·cases e1
  ·cases e1
 ·cases e1
theorem Nc {sz n:Nat}{v:Value}{cs:List Value}{m:Mem}{As:List Ow}{w:World}(S:St m (Gw.row sz v cs n::As) w):v.oneCell'=true:=by
 obtain⟨⟨a,c,rfl⟩,_⟩:=St.rowVal (i:=0) S rfl;rfl
theorem Oy {s:AS}{v:AV}{o:AObj}:MM s ⟨v,[],[],[(s.nx,o)],s.nx+1,[]⟩:=
 ⟨fun x hx=>by simp at hx,by simp[tids],by simp[tids],fun t ht=>by simp[tids]at ht; subst ht; exact⟨AkC _,AkO _⟩⟩
theorem TN {k:Nat}{cf:Cf}{α:Type}(E:α→List D)(xs:List α)(hE: ∀x,(E x).length=k)(g:Go ρ P N D0 Q As η0 m0 (push N (aC P N cf) (Afc (aC P N cf).s k α E xs)))
  (e:(litK P (aC P N cf),(aL P N cf))=(some ((xs.flatMap E).map dv,xs.length,k,true),(aR P N cf)):=by kernel_rfl) (hm:P.follows .mixedOrders=true:=by rfl):Go ρ P N D0 Q As η0 m0 cf:=by
 simp only[Akt]at e;obtain⟨e1,e3⟩:=e;obtain⟨he1,-⟩:=KB e3;refine AP hm he1 ?_;generalize aC P N cf=c0 at*;obtain⟨a,ha,hg,run⟩:=Ajj (ρ:=ρ) (N:=N) (D0:=D0) hE e1;refine DC ha hg ⟨Ale _,fun rest Q η m f w As hr hz hn S hk=> ?_⟩ Oy g;refine run rest Q η m f w As hr hz S fun v w' cs hc S'=> ?_;have h0:=hn c0.s.nx (AkC _) (AkO _);have h1:=Nc S';refine hk (η.put c0.s.nx v) m w' v (Env.le_put h0) (Mem.rfl' m) (fun n q=> ?_) (.ow Env.put_self h1) (St.closeRow Env.put_self h1 hc (fun x _=>hE x) S');rcases Env.put_dom q with q|q
 ·exact .inl q
 ·subst q; exact .inr ⟨AkC _,AkO _⟩
def litG (P:Program)(cf:Cf):Option (List AV×Nat×Nat×Bool):=
 match Gt cf with
 |some a=>match a.o.op with
  | .buildSlice t n parts=>match P.underlying t with
   |some (.slice e)=>match JK P e with
    |some i=>match i.z,W2 cf.s.fz a.sl i.sz parts.toList with
     |some _,some cs=>some (cs,n,i.sz,seqB 0 parts.toList&&(Nat.beq n parts.toList.length&&(Nat.ble (n*i.sz) 16777216&&Nat.ble 1 i.sz)))
     |_,_=>none
    |none=>none
   |_=>none
  |_=>none
 |none=>none
theorem glitF {k:Nat}{cf:Cf}{α:Type}(E:α→List D)(xs:List α)(hE: ∀x,(E x).length=k)(g:Go ρ P N D0 Q As η0 m0 (CK N (aC P N cf) (.d (.sl α E xs)) []))
  (e:(litG P (aC P N cf),(aL P N cf))=(some ((xs.flatMap E).map dv,xs.length,k,true),(aR P N cf)):=by kernel_rfl) (hm:P.follows .mixedOrders=true:=by rfl):Go ρ P N D0 Q As η0 m0 cf:=by
 simp only[Akt]at e;obtain⟨e1,e3⟩:=e;obtain⟨he1,he2⟩:=KB e3;refine AP hm he1 ?_;generalize aC P N cf=c0 at*;unfold litG at e1;split at e1
 ·rename_i a ha;rw[DD ha]at he2;split at e1
  ·rename_i t n parts hop;split at e1
   ·rename_i e hu;split at e1
    ·rename_i i hi;split at e1
     ·rename_i z cs hz hcs;simp only[Akv,Akt,Aks]at e1;obtain⟨ec,en,ek,b1,b2,b3,b4⟩:=e1;refine DB (rd:=[]) ha he2 ⟨fun _ h=>(by cases h),List.nodup_nil⟩ (fun _=> ?_) g;obtain⟨l,⟨dst,op,ty,pos,af,gd⟩,gg,sl,es⟩:=a;simp only at hop hcs⊢; subst hop;refine⟨AkC _,fun rest Q η m f w As hr hfz hn S hk=> ?_⟩;obtain⟨cls,a1,a2,a3⟩:=SA hr hfz hcs;have hp:=UH b1;have e0:parts=(((parts.toList.map (·.2)).zipIdx 0).map fun p=>(p.2,p.1)).toArray:=by
       rw[←hp]
      rw[e0];have hlen:((parts.toList.map (·.2)).map (ev f)).length=n:=by simp; exact(Aku b2).symm
      have S0:St m As w:=S;refine XQ (vs:=(parts.toList.map (·.2)).map (ev f)) (cls:=cls) S0 hu (Cc hi) (O6 hi hz) rfl a1 a2 hlen.symm (AkG b3) (AkG b4) fun v w' S'=> ?_;rw[ek,en]at S';rw[ec]at a3;letI:=PQ E k;obtain⟨m1,l1,h5,S2⟩:=St.rowKeepT (i:=0) S' rfl (Y0 (FRL.ofRelv a3) fun x _=>hE x) rfl;exact hk η m1 w' v Env.le_refl l1 (fun n h=> .inl h) (.d (V3 h5)) S2
     ·cases e1
    ·cases e1
   ·cases e1
  ·cases e1
 ·cases e1
structure AppP:Type 1 where
 use:List Tok
 rd:List Tok
 fw:List Tok
 x:D
 y:D
 by_:Nat
 sz:Nat
def nilOf:D→D
 | .sl α E _=> .sl α E []
 |d=>d
def neD:D→Bool
 | .sl _ _ (_::_)=>true
 |_=>false
def Ag5 (ob:List Tok):AV→Option (D×List Tok×List Tok)
 | .d (.sl α E xs)=>some (.sl α E xs,[],[])
 | .ow n=>match find n ob with
  |some (i,.fr k d)=>bif Nat.beq k n then some (d,[(i,.fr k d)],[])else none
  |some (i,.row k sz α E xs)=>bif Nat.beq k n then some (.sl α E xs,[],[(i,.row k sz α E xs)])else none
  |_=>none
 |_=>none
def appP (P:Program)(cf:Cf):Option AppP:=
 match Gt cf with
 |some a=>match a.g,a.o.op with
  |none,.call c=>match c.callee,c.args.toList,c.argTypes.toList with
   | .builtin .append,[x,y],[t,t2]=>match P.underlying t,P.underlying t2,Ag5 cf.s.ob (aev a.sl y)with
    |some (.slice e),some (.slice _),some (dy,rd,fw)=>match JK P e with
     |some i=>match i.z with
      |some z=>bif Nat.beq z.cells.toList.length i.sz&&Nat.beq t t2 then
       match aev a.sl x with
       | .ow n=>match find n cf.s.ob with
        |some (j,.row k sz α E xs)=>bif Nat.beq k n&&Nat.beq sz i.sz then some ⟨[(j,.row k sz α E xs)],rd,fw,.sl α E xs,dy,i.by_,i.sz⟩else none
        |_=>none
       | .d (.v (.slice none 0 0))=>some ⟨[],rd,fw,nilOf dy,dy,i.by_,i.sz⟩
       | .d (.kp α E xs)=>bif neD dy then some ⟨[],rd,fw,.sl α E xs,dy,i.by_,i.sz⟩else none
       |_=>none
       else none
      |none=>none
     |none=>none
    |_,_,_=>none
   |_,_,_=>none
  |_,_=>none
 |none=>none
def appK (P:Program)(cf:Cf):Option (D×D×Nat×Nat×Bool):=match appP P cf with|some p=>some (p.x,p.y,p.by_,p.sz,Xc (tids ((p.use++p.fw)++p.rd))&&(p.rd.all (fun p=>WG p.2)&&p.fw.all (fun p=>KF p.2)))|none=>none
def appS (P:Program)(s:AS)(cf:Cf)(sz:Nat)(α:Type)(E:α→List D)(zs:List α):Stp:=match appP P cf with|some p=>⟨.ow s.nx,p.rd,p.use++p.fw,enO s.nx (.row s.nx sz α E zs::OM p.fw),s.nx+(1+(OM p.fw).length),[]⟩|none=>Afc s sz α E zs
theorem XO {ob:List Tok}{a:AV}{d:D}{rd fw:List Tok}(h:Ag5 ob a=some (d,rd,fw)){η:Env}{m:Mem}{v:Value}(r:Rel η m a v)
  (k1: ∀p∈fw,∃v,η p.2.nm=some v∧FR m (JH p.2) v) (k2: ∀p∈rd,∃v,η p.2.nm=some v∧FR m (JH p.2) v):FR m d v:=by
 unfold Ag5 at h;split at h
 ·cases h; exact r.dd
 ·rename_i n;split at h
  ·rename_i i k d' hf;cases hb:Nat.beq k n
   ·rw[hb]at h; cases h
   ·rw[hb]at h; cases h;have:=Aku hb; subst this;obtain⟨u,h1,h2⟩:=k2 _ AkN;have:=r.ow_inv.1;rw[show(AObj.fr k d).nm=k from rfl]at h1;rw[h1]at this; cases this; exact h2
  ·rename_i i k sz α E xs hf;cases hb:Nat.beq k n
   ·rw[hb]at h; cases h
   ·rw[hb]at h; cases h;have:=Aku hb; subst this;obtain⟨u,h1,h2⟩:=k1 _ AkN;have:=r.ow_inv.1;rw[show(AObj.row k sz α E xs).nm=k from rfl]at h1;rw[h1]at this; cases this; exact h2
  ·cases h
 ·cases h
theorem UB {ob:List Tok}{a:AV}{d:D}{rd fw:List Tok}(h:Ag5 ob a=some (d,rd,fw)): ∀p∈fw++rd,p∈ob:=by
 unfold Ag5 at h;split at h
 ·cases h; intro p hp; simp at hp
 ·split at h
  ·rename_i i k d' hf;cases hb:Nat.beq k _
   ·rw[hb]at h; cases h
   ·rw[hb]at h; cases h;intro p hp; simp at hp; subst hp; exact FG hf
  ·rename_i i k sz α E xs hf;cases hb:Nat.beq k _
   ·rw[hb]at h; cases h
   ·rw[hb]at h; cases h;intro p hp; simp at hp; subst hp; exact FG hf
  ·cases h
 ·cases h
theorem Afb {P:Program}{m:Mem}{As:List Ow}{w:World}{sz n k c bytes:Nat}{a0:Option Addr}{z src:Value}{cs ds:List Value}{t ty e:TypeId}{ti:TypeInfo}
  (ht:P.underlying t=some (.slice e)) (hi:P.info? e=some ti) (hz:ti.zero=some z) (hsz:ti.size=sz) (hby:ti.bytes=bytes) (hzs:z.cells.size=sz)
  (hlen: ∀w,(Builtin.lenOf src).run P w= .ok k w) (hf: ∀j,(Builtin.firstCells sz k src).run P {w with drawn:=j}= .ok ds.toArray {w with drawn:=j}) (hds:ds.length=k*sz)
  (hb:(n+k)*bytes≤140737488355328) (h63:n+k≤140737488355328) (hS:St m As w) (hv:SlC m sz (.slice a0 n c) cs n) (hcap:c<n+k):
  ∃v' w',(Builtin.append_ #[t,t] ty #[.slice a0 n c,src]).run P w= .ok v' w'∧St m (Gw.row sz v' (cs++ds) (n+k)::As) w'∧Kd w w':=by
 subst hsz hby;have hcl:cs.length=n*ti.size:=hv.1;have hf1:(Builtin.firstCells ti.size k src).run P w.drew= .ok ds.toArray w.drew:=hf _;have hfo:(Builtin.firstCells ti.size n (.slice a0 n c)).run P w.drew= .ok cs.toArray w.drew:=Ht hS hv _;have hun: ∀w,(underlying t).run P w= .ok (.slice e) w:=fun w=>AkD ht w;have hfit:=growslice_fits hcap hb;have hn: ¬(n+k≤c):=by omega
 have h63': ¬(9223372036854775807<((n:Int)+(k:Int))):=by omega
 have h48': ¬(281474976710656<Builtin.nextslicecap (n+k) c*ti.bytes):=by omega
 have hge:=grownCap_ge w (n+k) c e;have hcm:grownCap w (n+k) c e≤maxLen:=grownCap_le_maxLen w (n+k) c e (by simp only[maxLen]; omega);refine⟨.slice (some ⟨w.heap.size,0,none⟩) (n+k) (grownCap w (n+k) c e),w.drew.alloc (.cells (cs.toArray++ds.toArray++Builtin.zeroCells z.cells (grownCap w (n+k) c e-(n+k))) e),?_,?_,?_⟩
 ·simp[Builtin.append_,hun,sizeOf,typeInfo,zeroValue,hi,hz,hlen,hn,h63',h48',Question.forced,hfo,hf1,newRow,grownCap]
  all_goals (congr 2; apply Array.ext'; simp)
 ·have S1:=(hS.drew (w.drawn+1)).push (.cells (cs.toArray++ds.toArray++Builtin.zeroCells z.cells (grownCap w (n+k) c e-(n+k))) e) CI;refine St.to S1 fun h hh=> .inr ⟨w.heap.size,_,_,e,(0,0),rfl,hh,?_,?_,?_,hge,hcm,.inl rfl,.inl rfl⟩
  ·rw[Akz,hcl,hds,Nat.add_mul]
  ·have e1:(n+k)*ti.size=(cs++ds).length:=by rw[Akz,hcl,hds,Nat.add_mul]
   have e2:(cs.toArray++ds.toArray++Builtin.zeroCells z.cells (grownCap w (n+k) c e-(n+k))).toList=(cs++ds)++(Builtin.zeroCells z.cells (grownCap w (n+k) c e-(n+k))).toList:=by simp
   rw[e1,e2]; exact List.take_left
  ·simp only[Array.size_append,List.size_toArray,size_zeroCells,hzs,hcl,hds,←Nat.add_mul];congr 1; omega
 ·exact⟨(Kd.push w.drew _).size,(Kd.push w.drew _).same⟩
def AppAt (P:Program)(m:Mem){α:Type}(E:α→List D)(k:Nat)(v:Value)(xs ys:List α)(As:List Ow)(w:World):Prop:=(∃cs,FRL m (xs.flatMap E) cs∧St m (Gw.row k v cs xs.length::As) w)∨(FR m (.kp α E xs) v∧0<ys.length∧St m As w)
theorem s_appA {ρ:Option Nat}{P:Program}{N:Nat}{D0:Dw}{ops:Array Oper}{rest:List Oper}{Q:DJ}{f:Fr}{w:World}{dst:Option Nat}{ty t:TypeId}{pos:String}{af:Array Edge}{x y:Operand}{m:Mem}{As:List Ow}
  {α:Type} {E:α→List D} {k bytes:Nat} {xs ys zs:List α} {v u z:Value} {e:TypeId} {ti:TypeInfo} (hE: ∀x,(E x).length=k) (hA:AppAt P m E k v xs ys As w) (hx:ev f x=v) (hy:ev f y=u) (hv: @SlR α (PQ E k) m u ys) (hq:app bytes xs ys=some zs)
  (ht:P.underlying t=some (.slice e)) (hi:P.info? e=some ti) (hz:ti.zero=some z) (hsz:ti.size=k) (hby:ti.bytes=bytes) (hzs:z.cells.size=k)
  (h: ∀v' cs' w',St m (Gw.row k v' cs' zs.length::As) w'→ @DU α (PQ E k) m cs' zs→wpl ρ P N D0 ops rest Q (upo N f dst v') w'):
  wpl ρ P N D0 ops (⟨dst,.call {callee:= .builtin .append,args:= #[x,y],argTypes:= #[t,t]},ty,pos,af,none⟩::rest) Q f w:=by
 letI:=PQ E k;rcases hA with ⟨cs,hc,S⟩|⟨hk,h0,S⟩
 ·exact s_app (α:=α) (i:=0) (ti:=ti) (z:=z) S hx rfl (Y0 hc fun x _=>hE x) rfl hy hv hq ht hi hz hsz hby hzs fun v' cs' w' S8 hr=>h v' cs' w' S8 hr
 ·cases hk with
  |kp hsl hc0=>
   obtain⟨cs,h1,h2⟩: ∃cs,SlC m k v cs xs.length∧DU m cs xs:=Wl hsl hE;obtain⟨a0,c0,rfl⟩:=h1.val;have hc1:=hc0 _ _ _ rfl;obtain⟨⟨hb,h63⟩,hq⟩:=BY hq;cases hq;obtain⟨ds,hc,hr2⟩:=hv;obtain⟨a,c,rfl⟩:=hc.val;obtain⟨v',w',hrun,hS',kd⟩:=Afb (P:=P) (ty:=ty) ht hi hz hsz hby hzs (src:= .slice a ys.length c) (fun w=>Wg w) (fun j=>Ht S hc j) hc.1 hb h63 S h1 (by omega);refine Aq (v:=v') (w':=w') rfl (fun _ e=>by cases e) ?_ (h v' _ w' (by simpa using hS') (h2.append hr2)) kd;simp[execOp,resolve,invoke,builtin,hx,hy,hrun]
theorem gapp {k b:Nat}{cf:Cf}{α:Type}{E:α→List D}{xs ys zs:List α}(hE: ∀x,(E x).length=k)(hq:app b xs ys=some zs)(g:Go ρ P N D0 Q As η0 m0 (push N (aC P N cf) (appS P (aC P N cf).s (aC P N cf) k α E zs)))
  (e:(appK P (aC P N cf),(aL P N cf))=(some (.sl α E xs,.sl α E ys,b,k,true),(aR P N cf)):=by kernel_rfl) (hm:P.follows .mixedOrders=true:=by rfl):Go ρ P N D0 Q As η0 m0 cf:=by
 simp only[Akt]at e;obtain⟨e1,e3⟩:=e;obtain⟨he1,-⟩:=KB e3;refine AP hm he1 ?_;generalize aC P N cf=c0 at*;cases hp:appP P c0 with
 |none=>unfold appK at e1; rw[hp]at e1; cases e1
 |some p=>
  unfold appK at e1;rw[hp]at e1;simp only[Akv,Akt,Aks]at e1;obtain⟨ex,ey,eb,ek,o1,o2,o3⟩:=e1;have gS:appS P c0.s c0 k α E zs=⟨.ow c0.s.nx,p.rd,p.use++p.fw,enO c0.s.nx (.row c0.s.nx k α E zs::OM p.fw),c0.s.nx+(1+(OM p.fw).length),[]⟩:=by unfold appS; rw[hp]
  rw[gS]at g;have hp0:=hp;unfold appP at hp;split at hp
  ·rename_i a ha;split at hp
   ·rename_i c hg hop;split at hp
    ·rename_i x y t t2 hce hargs hats;split at hp
     ·rename_i e' e2 dy rd fw hu hu2 hsrc;split at hp
      ·rename_i i hi;split at hp
       ·rename_i z hz;cases hb:Nat.beq z.cells.toList.length i.sz&&Nat.beq t t2
        ·rw[hb]at hp; cases hp
        ·rw[hb]at hp;simp only[cond_true]at hp;simp only[Aks]at hb;have hzs:z.cells.size=i.sz:=by rw[←Array.length_toList]; exact Aku hb.1
         have htt:=Aku hb.2;subst htt;have hgd:=BG ha hg;have ssub:=UB hsrc;have key: ∃src:List Tok,p.use=src∧p.rd=rd∧p.fw=fw∧p.y=dy∧p.by_=i.by_∧p.sz=i.sz∧(∀q∈src,q∈c0.s.ob)∧
           ∀(η:Env) (m:Mem) (f:Fr) (w:World) (As:List Ow),(∀t,Rel η m (get a.sl t) (f t))→St m (reps η m src++As) w→AppAt P m E k (ev f x) xs ys As w:=by
          split at hp
          ·rename_i nn hx;split at hp
           ·rename_i j kk sz α' E' xs' hf;cases hb2:Nat.beq kk nn&&Nat.beq sz i.sz
            ·rw[hb2]at hp; cases hp
            ·rw[hb2]at hp; cases hp;simp only[Aks]at hb2;have:=Aku hb2.1; subst this;have hsz:=Aku hb2.2;refine⟨_,rfl,rfl,rfl,rfl,rfl,rfl,fun q hq=>by simp at hq; subst hq; exact FG hf,fun η m f w As hr S=> ?_⟩;simp only at ex ek;cases ex;obtain⟨v,cs,h1,h2,h3,h4,S1⟩:=St.openRow S;have rx:=Am hr x; rw[hx]at rx;have:=rx.ow_inv.1;rw[h1]at this; cases this;rw[hsz,ek]at S1;exact .inl ⟨cs,h3,S1⟩
           ·cases hp
          ·rename_i hx;cases hp;refine⟨_,rfl,rfl,rfl,rfl,rfl,rfl,fun q hq=>by simp at hq,fun η m f w As hr S=> ?_⟩;have rx:=Am hr x; rw[hx]at rx;have hv:ev f x= .slice none 0 0:=by
            have:=rx.dd;generalize ev f x=u at this;cases this; rfl
           have hxs:xs=[]:=by
            simp only at ex ey;rw[ey]at ex;simp only[nilOf]at ex;cases ex; rfl
           subst hxs;rw[hv];exact .inl ⟨[],by simpa using FRL.nil,St.rowNil S k⟩
          ·rename_i α' E' xs' hx;cases hb3:neD dy
           ·rw[hb3]at hp; cases hp
           ·rw[hb3]at hp; cases hp;refine⟨_,rfl,rfl,rfl,rfl,rfl,rfl,fun q hq=>by simp at hq,fun η m f w As hr S=> ?_⟩;simp only at ex ey;cases ex;have rx:=Am hr x; rw[hx]at rx;refine .inr ⟨rx.dd,?_,S⟩;subst ey;cases ys with
            |nil=>cases hb3
            |cons y ys=>simp
          ·cases hp
         obtain⟨src,p1,p2,p3,p4,p5,p6,sub,run⟩:=key;rw[p4]at ey;rw[p5]at eb;rw[p6]at ek;rw[p1,p2,p3]at g o1;rw[p2]at o2;rw[p3]at o3;subst ey eb;refine DC ha hg ?_ ?_ g
         ·obtain⟨l,⟨dst,op,ty,pos,af,gd⟩,gg,sl,es⟩:=a;obtain⟨ce,cx,ct⟩:=c;obtain⟨cx⟩:=cx;obtain⟨ct⟩:=ct;simp only at hop hgd hce hargs hats hsrc run⊢; subst hop hgd hce hargs hats;refine⟨Nat.le_add_right _ _,fun rest Q η m f w As hr hfz hn S hk=> ?_⟩;simp only at S hk hn;rw[AU,AU,Akw,Akw]at S;have S1:=S.perm (AkE (reps η m src) (reps η m fw) _);obtain⟨m1,l1,K1,S2⟩:=Lc o3 S1;have S3:=St.ru Env.le_refl l1 S2;have S4:=S3.perm (AkE (reps η m1 src) (reps η m rd) _);have S5:=St.ru Env.le_refl l1 S4;obtain⟨K2,S6⟩:=ND o2 S5;have hr1: ∀t,Rel η m1 (get sl t) (f t):=fun t=>(hr t).up Env.le_refl l1;have hy:=XO hsrc (Am hr1 y) K1 K2;have R7:=run η m1 f w As hr1 S6;letI:=PQ E k;have tb:=G5 hi;refine s_appA (α:=α) (ti:=i.inf) (z:=z) hE R7 rfl rfl (Wl hy hE) hq hu (V4 hi) (by rw[←tb.2.2.2.2.1]; exact hz) (by rw[←tb.2.2.2.1]; exact ek) (by rw[←tb.2.2.2.2.2]) (by rw[hzs]; exact ek) fun v' cs' w' S8 hrep=> ?_;have hrep':=XW hrep;have h0:=hn c0.s.nx (AkC _) (by omega);have S9:St m1 (Gw.row k v' cs' zs.length::As) w':=S8;have h1:=Nc S9;have le2:=Env.le_put (v:=v') h0;refine hk (η.put c0.s.nx v') m1 w' v' le2 l1 (fun q hq=> ?_) (.ow Env.put_self h1) ?_
          ·rcases Env.put_dom hq with q1|q1
           ·exact .inl q1
           ·subst q1; exact .inr ⟨AkC _,by omega⟩
          ·rw[AU,Akw,GV];show St m1 (rep _ m1 (.row c0.s.nx k α E zs)::((OM fw).map (rep _ m1)++(reps _ m1 rd++As))) w';have F1: ∀q∈fw,∃v,(η.put c0.s.nx v') q.2.nm=some v∧FR m1 (JH q.2) v:=fun q hq=>let ⟨v,a,b⟩:=K1 q hq; ⟨v,le2 _ _ a,b⟩;have F2: ∀q∈rd,∃v,(η.put c0.s.nx v') q.2.nm=some v∧FR m1 (JH q.2) v:=fun q hq=>let ⟨v,a,b⟩:=K2 q hq; ⟨v,le2 _ _ a,b⟩;have T1:=St.closeRow (η:=η.put c0.s.nx v') (n:=c0.s.nx) Env.put_self h1 hrep'.1 hrep'.2 S9;have T2:=K4 F1 (Mq o2 F2 T1);exact T2.perm ((AkU _ Alj).trans Alj)
         ·refine⟨fun q hq=> ?_,E1 o1,?_,fun t ht=> ?_⟩
          ·simp only at hq;rcases AkS.1 hq with h|h
           ·rcases AkS.1 h with h|h
            ·exact sub q h
            ·exact ssub q (List.mem_append_left _ h)
           ·exact ssub q (List.mem_append_right _ h)
          ·simp only; rw[Ef]; exact List.nodup_range'
          ·simp only at ht⊢;rw[Ef,List.mem_range']at ht;obtain⟨i2,hi2,rfl⟩:=ht;simp only[AkB]at hi2;omega
       ·cases hp
      ·cases hp
     ·cases hp
    ·cases hp
   ·cases hp
  ·cases hp
end
def Za (n:Nat)(er:AV):List AV:=bif Nat.beq n 1 then [er]else tupE er
def Agt (P:Program)(fn:Func)(cf:Cf)(er:AV)(eobs:List AObj):Option Aa2:=bif Aeh cf then match Aau P cf.s fn.results.toList with|some vs=>Q3 cf.s.ob 0 vs (Za fn.results.toList.length er) eobs|none=>none else none
def isTup:AV→Bool
 | .tup _=>true
 |_=>false
def okEnd (p:Aa2)(len:Nat)(er:AV)(eobs:List AObj)(n0 n1:Nat):Bool:=(Za len er).all (okA n1)&&(eobs.all (okO n1)&&(Xc (tids ((p.ut++p.fw)++p.fr))&&(fixB p.mt n0&&(Nat.ble n0 n1&&(p.fr.all (fun p=>WG p.2)&&(p.fw.all (fun p=>KF p.2)&&(Nat.beq len 1||isTup er)))))))
def endL (P:Program)(fn:Func)(cf:Cf)(er:AV)(eobs:List AObj)(n0 n1:Nat):Option (List AV×List AObj×Bool):=match Agt P fn cf er eobs with|some p=>some (p.as,p.objs,okEnd p fn.results.toList.length er eobs n0 n1)|none=>none
def endR (P:Program)(fn:Func)(cf:Cf)(er:AV)(eobs:List AObj):Option (List AV×List AObj×Bool):=match Agt P fn cf er eobs with|some p=>some ((Za fn.results.toList.length er).map (Rh fun j=>Ii p.mt j j),eobs.map (PO fun j=>Ii p.mt j j),true)|none=>none
section
variable {P:Program}{N:Nat}{As:List Ow}{η0:Env}{m0:Mem}
theorem Wh {s:AS}: ∀{rs:List ResultVar} {vs:List AV},Aau P s rs=some vs→vs.length=rs.length
 | [],vs,h=>by cases h; rfl
 |r::rs,vs,h=>by
  unfold Aau at h;split at h
  ·rename_i a b h1 h2; cases h; simp[Wh h2]
  ·cases h
theorem AhH (hm:P.follows .mixedOrders=true){ρ:Option Nat}{D0:Dw}{fn:Func}{n n0 n1:Nat}{cf:Cf}{er:AV}{eobs:List AObj}{Po:AV→List AObj→Nat→Prop}(hd: ∀n,η0 n≠none→n<n0)
  (e:(endL P fn (adv P N n cf).1 er eobs n0 n1,(Agt P fn (adv P N n cf).1 er eobs).isSome,((adv P N n cf).2).map (·.1))=(endR P fn (adv P N n cf).1 er eobs,true,((adv P N n cf).2).map (·.2))) (hp:Po er eobs n1):
  Go ρ P N D0 (Q4 P N fn (Ix As η0 m0 Po)) As η0 m0 cf:=by
 simp only[Akt]at e;obtain⟨e1,e2,e3⟩:=e;refine MD hm (.of e3) ?_;generalize (adv P N n cf).1=c0 at*;obtain⟨s,md,K⟩:=c0;cases hpl:Agt P fn ⟨s,md,K⟩ er eobs with
 |none=>rw[hpl]at e2; cases e2
 |some p=>
  unfold endL endR at e1;rw[hpl]at e1;simp only[Akv,Akt]at e1;obtain⟨ea,eo,ef⟩:=e1;simp only[okEnd,Aks]at ef;obtain⟨o1,o2,o3,o4,o5,o6,o7,o8⟩:=ef;unfold Agt at hpl;cases hb:Aeh ⟨s,md,K⟩
  ·rw[hb]at hpl; cases hpl
  ·rw[hb]at hpl;simp only[cond_true]at hpl;split at hpl
   ·rename_i vs hvs;have main: ∀η m f w,η0.le η→m0≤m→Gm As s η m f w→∀w',Pd w w'→outE P N fn (Ix As η0 m0 Po) f w':=by
     intro η m f w a1 a2 g w' hpd;have S0:=St.pd g.st hpd;obtain⟨us,r1,r2⟩:=Ahf g.slr S0 hvs;have S:=St.rp S0 (HW g.wf.nd (E1 o3) (Pc hpl));rw[AU,Akw]at S;obtain⟨m1,l1,r3,S1⟩:=R3 hpl o6 o7 r2 S;rw[ea]at r3;rw[eo]at S1;let φ:Nat→Nat:=fun j=>Ii p.mt j j;let η1:Env:=fun j=>if j<n1 then η (φ j)else none;have hη1: ∀j,j<n1→η (φ j)=η1 j:=fun j hj=>(AkA hj).symm;have S2:=S1.perm (show(eobs.map (PO φ)).map (rep η m1)++(reps η m (DY (tids (p.ut++p.fw++p.fr)) s.ob)++As)|>.Perm (reps η m (DY (tids (p.ut++p.fw++p.fr)) s.ob)++((eobs.map (PO φ)).map (rep η m1)++As))from AkE _ _ _);obtain⟨m2,l2,S3⟩:=St.dropN (reps η m (DY (tids (p.ut++p.fw++p.fr)) s.ob)).length S2;rw[List.drop_left]at S3;have S4:St m2 (eobs.map (rep η1 m2)++As) w':=by
      have S3':=St.mapUp (obs:=eobs.map (PO φ)) Env.le_refl l2 S3;refine S3'.imp (by simp) fun i A B ha hb x hx=> ?_;rw[List.getElem?_append]at ha hb;simp only[AkW]at ha hb;split at ha
      ·rename_i q;rw[AkA q]at hb;simp only[AkP,Akx]at ha hb;obtain⟨o',⟨o,ho,rfl⟩,rfl⟩:=ha;obtain⟨o2',ho',rfl⟩:=hb;rw[ho]at ho'; cases ho';exact LZ hη1 (AkI.1 o2 o (AkQ ho)) hx
      ·rename_i q;rw[Aky q]at hb;rw[ha]at hb; cases hb; exact hx
     have r4:=Nh hη1 o1 (r3.up Env.le_refl l2);have hlen:=Wh hvs;have hus:us.length=fn.results.toList.length:=by rw[←r2.1,hlen]
     have hR:Rel η1 m2 er (tup us):=by
      unfold Za at r4;cases hl:Nat.beq fn.results.toList.length 1
      ·rw[hl]at r4;simp only[cond_false]at r4;rw[hl]at o8;simp only[Alx]at o8;have hne:us.length≠1:=by intro q; rw[hus]at q; rw[q]at hl; cases hl
       have:tup us= .tuple us.toArray:=by
        unfold tup;split
        ·simp at hne
        ·rfl
       rw[this];cases er with
       |tup l=>exact .tup r4.1 r4.2
       |_=>cases o8
      ·rw[hl]at r4;simp only[cond_true]at r4;obtain⟨v,us',e5,h1,h2⟩:=r4.cons_inv;have:=h2.nil_inv; subst this;subst e5;exact h1
     refine outR us (by rw[Array.toArray_toList]) r1 ⟨m2,η1,er,eobs,n1,Mem.tr a2 (Mem.tr l1 l2),fun k v hv=> ?_,hp,fun k hk=> ?_,hR,S4⟩
     ·have hlt:=hd k (by rw[hv]; simp);show(if _ then _ else _)=_;rw[AkA (Alw hlt (AkG o5))];show η (Ii p.mt k k)=some v;rw[Yj o4 k hlt]; exact a1 _ _ hv
     ·have:(if k<n1 then η (φ k)else none)≠none:=hk;split at this
      ·assumption
      ·exact absurd rfl this
    unfold Aeh at hb;split at hb
    ·rename_i hmd hK;simp only at hmd hK; subst hmd hK;exact fun η m f w a1 a2 g=>Ai4 (main η m f w a1 a2 g)
    ·rename_i hmd hK;simp only at hmd hK; subst hmd hK;exact fun η m f w a1 a2 g=>outNw (main η m f w a1 a2 g)
    ·cases hb
   ·cases hpl
end
section
variable {ρ:Option Nat}{P:Program}{N:Nat}{D0:Dw}{Q:DJ}{As:List Ow}{η0:Env}{m0:Mem}
theorem tup2 {η:Env}{m:Mem}(p q:UInt64):Rel η m (.tup [.d (.u p),.d (.u q)]) (.tuple #[vU p,vU q]):=
 have h:BP η m [.d (.u p),.d (.u q)] [vU p,vU q]:=BP.cons (.d (.u p)) (BP.cons (.d (.u q)) BP.nil)
 .tup h.1 h.2
theorem Ob {s:AS}:(∀p∈([]:List Tok),p∈s.ob)∧(tids []).Nodup:=⟨fun _ h=>(by cases h),List.nodup_nil⟩
def WC (P:Program)(t:TypeId):Bool:=match P.underlying t with|some .string=>true|_=>false
theorem Ml {t:TypeId}(h:WC P t=true):P.underlying t=some .string:=by
 unfold WC at h;split at h
 ·assumption
 ·cases h
def idxSK (P:Program)(cf:Cf):Option (AV×Int×Bool):=
 match Gt cf with
 |some a=>match a.o.op with
  | .index t x y=>match OK a.sl y with
   |some (_,j)=>some (aev a.sl x,j,WC P t)
   |none=>none
  |_=>none
 |none=>none
theorem AjK {cf:Cf}{s:ByteArray}{j:Int}{b:UInt8}(hq:gOf (aC P N cf)=true→idx s.data.toList j=some b)(g:Go ρ P N D0 Q As η0 m0 (CK N (aC P N cf) (.d (.b b)) []))
  (e:(idxSK P (aC P N cf),(aL P N cf))=(some (.d (.s s),j,true),(aR P N cf)):=by kernel_rfl) (hm:P.follows .mixedOrders=true:=by rfl):Go ρ P N D0 Q As η0 m0 cf:=by
 simp only[Akt]at e;obtain⟨e1,e3⟩:=e;obtain⟨he1,he2⟩:=KB e3;refine AP hm he1 ?_;generalize aC P N cf=c0 at*;unfold idxSK at e1;split at e1
 ·rename_i a ha;rw[DD ha]at he2;split at e1
  ·rename_i t x y hop;split at e1
   ·rename_i kk jj hj;simp only[Akv,Akt]at e1;obtain⟨ed,rfl,hs⟩:=e1;refine DB (rd:=[]) ha he2 Ob (fun hp=> ?_) g;have q:=hq (MC ha hp);obtain⟨l,⟨dst,op',ty,pos,af,gd⟩,gg,sl,es⟩:=a;simp only at hop ed hj⊢; subst hop;refine⟨AkC _,fun rest Q η m f w As hr hz hn S hk=> ?_⟩;have rx:=Am hr x;rw[ed]at rx;have hx:ev f x=vS s:=by
     have:=rx.dd;generalize ev f x=u at this;cases this; rfl
    exact Ae7 hx (B6 hj hr) (Ml hs) q (hk η m w _ Env.le_refl (Mem.rfl' m) (fun n h=> .inl h) (.d (.b b)) S)
   ·cases e1
  ·cases e1
 ·cases e1
def Ah6 (cf:Cf):Option (FuncId×AV×AV×Bool):=
 match Gt cf with
 |some a=>match a.o.op with
  | .call c=>match c.callee,c.args.toList with
   | .value (.func k),[x,y,z]=>some (k,aev a.sl x,aev a.sl y,match OK a.sl z with|some (.u64,j)=>j==0|_=>false)
   |_,_=>none
  |_=>none
 |none=>none
theorem AhK {cf:Cf}{k:FuncId}{fn:Func}{p q:UInt64}(hf:P.funcs[k]? =some fn)(g:Go ρ P N D0 Q As η0 m0 (CK N (aC P N cf) (.tup [.d (.u (p+q)),.d (.u (Ky p q))]) []))
  (hname:(fn.name== "runtime.NumGoroutine")=false:=by kernel_rfl) (hb:fn.body.isNone=true:=by kernel_rfl) (hx:Extern.findNext fn=none:=by kernel_rfl) (he:Extern.find fn=some add64Entry:=by kernel_rfl) (e:(Ah6 (aC P N cf),(aL P N cf))=(some (k,.d (.u p),.d (.u q),true),(aR P N cf)):=by kernel_rfl) (hm:P.follows .mixedOrders=true:=by rfl):Go ρ P N D0 Q As η0 m0 cf:=by
 simp only[Akt]at e;obtain⟨e1,e3⟩:=e;obtain⟨he1,he2⟩:=KB e3;refine AP hm he1 ?_;generalize aC P N cf=c0 at*;unfold Ah6 at e1;split at e1
 ·rename_i a ha;rw[DD ha]at he2;split at e1
  ·rename_i c hop;split at e1
   ·rename_i k' x y z hc hargs;simp only[Akv,Akt]at e1;obtain⟨rfl,ex,ey,ez⟩:=e1;refine DB (rd:=[]) ha he2 Ob (fun hp=> ?_) g;obtain⟨l,⟨dst,op',ty,pos,af,gd⟩,gg,sl,es⟩:=a;obtain⟨cc,cas,cts⟩:=c;simp only at hop ex ey ez hc hargs⊢; subst hop hc;have ha':cas= #[x,y,z]:=by apply Array.toList_inj.mp; rw[hargs]
    subst ha';refine⟨AkC _,fun rest Q η m f w As hr hz hn S hk=> ?_⟩;have rx:=Am hr x;have ry:=Am hr y;rw[ex]at rx;rw[ey]at ry;have h0:ev f z= .int .u64 0:=by
     split at ez
     ·rename_i j hj;have:=B6 hj hr;rw[this];simp only[Alu]at ez;rw[ez]
     ·cases ez
    exact AiJ hf hname hb hx he rx.u_inv ry.u_inv h0 (hk η m w _ Env.le_refl (Mem.rfl' m) (fun n h=> .inl h) (tup2 _ _) S)
   ·cases e1
  ·cases e1
 ·cases e1
abbrev byE:UInt8→List D:=fun x=> [.b x]
theorem Akf: ∀{m:Mem} {xs:List UInt8} {cs:List Value}, @DU UInt8 (PQ byE 1) m cs xs→DU m cs xs
 |_,[],_,h=>h
 |m,x::xs,cs,h=>by
  obtain⟨c,d,h1,h2,h3⟩:=h;refine⟨c,d,h1,?_,Akf h3⟩;obtain⟨v,us,e1,e2,e3⟩:=FRL.cons_inv h2.1;have:=FRL.nil_inv e3;subst this;show c=[vB x];rw[e1];generalize v=u at*;cases e2; rfl
theorem bySl {m:Mem}{v:Value}{xs:List UInt8}(h:FR m (.sl UInt8 byE xs) v):SlR m v xs:=by
 obtain⟨cs,h1,h2⟩:=Wl (sz:=1) h (fun _=>rfl);exact⟨cs,h1,Akf h2⟩
theorem Akg: ∀{m:Mem} {xs:List UInt8} {cs:List Value},DU m cs xs→FRL m (xs.flatMap byE) cs
 |m,[],cs,h=>by
  have:cs=[]:=h;subst this; exact .nil
 |m,x::xs,cs,h=>by
  obtain⟨c,d,h1,h2,h3⟩:=h;have:c=[vB x]:=h2;subst this h1;exact .cons (.b x) (Akg h3)
def bsK (P:Program)(cf:Cf):Option (D×Bool×List Tok):=
 match Gt cf with
 |some a=>match a.o.op with
  | .convert t t2 x=>match AiL cf.s.ob (aev a.sl x)with
   |some (d,ts)=>some (d,Yc P t&&WC P t2,ts)
   |none=>none
  |_=>none
 |none=>none
def bsT (P:Program)(cf:Cf):List Tok:=match bsK P cf with|some (_,_,ts)=>ts|none=> []
theorem gbs {cf:Cf}{xs:List UInt8}(g:Go ρ P N D0 Q As η0 m0 (CK N (aC P N cf) (.d (.s (bs xs))) (bsT P (aC P N cf))))
  (e:((bsK P (aC P N cf)).map (fun r=>(r.1,r.2.1)),(aL P N cf))=(some (.sl UInt8 byE xs,true),(aR P N cf)):=by kernel_rfl) (hm:P.follows .mixedOrders=true:=by rfl):Go ρ P N D0 Q As η0 m0 cf:=by
 simp only[Akt]at e;obtain⟨e1,e3⟩:=e;obtain⟨he1,he2⟩:=KB e3;refine AP hm he1 ?_;generalize aC P N cf=c0 at*;cases hk:bsK P c0 with
 |none=>rw[hk]at e1; cases e1
 |some r=>
  have hT:bsT P c0=r.2.2:=by unfold bsT; rw[hk]
  rw[hT]at g;rw[hk]at e1;simp only[AkL,Akv,Akt]at e1;obtain⟨e1,e2⟩:=e1;unfold bsK at hk;split at hk
  ·rename_i a ha;rw[DD ha]at he2;split at hk
   ·rename_i t t2 x' hop;split at hk
    ·rename_i d ts h1;cases hk;simp only[Aks]at e1 e2 g;subst e1;refine DB ha he2 (UO h1) (fun hp=> ?_) g;obtain⟨l,⟨dst,op,ty,pos,af,gd⟩,gg,sl,es⟩:=a;simp only at hop⊢; subst hop;refine⟨AkC _,fun rest Q η m f w As hr hz hn S hk=> ?_⟩;have S':St m (reps η m ts++As) w:=S;have hf:=bySl (XV h1 S' (Am hr x'));obtain⟨e,u1,u2⟩:=Vb e2.1;exact Ae8 (t2':=t2) S rfl hf u1 u2 (Ml e2.2) (hk η m w _ Env.le_refl (Mem.rfl' m) (fun n h=> .inl h) (.d (.s _)) S)
    ·cases hk
   ·cases hk
  ·cases hk
def ofSK (P:Program)(cf:Cf):Option (AV×Bool):=
 match Gt cf with
 |some a=>match a.g,a.o.op with
  |none,.convert t t2 x=>some (aev a.sl x,WC P t&&Yc P t2)
  |_,_=>none
 |none=>none
theorem gofS {cf:Cf}{s:ByteArray}{zs:List UInt8}(hq:app 1 ([]:List UInt8) s.data.toList=some zs)(g:Go ρ P N D0 Q As η0 m0 (push N (aC P N cf) (Afc (aC P N cf).s 1 UInt8 byE zs)))
  (e:(ofSK P (aC P N cf),(aL P N cf))=(some (.d (.s s),true),(aR P N cf)):=by kernel_rfl) (hm:P.follows .mixedOrders=true:=by rfl):Go ρ P N D0 Q As η0 m0 cf:=by
 simp only[Akt]at e;obtain⟨e1,e3⟩:=e;obtain⟨he1,-⟩:=KB e3;refine AP hm he1 ?_;generalize aC P N cf=c0 at*;unfold ofSK at e1;split at e1
 ·rename_i a ha;split at e1
  ·rename_i t t2 x hg hop;simp only[Akv,Akt,Aks]at e1;obtain⟨ex,e4,e5⟩:=e1;have hgd:=BG ha hg;refine DC ha hg ?_ Oy g;obtain⟨l,⟨dst,op,ty,pos,af,gd⟩,gg,sl,es⟩:=a;simp only at hop hgd ex⊢; subst hop hgd;refine⟨Ale _,fun rest Q η m f w As hr hz hn S hk=> ?_⟩;have rx:=Am hr x;rw[ex]at rx;have hx:ev f x=vS s:=by
    have:=rx.dd;generalize ev f x=u at this;cases this; rfl
   obtain⟨e,u1,u2⟩:=Vb e5;refine s_ofS S hx hq (Ml e4) u1 u2 fun v' cs' w' S' hrep=> ?_;have h0:=hn c0.s.nx (AkC _) (AkO _);have h1:=Nc S';refine hk (η.put c0.s.nx v') m w' v' (Env.le_put h0) (Mem.rfl' m) (fun n q=> ?_) (.ow Env.put_self h1) (St.closeRow Env.put_self h1 (Akg hrep) (fun x _=>rfl) S');rcases Env.put_dom q with q|q
   ·exact .inl q
   ·subst q; exact .inr ⟨AkC _,AkO _⟩
  ·cases e1
 ·cases e1
def apSP (P:Program)(cf:Cf):Option (List Tok×D×AV×Nat×Bool):=
 match Gt cf with
 |some a=>match a.g,a.o.op with
  |none,.call c=>match c.callee,c.args.toList,c.argTypes.toList with
   | .builtin .append,[x,y],[t,t2]=>match P.underlying t with
    |some (.slice e)=>match JK P e with
     |some i=>match i.z with
      |some z=>match aev a.sl x with
       | .ow n=>match find n cf.s.ob with
        |some (j,.row k sz α E xs)=>some ([(j,.row k sz α E xs)],.sl α E xs,aev a.sl y,i.by_,Nat.beq z.cells.toList.length 1&&(Nat.beq i.sz 1&&(Nat.beq k n&&(Nat.beq sz 1&&WC P t2))))
        |_=>none
       |_=>none
      |none=>none
     |none=>none
    |_=>none
   |_,_,_=>none
  |_,_=>none
 |none=>none
def apST (P:Program)(cf:Cf)(zs:List UInt8):Stp:=match apSP P cf with|some (use,_)=>⟨.ow cf.s.nx,[],use,[(cf.s.nx,.row cf.s.nx 1 UInt8 byE zs)],cf.s.nx+1,[]⟩|none=>Afc cf.s 1 UInt8 byE zs
theorem gapS {b:Nat}{cf:Cf}{s:ByteArray}{xs zs:List UInt8}(hq:app b xs s.data.toList=some zs)(g:Go ρ P N D0 Q As η0 m0 (push N (aC P N cf) (apST P (aC P N cf) zs)))
  (e:((apSP P (aC P N cf)).map (·.2),(aL P N cf))=(some (.sl UInt8 byE xs,.d (.s s),b,true),(aR P N cf)):=by kernel_rfl) (hm:P.follows .mixedOrders=true:=by rfl):Go ρ P N D0 Q As η0 m0 cf:=by
 simp only[Akt]at e;obtain⟨e1,e3⟩:=e;obtain⟨he1,-⟩:=KB e3;refine AP hm he1 ?_;generalize aC P N cf=c0 at*;cases hk:apSP P c0 with
 |none=>rw[hk]at e1; cases e1
 |some r=>
  have hT:apST P c0 zs=⟨.ow c0.s.nx,[],r.1,[(c0.s.nx,.row c0.s.nx 1 UInt8 byE zs)],c0.s.nx+1,[]⟩:=by unfold apST; rw[hk]
  rw[hT]at g;rw[hk]at e1;simp only[AkL,Akv]at e1;unfold apSP at hk;split at hk
  ·rename_i a ha;split at hk
   ·rename_i c hg hop;split at hk
    ·rename_i x y t t2 hce hargs hats;split at hk
     ·rename_i e' hu;split at hk
      ·rename_i i hi;split at hk
       ·rename_i z hz;split at hk
        ·rename_i nn hx;split at hk
         ·rename_i j kk sz α E' xs' hf;cases hk;simp only[Akt,Aks]at e1 g;obtain⟨ex,ey,eb,b1,b2,b3,b4,b5⟩:=e1;have hgd:=BG ha hg;have hkn:=Aku b3; subst hkn;have hs1:=Aku b4;have hz1:=Aku b1;have hi1:=Aku b2;subst eb hs1;cases ex;refine DC ha hg ?_ ?_ g
          ·obtain⟨l,⟨dst,op,ty,pos,af,gd⟩,gg,sl,es⟩:=a;obtain⟨ce,cx,ct⟩:=c;obtain⟨cx⟩:=cx;obtain⟨ct⟩:=ct;simp only at hop hgd hce hargs hats hx ey⊢; subst hop hgd hce hargs hats;refine⟨Ale _,fun rest Q η m f w As hr hfz hn S hk=> ?_⟩;simp only at S hk hn;obtain⟨v,cs,h1,h2,h3,h4,S1⟩:=St.openRow S;have rx:=Am hr x; rw[hx]at rx;have hv:=rx.ow_inv.1;rw[h1]at hv; cases hv;have ry:=Am hr y;rw[ey]at ry;have hy:ev f y=vS s:=by
            have:=ry.dd;generalize ev f y=u at this;cases this; rfl
           have tb:=G5 hi;refine s_appS (i:=0) (ti:=i.inf) (z:=z) S1 rfl rfl (Akf (Y0 h3 fun _ _=>rfl)) rfl hy hq hu (Ml b5) (V4 hi) (by rw[←tb.2.2.2.2.1]; exact hz) (by rw[←tb.2.2.2.1]; exact hi1) (by rw[←tb.2.2.2.2.2]) (by rw[←Array.length_toList]; exact hz1) fun v' cs' w' S8 hrep=> ?_;have h0:=hn c0.s.nx (AkC _) (AkO _);have S9:St m (Gw.row 1 v' cs' zs.length::As) w':=S8;have h1':=Nc S9;refine hk (η.put c0.s.nx v') m w' v' (Env.le_put h0) (Mem.rfl' m) (fun q hq=> ?_) (.ow Env.put_self h1') (St.closeRow Env.put_self h1' (Akg hrep) (fun x _=>rfl) S9);rcases Env.put_dom hq with q1|q1
           ·exact .inl q1
           ·subst q1; exact .inr ⟨AkC _,AkO _⟩
          ·refine⟨fun q hq=> ?_,by simp[tids],by simp[tids],fun t ht=>by simp[tids]at ht; subst ht; exact⟨AkC _,AkO _⟩⟩;simp only[AkX,AlB]at hq;subst hq;exact FG hf
         ·cases hk
        ·cases hk
       ·cases hk
      ·cases hk
     ·cases hk
    ·cases hk
   ·cases hk
  ·cases hk
def fwOk (fw:List Tok):Bool:=Xc (tids fw)&&fw.all (fun p=>KF p.2)
def fwS (cf:Cf)(v:AV)(fw:List Tok):Stp:=⟨v,[],fw,enO cf.s.nx (OM fw),cf.s.nx+(OM fw).length,[]⟩
theorem AjE {cf:Cf}{a:Ag0}{v:AV}{x:Operand}{d:D}{fw:List Tok}(ha:Gt cf=some a)(hg:a.g=none)(hs:Ag5 cf.s.ob (aev a.sl x)=some (d,[],fw))(ho:fwOk fw=true)
  (ht: ∀rest Q η m f w As,(∀t,Rel η m (get a.sl t) (f t))→FR m d (ev f x)→St m As w→(∀u,Rel η m v u→wpl ρ P N D0 a.l.toArray rest Q (upo N f a.o.dst u) w)→wpl ρ P N D0 a.l.toArray ({a.o with guard:=none}::rest) Q f w)
  (g:Go ρ P N D0 Q As η0 m0 (push N cf (fwS cf v fw))):Go ρ P N D0 Q As η0 m0 cf:=by
 unfold fwOk at ho;simp only[Aks]at ho;obtain⟨e5,e6⟩:=ho;have hgd:=BG ha hg;refine DC ha hg ?_ ?_ g
 ·obtain⟨l,⟨dst,op,ty,pos,af,gd⟩,gg,sl,es⟩:=a;simp only at hgd ht⊢; subst hgd;refine⟨Nat.le_add_right _ _,fun rest Q η m f w As hr hz hn S hk=> ?_⟩;simp only[fwS]at S hk hn;have S':St m (reps η m fw++As) w:=by simpa using S
  obtain⟨m1,l1,K1,S2⟩:=Lc e6 S';have hr1: ∀t,Rel η m1 (get sl t) (f t):=fun t=>(hr t).up Env.le_refl l1;have hf:=XO hs (Am hr1 x) K1 (fun p hp=>by cases hp);refine ht rest Q η m1 f w _ hr1 hf S2 fun u hu=>hk η m1 w u Env.le_refl l1 (fun n h=> .inl h) hu ?_;rw[AkX,GV];exact K4 K1 S2
 ·refine⟨fun q hq=> ?_,by simpa[fwS]using E1 e5,?_,fun t ht=> ?_⟩
  ·exact UB hs q (by simpa[fwS]using hq)
  ·simp only[fwS]; rw[Ef]; exact List.nodup_range'
  ·simp only[fwS]at ht⊢;rw[Ef,List.mem_range']at ht;obtain⟨i2,hi2,rfl⟩:=ht;omega
def AgB (P:Program)(cf:Cf):Option (D×Int×Int×Int×Nat×Bool×List Tok):=
 match Gt cf with
 |some a=>match a.g,a.o.op with
  |none,.slice t x lo hi mx=>match Ag5 cf.s.ob (aev a.sl x),P.underlying t with
   |some (d,[],fw),some (.slice e)=>match JK P e with
    |some i=>
     let l:Option Int:=match lo with|none=>some 0|some o=>(OK a.sl o).map (·.2)
     let h:Option Int:=match hi with|none=>some (dlen d)|some o=>(OK a.sl o).map (·.2)
     let m:Option Int:=match mx with|none=>h|some o=>match hi with|none=>none|some _=>(OK a.sl o).map (·.2)
     match l,h,m with
     |some l,some h,some m=>some (d,l,h,m,i.sz,fwOk fw,fw)
     |_,_,_=>none
    |none=>none
   |_,_=>none
  |_,_=>none
 |none=>none
def Aj6 (P:Program)(cf:Cf):List Tok:=match AgB P cf with|some (_,_,_,_,_,_,ts)=>ts|none=> []
theorem gcutF {k:Nat}{cf:Cf}{α:Type}{E:α→List D}{xs ys:List α}{lo hi:Int}(hE: ∀x,(E x).length=k)(q:cut xs lo hi=some ys)(g:Go ρ P N D0 Q As η0 m0 (push N (aC P N cf) (fwS (aC P N cf) (.d (.sl α E ys)) (Aj6 P (aC P N cf)))))
  (e:((AgB P (aC P N cf)).map (fun r=>(r.1,r.2.1,r.2.2.1,r.2.2.2.1,r.2.2.2.2.1,r.2.2.2.2.2.1)),(aL P N cf))=(some (.sl α E xs,lo,hi,hi,k,true),(aR P N cf)):=by kernel_rfl) (hm:P.follows .mixedOrders=true:=by rfl):Go ρ P N D0 Q As η0 m0 cf:=by
 simp only[Akt]at e;obtain⟨e1,e3⟩:=e;obtain⟨he1,-⟩:=KB e3;refine AP hm he1 ?_;generalize aC P N cf=c0 at*;cases hk:AgB P c0 with
 |none=>rw[hk]at e1; cases e1
 |some r=>
  have hT:Aj6 P c0=r.2.2.2.2.2.2:=by unfold Aj6; rw[hk]
  rw[hT]at g;rw[hk]at e1;simp only[AkL,Akv,Akt]at e1;obtain⟨e1,e2,e4,e5,e6,e7⟩:=e1;unfold AgB at hk;split at hk
  ·rename_i a ha;split at hk
   ·rename_i t x' lo' hi' mx' hg hop;split at hk
    ·rename_i d fw e' h1 h3;split at hk
     ·rename_i i hti;simp only at hk;split at hk
      ·rename_i l h m hl hh hmm;cases hk;simp only at e1 e2 e4 e5 e6 e7 g;subst e1 e2 e4 e5;refine AjE ha hg h1 e7 ?_ g;obtain⟨ll,⟨dst,op,ty,pos,af,gd⟩,gg,sl,es⟩:=a;simp only at hop hl hh hmm⊢; subst hop;intro rest Q η m' f w As hr hf S hk;letI:=PQ E k;refine s_cut rfl (Wl hf hE) h3 (by rw[←e6]; exact Cc hti) ?_ ?_ ?_ q fun v' hv'=>hk v' (.d (V3 hv'))
       ·cases lo' with
        |none=>simp only[Akv]at hl; exact .inl ⟨rfl,hl.symm⟩
        |some o=>
         simp only[Akx]at hl;obtain⟨⟨kk,jj⟩,hj,rfl⟩:=hl;exact .inr ⟨kk,by simp only[AkL]; rw[B6 hj hr]⟩
       ·cases hi' with
        |none=>simp only[Akv]at hh; exact .inl ⟨rfl,hh.symm⟩
        |some o=>
         simp only[Akx]at hh;obtain⟨⟨kk,jj⟩,hj,rfl⟩:=hh;exact .inr ⟨kk,by simp only[AkL]; rw[B6 hj hr]⟩
       ·cases mx' with
        |none=>exact .inl rfl
        |some o=>
         cases hi' with
         |none=>simp at hmm
         |some o2=>
          simp only[Akx]at hmm;obtain⟨⟨kk,jj⟩,hj,rfl⟩:=hmm;exact .inr ⟨by simp,kk,by simp only[AkL]; rw[B6 hj hr]⟩
      ·cases hk
     ·cases hk
    ·cases hk
   ·cases hk
  ·cases hk
end
def DI (ob:List Tok):List AV→List AV×List Tok×List Tok
 | []=>([],[],[])
 |c::l=>match Ag5 ob c with
  |some (d,g,h)=>(.d d::(DI ob l).1,g++(DI ob l).2.1,h++(DI ob l).2.2)
  |none=>(c::(DI ob l).1,(DI ob l).2.1,(DI ob l).2.2)
theorem NG {ob:List Tok}{η:Env}{m:Mem}: ∀{cs:List AV} {vs:List Value},BP η m cs vs→(∀p∈(DI ob cs).2.2,∃v,η p.2.nm=some v∧FR m (JH p.2) v)→(∀p∈(DI ob cs).2.1,∃v,η p.2.nm=some v∧FR m (JH p.2) v)→BP η m (DI ob cs).1 vs
 | [],vs,r,_,_=>r
 |c::l,vs,r,k1,k2=>by
  obtain⟨v,us,rfl,r1,r2⟩:=r.cons_inv;unfold DI at*;split at k1
  ·rename_i d g h e;rw[e]at k2;simp only at k1 k2⊢;exact .cons (.d (XO e r1 (fun q hq=>k1 q (List.mem_append_left _ hq)) (fun q hq=>k2 q (List.mem_append_left _ hq)))) (NG r2 (fun q hq=>k1 q (List.mem_append_right _ hq)) (fun q hq=>k2 q (List.mem_append_right _ hq)))
  ·rename_i e;rw[e]at k2;simp only at k1 k2⊢;exact .cons r1 (NG r2 k1 k2)
theorem NT {ob:List Tok}: ∀{cs:List AV},∀p∈(DI ob cs).2.2++(DI ob cs).2.1,p∈ob
 | [],p,hp=>by simp[DI]at hp
 |c::l,p,hp=>by
  have ih:=NT (ob:=ob) (cs:=l) p;unfold DI at hp;simp only[AkS]at ih;split at hp
  ·rename_i d g h e;have i2:=UB e p;simp only[AkS]at hp i2;rcases hp with (q|q)|(q|q)
   ·exact i2 (.inl q)
   ·exact ih (.inl q)
   ·exact i2 (.inr q)
   ·exact ih (.inr q)
  ·simp only[AkS]at hp; exact ih hp
def TU (ob:List Tok)(sl:Sl)(sz:Nat):List (Nat×Operand)→Option (List AV×List Tok×List Tok)
 | []=>some ([],[],[])
 |p::l=>match TU ob sl sz l with
  |some (r,rd,fw)=>match Oj (aev sl p.2)with
   |some c=>bif Nat.beq c.length sz then some ((DI ob c).1++r,(DI ob c).2.1++rd,(DI ob c).2.2++fw)else none
   |none=>none
  |none=>none
theorem W1 {ob:List Tok}{sl:Sl}{sz:Nat}{η:Env}{m:Mem}{f:Fr}(hr: ∀t,Rel η m (get sl t) (f t)): ∀{l:List (Nat×Operand)} {cs:List AV} {rd fw:List Tok},TU ob sl sz l=some (cs,rd,fw)→
  (∀p∈fw,∃v,η p.2.nm=some v∧FR m (JH p.2) v)→(∀p∈rd,∃v,η p.2.nm=some v∧FR m (JH p.2) v)→
  ∃cls:List (List Value),IE ((l.map (·.2)).map (ev f)) cls∧I0 sz cls=true∧BP η m cs cls.flatten
 | [],cs,rd,fw,h,_,_=>by cases h; exact⟨[],trivial,rfl,.nil⟩
 |p::l,cs,rd,fw,h,k1,k2=>by
  unfold TU at h;split at h
  ·rename_i r rd' fw' h1;split at h
   ·rename_i c h2;cases hb:Nat.beq c.length sz
    ·rw[hb]at h; cases h
    ·rw[hb]at h; cases h;obtain⟨cls,a1,a2,a3⟩:=W1 hr h1 (fun q hq=>k1 q (List.mem_append_right _ hq)) (fun q hq=>k2 q (List.mem_append_right _ hq));obtain⟨b1,b2⟩:=HY h2 (Am hr p.2);refine⟨(ev f p.2).cells.toList::cls,⟨by simp,a1⟩,?_,?_⟩
     ·show(Nat.beq _ sz&&I0 sz cls)=true;rw[a2,←b1.1,hb]; rfl
     ·rw[List.flatten_cons]; exact(NG b1 (fun q hq=>k1 q (List.mem_append_left _ hq)) (fun q hq=>k2 q (List.mem_append_left _ hq))).append a3
   ·cases h
  ·cases h
theorem TT {ob:List Tok}{sl:Sl}{sz:Nat}: ∀{l:List (Nat×Operand)} {cs:List AV} {rd fw:List Tok},TU ob sl sz l=some (cs,rd,fw)→∀p∈fw++rd,p∈ob
 | [],cs,rd,fw,h=>by cases h; intro p hp; simp at hp
 |p::l,cs,rd,fw,h=>by
  unfold TU at h;split at h
  ·rename_i r rd' fw' h1;split at h
   ·rename_i c h2;cases hb:Nat.beq c.length sz
    ·rw[hb]at h; cases h
    ·rw[hb]at h; cases h;intro q hq;have i1:=TT h1 q;have i2:=NT (ob:=ob) (cs:=c) q;simp only[AkS]at hq i1 i2;rcases hq with (e|e)|(e|e)
     ·exact i2 (.inl e)
     ·exact i1 (.inl e)
     ·exact i2 (.inr e)
     ·exact i1 (.inr e)
   ·cases h
  ·cases h
def AcY (P:Program)(cf:Cf):Option (List AV×Nat×Nat×Bool×List Tok×List Tok):=
 match Gt cf with
 |some a=>match a.g,a.o.op with
  |none,.buildSlice t n parts=>match P.underlying t with
   |some (.slice e)=>match JK P e with
    |some i=>match i.z,TU cf.s.ob a.sl i.sz parts.toList with
     |some _,some (cs,rd,fw)=>some (cs,n,i.sz,(seqB 0 parts.toList&&(Nat.beq n parts.toList.length&&(Nat.ble (n*i.sz) 16777216&&Nat.ble 1 i.sz)))&&(Xc (tids (fw++rd))&&(rd.all (fun p=>WG p.2)&&fw.all (fun p=>KF p.2))),rd,fw)
     |_,_=>none
    |none=>none
   |_=>none
  |_,_=>none
 |none=>none
def Ajl (P:Program)(cf:Cf):Option (List AV×Nat×Nat×Bool):=(AcY P cf).map fun r=>(r.1,r.2.1,r.2.2.1,r.2.2.2.1)
def Ajk (P:Program)(cf:Cf)(α:Type)(E:α→List D)(xs:List α):Stp:=match AcY P cf with|some (_,_,_,_,rd,fw)=>⟨.d (.sl α E xs),rd,fw,enO cf.s.nx (OM fw),cf.s.nx+(OM fw).length,[]⟩|none=>⟨.d (.sl α E xs),[],[],[],cf.s.nx,[]⟩
def litVO (P:Program)(cf:Cf)(sz:Nat)(α:Type)(E:α→List D)(xs:List α):Stp:=match AcY P cf with|some (_,_,_,_,rd,fw)=>⟨.ow cf.s.nx,rd,fw,enO cf.s.nx (.row cf.s.nx sz α E xs::OM fw),cf.s.nx+(1+(OM fw).length),[]⟩|none=>Afc cf.s sz α E xs
section
variable {ρ:Option Nat}{P:Program}{N:Nat}{D0:Dw}{Q:DJ}{As:List Ow}{η0:Env}{m0:Mem}
theorem AfR {k:Nat}{cf:Cf}{α:Type}{E:α→List D}{xs:List α}(hE: ∀x,(E x).length=k)(e:Ajl P cf=some ((xs.flatMap E).map dv,xs.length,k,true)):
  ∃(a:Ag0) (rd fw:List Tok),Gt cf=some a∧a.g=none∧(∀α' (E':α'→List D) xs',Ajk P cf α' E' xs'=⟨.d (.sl α' E' xs'),rd,fw,enO cf.s.nx (OM fw),cf.s.nx+(OM fw).length,[]⟩)∧
   (∀sz α' (E':α'→List D) xs',litVO P cf sz α' E' xs'=⟨.ow cf.s.nx,rd,fw,enO cf.s.nx (.row cf.s.nx sz α' E' xs'::OM fw),cf.s.nx+(1+(OM fw).length),[]⟩)∧(∀p∈fw++rd,p∈cf.s.ob)∧(tids (fw++rd)).Nodup∧rd.all (fun p=>WG p.2)=true∧
   ∀rest Q η m f w As,(∀t,Rel η m (get a.sl t) (f t))→St m (reps η m (fw++rd)++As) w→
    (∀(m1:Mem) v w' cs,m≤m1→(∀p∈fw,∃v,η p.2.nm=some v∧FR m1 (JH p.2) v)→(∀p∈rd,∃v,η p.2.nm=some v∧FR m1 (JH p.2) v)→FRL m1 (xs.flatMap E) cs→St m1 (Gw.row k v cs xs.length::As) w'→wpl ρ P N D0 a.l.toArray rest Q (upo N f a.o.dst v) w')→
    wpl ρ P N D0 a.l.toArray (a.o::rest) Q f w:=by
 unfold Ajl at e;cases hp:AcY P cf with
 |none=>rw[hp]at e; cases e
 |some r=>
  obtain⟨cs,n,sz,b,rd,fw⟩:=r;rw[hp]at e;simp only[AkL,Akv,Akt]at e;obtain⟨ec,en,ek,eb⟩:=e;have hp0:=hp;unfold AcY at hp;split at hp
  ·rename_i a ha;split at hp
   ·rename_i t n' parts hg hop;split at hp
    ·rename_i e hu;split at hp
     ·rename_i i hi;split at hp
      ·rename_i z cs' rd' fw' hz hcs;simp only[Akv,Akt]at hp;obtain⟨q1,q2,q3,q4,q5,q6⟩:=hp;subst q1 q2 q3 q5 q6;rw[←q4]at eb;simp only[Aks]at eb;obtain⟨⟨b1,b2,b3,b4⟩,o1,o2,o3⟩:=eb;have hgd:=BG ha hg;refine⟨a,rd',fw',ha,hg,fun _ _ _=>by unfold Ajk; rw[hp0],fun _ _ _ _=>by unfold litVO; rw[hp0],TT hcs,E1 o1,o2,?_⟩;obtain⟨l,⟨dst,op,ty,pos,af,gd⟩,gg,sl,es⟩:=a;simp only at hop hgd hcs⊢; subst hop hgd;intro rest Q η m f w As hr S hk;rw[AU,Akw]at S;obtain⟨m1,l1,K1,S2⟩:=Lc o3 S;have S3:=St.ru Env.le_refl l1 S2;obtain⟨K2,S4⟩:=ND o2 S3;have hr1: ∀t,Rel η m1 (get sl t) (f t):=fun t=>(hr t).up Env.le_refl l1;obtain⟨cls,a1,a2,a3⟩:=W1 hr1 hcs K1 K2;have hps:=UH b1;have e0:parts=(((parts.toList.map (·.2)).zipIdx 0).map fun p=>(p.2,p.1)).toArray:=by
        rw[←hps]
       rw[e0];have hlen:((parts.toList.map (·.2)).map (ev f)).length=n':=by simp; exact(Aku b2).symm
       refine XQ (vs:=(parts.toList.map (·.2)).map (ev f)) (cls:=cls) S4 hu (Cc hi) (O6 hi hz) rfl a1 a2 hlen.symm (AkG b3) (AkG b4) fun v w' S'=> ?_;rw[ek,en]at S';rw[ec]at a3;exact hk m1 v w' _ l1 K1 K2 (FRL.ofRelv a3) S'
      ·cases hp
     ·cases hp
    ·cases hp
   ·cases hp
  ·cases hp
theorem WL {k:Nat}{cf:Cf}{α:Type}(E:α→List D)(xs:List α)(hE: ∀x,(E x).length=k)(g:Go ρ P N D0 Q As η0 m0 (push N (aC P N cf) (Ajk P (aC P N cf) α E xs)))
  (e:(Ajl P (aC P N cf),(aL P N cf))=(some ((xs.flatMap E).map dv,xs.length,k,true),(aR P N cf)):=by kernel_rfl) (hm:P.follows .mixedOrders=true:=by rfl):Go ρ P N D0 Q As η0 m0 cf:=by
 simp only[Akt]at e;obtain⟨e1,e3⟩:=e;obtain⟨he1,-⟩:=KB e3;refine AP hm he1 ?_;generalize aC P N cf=c0 at*;obtain⟨a,rd,fw,ha,hg,hS,-,hsub,hnd,ho2,run⟩:=AfR (ρ:=ρ) (N:=N) (D0:=D0) hE e1;rw[hS]at g;refine DC ha hg ⟨Nat.le_add_right _ _,fun rest Q η m f w As hr hz hn S hk=> ?_⟩ ⟨hsub,hnd,?_,fun t ht=> ?_⟩ g
 ·refine run rest Q η m f w As hr S fun m1 v w' cs l1 K1 K2 hc S'=> ?_;letI:=PQ E k;obtain⟨m2,l2,h5,S2⟩:=St.rowKeepT (i:=0) S' rfl (Y0 hc fun x _=>hE x) rfl;have F1: ∀p∈fw,∃v,η p.2.nm=some v∧FR m2 (JH p.2) v:=fun p hp=>let ⟨v,a,b⟩:=K1 p hp; ⟨v,a,b.up l2⟩;have F2: ∀p∈rd,∃v,η p.2.nm=some v∧FR m2 (JH p.2) v:=fun p hp=>let ⟨v,a,b⟩:=K2 p hp; ⟨v,a,b.up l2⟩;refine hk η m2 w' v Env.le_refl (Mem.tr l1 l2) (fun n h=> .inl h) (.d (V3 h5)) ?_;rw[AU,Akw,GV];exact K4 F1 (Mq ho2 F2 S2)
 ·simp only; rw[Ef]; exact List.nodup_range'
 ·simp only at ht⊢;rw[Ef,List.mem_range']at ht;obtain⟨i2,hi2,rfl⟩:=ht;omega
theorem AcI: ∀{L:List Value},(∀v∈L,v.oneCell'=true)→OneL L
 | [],_=>trivial
 |a::l,h=>⟨h a AkN,AcI fun v hv=>h v (AkT _ hv)⟩
def Ab3 (ob:List Tok)(n:Nat):Option (D×Nat×Tok):=match find n ob with|some (i,.row k sz α E xs)=>bif Nat.beq k n then some (.sl α E xs,sz,(i,.row k sz α E xs))else none|_=>none
theorem Rf {ob:List Tok}{n sz:Nat}{d:D}{p:Tok}(h:Ab3 ob n=some (d,sz,p)):p∈ob∧∃i α E xs,d= .sl α E xs∧p=(i,AObj.row n sz α E xs):=by
 unfold Ab3 at h;split at h
 ·rename_i i k sz' α E xs hf;cases hb:Nat.beq k n
  ·rw[hb]at h; cases h
  ·rw[hb]at h; cases h;have:=Aku hb; subst this;exact⟨FG hf,i,α,E,xs,rfl,rfl⟩
 ·cases h
def AaH (P:Program)(cf:Cf):Option (D×Int×Nat×Nat×Bool×Tok):=
 match Gt cf with
 |some a=>match a.o.op with
  | .indexAddr t x y=>match aev a.sl x,OK a.sl y,P.underlying t with
   | .ow n,some (_,j),some (.slice e)=>match JK P e,Ab3 cf.s.ob n with
    |some i,some (d,sz,p)=>some (d,j,sz,n,Nat.beq i.sz sz,p)
    |_,_=>none
   |_,_,_=>none
  |_=>none
 |none=>none
def Af3 (P:Program)(cf:Cf):List Tok:=match AaH P cf with|some (_,_,_,_,_,p)=> [p]|none=> []
def Af2 (P:Program)(cf:Cf):AV:=match AaH P cf with|some (_,j,sz,n,_,_)=> .pe n j sz 0|none=> .any
theorem G2 {cf:Cf}{α:Type}{E:α→List D}{xs:List α}{j:Int}{x:α}(hq:gOf (aC P N cf)=true→idx xs j=some x)(g:Go ρ P N D0 Q As η0 m0 (CK N (aC P N cf) (Af2 P (aC P N cf)) (Af3 P (aC P N cf))))
  (e:((AaH P (aC P N cf)).map (fun r=>(r.1,r.2.1,r.2.2.2.2.1)),(aL P N cf))=(some (.sl α E xs,j,true),(aR P N cf)):=by kernel_rfl) (hm:P.follows .mixedOrders=true:=by rfl):Go ρ P N D0 Q As η0 m0 cf:=by
 simp only[Akt]at e;obtain⟨e1,e3⟩:=e;obtain⟨he1,he2⟩:=KB e3;refine AP hm he1 ?_;generalize aC P N cf=c0 at*;cases hk:AaH P c0 with
 |none=>rw[hk]at e1; cases e1
 |some r=>
  obtain⟨d,j',sz,nn,ok,p⟩:=r;have hT:Af3 P c0=[p]:=by unfold Af3; rw[hk]
  have hV:Af2 P c0= .pe nn j' sz 0:=by unfold Af2; rw[hk]
  rw[hT,hV]at g;rw[hk]at e1;simp only[AkL,Akv,Akt]at e1;obtain⟨e1,e2,e4⟩:=e1;subst e1 e2 e4;unfold AaH at hk;split at hk
  ·rename_i a ha;rw[DD ha]at he2;split at hk
   ·rename_i t x' y hop;split at hk
    ·rename_i n' kk jj e' h1 h2 h3;split at hk
     ·rename_i i d' sz' p' hi hrow;simp only[Akv,Akt]at hk;obtain⟨q1,q2,q3,q4,q5,q6⟩:=hk;subst q1 q2 q3 q4 q6;obtain⟨hmem,i0,α',E',xs',hd,hp⟩:=Rf hrow;cases hd; subst hp;refine DB ha he2 ⟨fun x hx=>by simp at hx; subst hx; exact hmem,by simp[tids]⟩ (fun hp=> ?_) g;have q:=hq (MC ha hp);obtain⟨l,⟨dst,op,ty,pos,af,gd⟩,gg,sl,es⟩:=a;simp only at hop⊢; subst hop;refine⟨AkC _,fun rest Q η m f w As hr hz hn S hk=> ?_⟩;have S':St m (rep η m (.row n' sz' α E xs)::As) w:=S;obtain⟨v,cs,a1,a2,a3,a4,S1⟩:=St.openRow S';have rx:=Am hr x'; rw[h1]at rx;have ex:=rx.ow_inv.1;rw[a1]at ex;have hr2:=NC q;refine s_idxO (i:=0) (j:=jj) S1 (Akr ex).symm (B6 h2 hr) rfl hr2.1 hr2.2 h3 (by rw[←Aku q5]; exact Cc hi) fun p hp=> ?_;exact hk η m w p Env.le_refl (Mem.rfl' m) (fun n h=> .inl h) (.pe a1 hp) S
     ·cases hk
    ·cases hk
   ·cases hk
  ·cases hk
def ldOP (P:Program)(cf:Cf):Option (D×Int×Nat×Nat×Bool×Nat×Bool×Tok):=
 match Gt cf with
 |some a=>match a.o.op with
  | .load t x=>match aev a.sl x,JK P t with
   | .pe n j sz fo,some i=>match Ab3 cf.s.ob n with
    |some (d,sz',p)=>some (d,j,fo,i.sz,i.agg,sz,Nat.beq sz sz'&&(Nat.ble (fo+i.sz) sz&&(i.agg||Nat.beq i.sz 1)),p)
    |none=>none
   |_,_=>none
  |_=>none
 |none=>none
def ldOT (P:Program)(cf:Cf):List Tok:=match ldOP P cf with|some (_,_,_,_,_,_,_,p)=> [p]|none=> []
theorem Yg {k fo nn:Nat}{ag:Bool}{cf:Cf}{α:Type}{E:α→List D}{xs:List α}{j:Int}{x:α}(hE: ∀x,(E x).length=k)(hq:gOf (aC P N cf)=true→idx xs j=some x)(g:Go ρ P N D0 Q As η0 m0 (CK N (aC P N cf) (pkA ag ((((E x).drop fo).take nn).map .d)) (ldOT P (aC P N cf))))
  (e:((ldOP P (aC P N cf)).map (fun r=>(r.1,r.2.1,r.2.2.1,r.2.2.2.1,r.2.2.2.2.1,r.2.2.2.2.2.1,r.2.2.2.2.2.2.1)),(aL P N cf))=(some (.sl α E xs,j,fo,nn,ag,k,true),(aR P N cf)):=by kernel_rfl) (hm:P.follows .mixedOrders=true:=by rfl):Go ρ P N D0 Q As η0 m0 cf:=by
 simp only[Akt]at e;obtain⟨e1,e3⟩:=e;obtain⟨he1,he2⟩:=KB e3;refine AP hm he1 ?_;generalize aC P N cf=c0 at*;cases hk:ldOP P c0 with
 |none=>rw[hk]at e1; cases e1
 |some r=>
  obtain⟨d,j',fo',nn',ag',k',ok,p⟩:=r;have hT:ldOT P c0=[p]:=by unfold ldOT; rw[hk]
  rw[hT]at g;rw[hk]at e1;simp only[AkL,Akv,Akt]at e1;obtain⟨e1,e2,e4,e5,e6,e7,e8⟩:=e1;subst e1 e2 e4 e5 e6 e7 e8;unfold ldOP at hk;split at hk
  ·rename_i a ha;rw[DD ha]at he2;split at hk
   ·rename_i t x' hop;split at hk
    ·rename_i n' jj sz fo2 i h1 hi;split at hk
     ·rename_i d' sz' p' hrow;simp only[Akv,Akt]at hk;obtain⟨q1,q2,q3,q4,q5,q6,q7,q8⟩:=hk;subst q1 q2 q3 q4 q5 q6 q8;simp only[Aks,Alh]at q7;obtain⟨b1,b2,b3⟩:=q7;have b1:=Aku b1;have b2:=AkG b2;obtain⟨hmem,i0,α',E',xs',hd,hp⟩:=Rf hrow;cases hd; subst hp;subst b1;refine DB ha he2 ⟨fun x hx=>by simp at hx; subst hx; exact hmem,by simp[tids]⟩ (fun hp=> ?_) g;have q:=hq (MC ha hp);obtain⟨l,⟨dst,op,ty,pos,af,gd⟩,gg,sl,es⟩:=a;simp only at hop⊢; subst hop;refine⟨AkC _,fun rest Q η m f w As hr hz hn S hk=> ?_⟩;have S':St m (rep η m (.row n' sz α E xs)::As) w:=S;obtain⟨v,cs,a1,a2,a3,a4,S1⟩:=St.openRow S';have rx:=Am hr x'; rw[h1]at rx;obtain⟨v',hv',hp'⟩:=rx.pe_inv;rw[a1]at hv'; cases hv';letI:=PQ E sz;have hrep:GoT.rep m ((cs.drop (jj.toNat*sz)).take sz) x:=DU.getI (Y0 a3 a4) q;have hf:FRL m (E x) ((cs.drop (jj.toNat*sz)).take sz):=hrep.1;have hseg:=(hf.drop fo2).take i.sz;have hd:((((cs.drop (jj.toNat*sz)).take sz).drop fo2).take i.sz)=(cs.drop (jj.toNat*sz+fo2)).take i.sz:=by
       rw[List.drop_take,List.take_take,All,Nat.min_eq_left (by omega)]
      have hlE:(((E x).drop fo2).take i.sz).length=i.sz:=by rw[Ak7,Aln,hE x]; omega
      have hlen:((cs.drop (jj.toNat*sz+fo2)).take i.sz).length=i.sz:=by rw[←hd,←hseg.1,hlE]
      have h1':i.agg=false→i.sz=1:=fun e=>by
       rcases b3 with z|z
       ·rw[e]at z; cases z
       ·exact Aku z
      rw[hd]at hseg;refine s_ldO (i:=0) (d:=(cs.drop (jj.toNat*sz+fo2)).take i.sz) S1 rfl hp' rfl (by rw[hlen]) (KK hi) (by rw[hlen]; exact Cc hi) (fun e=>by rw[hlen,h1' e]) ?_;exact hk η m w _ Env.le_refl (Mem.rfl' m) (fun n h=> .inl h) (R4 (.ofD hseg) fun e=>by rw[AkW,hlE,h1' e]) S
     ·cases hk
    ·cases hk
   ·cases hk
  ·cases hk
def Aiq (P:Program)(cf:Cf):Option (D×Int×Nat×List AV×Nat×Bool×Nat×Tok×List Tok×List Tok):=
 match Gt cf with
 |some a=>match a.g,a.o.op with
  |none,.store t x y=>match aev a.sl x,Oj (aev a.sl y),JK P t with
   | .pe n j sz fo,some ds,some i=>match Ab3 cf.s.ob n with
    |some (d,sz',p)=>some (d,j,fo,(DI cf.s.ob ds).1,sz,(Nat.beq sz sz'&&Nat.beq i.sz ds.length)&&(Xc (tids ((p::(DI cf.s.ob ds).2.2)++(DI cf.s.ob ds).2.1))&&((DI cf.s.ob ds).2.1.all (fun p=>WG p.2)&&(DI cf.s.ob ds).2.2.all (fun p=>KF p.2))),n,p,(DI cf.s.ob ds).2.1,(DI cf.s.ob ds).2.2)
    |none=>none
   |_,_,_=>none
  |_,_=>none
 |none=>none
def stOS (P:Program)(cf:Cf)(sz:Nat)(α:Type)(E:α→List D)(xs:List α):Stp:=match Aiq P cf with|some (_,_,_,_,_,_,n,p,rd,fw)=>⟨.no,rd,p::fw,enO cf.s.nx (.row n sz α E xs::OM fw),cf.s.nx+(1+(OM fw).length),[]⟩|none=>Afc cf.s sz α E xs
theorem Abc {k:Nat}{cf:Cf}{α:Type}{E:α→List D}{xs:List α}{j:Int}{z0:α}(z:α)(hE: ∀x,(E x).length=k)(hq:idx xs j=some z0)(g:Go ρ P N D0 Q As η0 m0 (push N (aC P N cf) (stOS P (aC P N cf) k α E (xs.set j.toNat z))))
  (e:((Aiq P (aC P N cf)).map (fun r=>(r.1,r.2.1,r.2.2.1,r.2.2.2.1,r.2.2.2.2.1,r.2.2.2.2.2.1)),(aL P N cf))=(some (.sl α E xs,j,0,(E z).map dv,k,true),(aR P N cf)):=by kernel_rfl) (hm:P.follows .mixedOrders=true:=by rfl):Go ρ P N D0 Q As η0 m0 cf:=by
 simp only[Akt]at e;obtain⟨e1,e3⟩:=e;obtain⟨he1,-⟩:=KB e3;refine AP hm he1 ?_;generalize aC P N cf=c0 at*;cases hk:Aiq P c0 with
 |none=>rw[hk]at e1; cases e1
 |some r=>
  obtain⟨d,j',fo,ds,k',ok,nn,p,rd,fw⟩:=r;have hS:stOS P c0 k α E (xs.set j.toNat z)=⟨.no,rd,p::fw,enO c0.s.nx (.row nn k α E (xs.set j.toNat z)::OM fw),c0.s.nx+(1+(OM fw).length),[]⟩:=by unfold stOS; rw[hk]
  rw[hS]at g;rw[hk]at e1;simp only[AkL,Akv,Akt]at e1;obtain⟨e1,e2,e4,e5,e6,e7⟩:=e1;subst e1 e2 e4 e6 e7;unfold Aiq at hk;split at hk
  ·rename_i a ha;split at hk
   ·rename_i t x y hg hop;split at hk
    ·rename_i n' jj sz fo2 ds0 i h1 h2 hi;split at hk
     ·rename_i d' sz' p' hrow;simp only[Akv,Akt]at hk;obtain⟨q1,q2,q3,q4,q5,q6,q7,q8,q9,q10⟩:=hk;subst q1 q2 q3 q5 q7 q8 q9 q10;simp only[Aks]at q6;obtain⟨⟨b1,b2⟩,b3,b4,b5⟩:=q6;have b1:=Aku b1;have b2:=Aku b2;obtain⟨hmem,i0,α',E',xs',hd,hp⟩:=Rf hrow;cases hd; subst hp;subst b1;have hgd:=BG ha hg;have csub:=NT (ob:=c0.s.ob) (cs:=ds0);refine DC ha hg ?_ ?_ g
      ·obtain⟨l,⟨dst,op,ty,pos,af,gd⟩,gg,sl,es⟩:=a;simp only at hop hgd h1 h2⊢; subst hop hgd;refine⟨Nat.le_add_right _ _,fun rest Q η m f w As hr hfz hn S hk=> ?_⟩;simp only at S hk hn;rw[AU,Akw]at S;have S0:St m (rep η m (.row n' sz α E xs)::(reps η m (DI c0.s.ob ds0).2.2++(reps η m (DI c0.s.ob ds0).2.1++As))) w:=S;have S1:=S0.perm List.perm_middle.symm;obtain⟨m1,l1,K1,S2⟩:=Lc b5 S1;obtain⟨v,cs,a1,a2,a3,a4,S3⟩:=St.openRow (m:=m1) (St.imp0 S2 fun h hh=>rep.up Env.le_refl l1 hh);have S4:=S3.perm List.perm_middle.symm;have S5:=St.ru Env.le_refl l1 S4;obtain⟨K2,S6⟩:=ND b4 S5;have hr1: ∀t,Rel η m1 (get sl t) (f t):=fun t=>(hr t).up Env.le_refl l1;obtain⟨c1,c2⟩:=HY h2 (Am hr1 y);have c3:=NG c1 K1 K2;rw[q4,e5]at c3;have c4:=FRL.ofRelv c3;have rx:=Am hr1 x; rw[h1]at rx;obtain⟨v',hv',hp'⟩:=rx.pe_inv;rw[a1]at hv'; cases hv';letI:=PQ E sz;have hsz:(ev f y).cells.size=ds0.length:=by rw[c1.1]; simp
       refine s_stOR (α:=α) (i:=0) (z:=z) S6 rfl rfl (by rw[Nat.add_zero]at hp'; exact hp') rfl (Y0 a3 a4) hq (by rw[hsz,←b2]; exact Cc hi) (AcI c4.one) ⟨c4,hE z⟩ fun w' cs' S7 hrep=> ?_;have hrep':=XW hrep;refine hk η m1 w' undef Env.le_refl l1 (fun n h=> .inl h) .no ?_;rw[AU,Akw,GV];show St m1 (rep η m1 (.row n' sz α E (xs.set jj.toNat z))::((OM (DI c0.s.ob ds0).2.2).map (rep η m1)++(reps η m1 (DI c0.s.ob ds0).2.1++As))) w';have T1:=St.closeRow (η:=η) (n:=n') a1 a2 hrep'.1 hrep'.2 S7;have T2:=K4 K1 (Mq b4 K2 T1);exact T2.perm ((AkU _ Alj).trans Alj)
      ·refine⟨fun q hq=> ?_,E1 b3,?_,fun t ht=> ?_⟩
       ·simp only[AlA,Ak1]at hq;rcases hq with h|h
        ·subst h; exact hmem
        ·exact csub q h
       ·simp only; rw[Ef]; exact List.nodup_range'
       ·simp only at ht⊢;rw[Ef,List.mem_range']at ht;obtain⟨i2,hi2,rfl⟩:=ht;simp only[AkB]at hi2;omega
     ·cases hk
    ·cases hk
   ·cases hk
  ·cases hk
def PS (a b:Sl):Prop:= ∀(t:Nat) (η:Env) (m:Mem) (v:Value),Rel η m (get a t) v→Rel η m (get b t) v
theorem PS.rst {a b:Sl}(p:PS a b): ∀(ts:List Nat),PS (rst ts a) (rst ts b)
 | [],_,_,_,_,_=> .any _
 |x::ts,t,η,m,v,h=>by
  have h':Rel η m (bif Nat.beq x t then get a x else get (Ax.rst ts a) t) v:=h;show Rel η m (bif Nat.beq x t then get b x else get (Ax.rst ts b) t) v;cases hb:Nat.beq x t
  ·rw[hb]at h'; exact PS.rst p ts t η m v h'
  ·rw[hb]at h'; exact p x η m v h'
theorem PS.setS {a b:Sl}(p:PS a b)(N:Nat)(d:Option Nat)(x:AV):PS (setS N a d x) (setS N b d x):=fun t η m v h=>by
 cases d with
 |none=>exact p t η m v h
 |some d=>
  unfold Ax.setS at*;cases hb:Nat.blt d N
  ·simp only[hb,cond_false]at h⊢; exact p t η m v h
  ·simp only[hb,cond_true,get]at h⊢;cases hq:Nat.beq d t
   ·rw[hq]at h; exact p t η m v h
   ·rw[hq]at h; exact h
theorem Ah8 {ops:Array Oper}{F:AS→List (Oper×Stp)→Prop}(hF: ∀(a b:Sl) ob fz nx h,PS a b→F ⟨b,ob,fz,nx⟩ h→F ⟨a,ob,fz,nx⟩ h):
  ∀{l:List Oper} {a b:Sl} {ob:List Tok} {fz:Fz} {nx:Nat} {h:List (Oper×Stp)},PS a b→FT ρ P N D0 ops F l ⟨b,ob,fz,nx⟩ h→FT ρ P N D0 ops F l ⟨a,ob,fz,nx⟩ h
 | [],a,b,ob,fz,nx,h,p,g=>hF a b ob fz nx h p g
 |o::l,a,b,ob,fz,nx,h,p,⟨r,t1,t2,t3⟩=>
  ⟨r,⟨t1.1,fun rest Q η m f w As hr=>t1.2 rest Q η m f w As fun t=>(p.rst _) t η m _ (hr t)⟩,⟨t2.sub,t2.nd,t2.mnd,t2.mlt⟩,Ah8 hF (p.setS N o.dst r.v) t3⟩
theorem XR: ∀{rs:FQ} {a b:Sl} {ob:List Tok} {fz:Fz} {nx:Nat},PS a b→PS (G6 N ⟨a,ob,fz,nx⟩ rs).sl (G6 N ⟨b,ob,fz,nx⟩ rs).sl∧(G6 N ⟨a,ob,fz,nx⟩ rs).nx=(G6 N ⟨b,ob,fz,nx⟩ rs).nx
 | [],_,_,_,_,_,p=>⟨p,rfl⟩
 |r::rs,a,b,ob,fz,nx,p=>XR (rs:=rs) (p.setS N r.1.dst r.2.v)
theorem AhX: ∀{rs:FQ} {a b:Sl} {ob:List Tok} {fz:Fz} {nx:Nat},Ch0 N ⟨b,ob,fz,nx⟩ rs→Ch0 N ⟨a,ob,fz,nx⟩ rs
 | [],_,_,_,_,_,_=>trivial
 |r::rs,a,b,ob,fz,nx,c=>⟨c.1,⟨c.2.1.sub,c.2.1.nd,c.2.1.mnd,c.2.1.mlt⟩,AhX (rs:=rs) (b:=Ax.setS N b r.1.dst r.2.v) c.2.2⟩
theorem FP_sub {a b:Sl}{ob:List Tok}{fz:Fz}{nx:Nat}{Q:DJ}{l rest:List Oper}{h:FQ}(p:PS a b)(g:FP ρ P N D0 As η0 m0 Q l rest ⟨b,ob,fz,nx⟩ h):FP ρ P N D0 As η0 m0 Q l rest ⟨a,ob,fz,nx⟩ h:=by
 obtain⟨rs,bad,k,q,ks,h1,h2,h3,h4,h5,h6,h7,h8,hk,h9⟩:=g;refine⟨rs,bad,k,q,ks,h1,AhX h2,fun i r hr hb=> ?_,h4,h5,h6,h7,h8,hk,?_⟩
 ·obtain⟨t1,t2⟩:=h3 i r hr hb;obtain⟨p1,p2⟩:=XR (N:=N) (rs:=rs.take i) (ob:=ob) (fz:=fz) (nx:=nx) p;rw[p2];exact⟨t1,fun rest Q η m f w As hr=>t2 rest Q η m f w As fun t=>(p1.rst _) t η m _ (hr t)⟩
 ·obtain⟨p1,p2⟩:=XR (N:=N) (rs:=rs.take k) (ob:=ob) (fz:=fz) (nx:=nx) p;exact fun η m f w Bs x y y2 z u=>h9 η m f w Bs (fun t=>(p1.rst _) t η m _ (x t)) y y2 z u
def setK (g:Nat)(v:Bool)(cf:Cf):Cf:=⟨⟨(g,.d (.v (.bool v)))::cf.s.sl,cf.s.ob,cf.s.fz,cf.s.nx⟩,cf.md,cf.K⟩
theorem TM {a b:Sl}{ob:List Tok}{fz:Fz}{nx:Nat}(p:PS a b){η:Env}{m:Mem}{f:Fr}{w:World}(g:Gm As ⟨a,ob,fz,nx⟩ η m f w):Gm As ⟨b,ob,fz,nx⟩ η m f w:=
 ⟨fun t=>p t η m _ (g.slr t),g.fz,g.dom,g.st,⟨g.wf.nd,g.wf.lt⟩⟩
theorem AbN {g:Nat}{v:Bool}{cf:Cf}(h:get cf.s.sl g= .d (.t v))(k:Go ρ P N D0 Q As η0 m0 (setK g v cf)):Go ρ P N D0 Q As η0 m0 cf:=by
 obtain⟨⟨sl,ob,fz,nx⟩,md,K⟩:=cf;have p:PS sl ((g,.d (.v (.bool v)))::sl):=fun t η m u r=>by
  show Rel η m (bif Nat.beq g t then _ else get sl t) u;cases hb:Nat.beq g t
  ·exact r
  ·have:=Aku hb; subst this;simp only at h;rw[h]at r;rw[r.t_inv];exact .d (.v _ rfl)
 cases md with
 |code c=>exact fun η m f w a b gm=>k η m f w a b (TM p gm)
 |pop=>exact fun η m f w a b gm=>k η m f w a b (TM p gm)
 |ext id=>exact fun η m f w a b gm=>k η m f w a b (TM p gm)
 |ret=>exact fun η m f w a b gm=>k η m f w a b (TM p gm)
 |ops dr l rest hh=>
  rcases k with k|⟨hd,k⟩|⟨hd,k⟩;rotate_right
  ·exact .inr (.inr ⟨hd,FP_sub p k⟩)
  ·exact .inl (Ah8 (fun a b ob fz nx h p F=>⟨F.1,fun η m f w x y gm=>F.2 η m f w x y (TM p gm)⟩) p k)
  ·exact .inr (.inl ⟨hd,fun η m f w a b gm=>k η m f w a b (TM p gm)⟩)
def atG (g:Nat)(cf:Cf):Bool:=
 match cf.md with
 | .ops _ l (o::_) _=>match o.guard with
  |some (j,_)=>match Yl l.toArray j with
   |some g'=>Nat.beq g' g
   |none=>false
  |none=>false
 |_=>false
def Tg (g:Nat)(P:Program)(N:Nat):Nat→Cf→Cf×Eqs
 |0,cf=>(cf,[])
 |n+1,cf=>bif atG g cf then(cf,[])else match nxt P N cf with
  |some r=>let q:=Tg g P N n r.1; (q.1,r.2++q.2)
  |none=>(cf,[])
theorem Aeo {id:Nat}(hm:P.follows .mixedOrders=true): ∀{n:Nat} {cf:Cf},EqsOk (Tg id P N n cf).2→Go ρ P N D0 Q As η0 m0 (Tg id P N n cf).1→Go ρ P N D0 Q As η0 m0 cf
 |0,_,_,g=>g
 |n+1,cf,he,g=>by
  cases hb:atG id cf with
  |true=>
   have e:Tg id P N (n+1) cf=(cf,[]):=by simp only[Tg,hb,cond_true]
   rw[e]at g; exact g
  |false=>
   cases hr:nxt P N cf with
   |none=>
    have e:Tg id P N (n+1) cf=(cf,[]):=by simp only[Tg,hr,hb,cond_false]
    rw[e]at g; exact g
   |some r=>
    have e:Tg id P N (n+1) cf=((Tg id P N n r.1).1,r.2++(Tg id P N n r.1).2):=by simp only[Tg,hr,hb,cond_false]
    rw[e]at g he;have he':=EqsOk.app.1 he;exact Wm hm hr he'.1 (Aeo hm (n:=n) he'.2 g)
theorem go_spl {g:Nat}(hm:P.follows .mixedOrders=true){n:Nat}{cf:Cf}{b:Bool}(e:(get (Tg g P N n cf).1.s.sl g,((Tg g P N n cf).2).map (·.1))=(.d (.t b),((Tg g P N n cf).2).map (·.2)))
  (h1:b=true→Go ρ P N D0 Q As η0 m0 (setK g true (Tg g P N n cf).1)) (h0:b=false→Go ρ P N D0 Q As η0 m0 (setK g false (Tg g P N n cf).1)):Go ρ P N D0 Q As η0 m0 cf:=by
 simp only[Akt]at e;obtain⟨e1,e3⟩:=e;refine Aeo hm (.of e3) ?_;cases b with
 |true=>exact AbN e1 (h1 rfl)
 |false=>exact AbN e1 (h0 rfl)
def idxVP (P:Program)(cf:Cf):Option (List AV×Int×Nat×Nat×Bool×Bool):=
 match Gt cf with
 |some a=>match a.o.op with
  | .index t x y=>match aev a.sl x,OK a.sl y,P.underlying t with
   | .agg cs,some (_,j),some (.array n e)=>match JK P e with
    |some i=>some (cs,j,n,i.sz,i.agg,i.agg||Nat.beq i.sz 1)
    |none=>none
   |_,_,_=>none
  |_=>none
 |none=>none
theorem gidxV {k:Nat}{ag:Bool}{cf:Cf}{α:Type}{E:α→List D}{j:Int}{x:α}(xs:List α)(hE: ∀x,(E x).length=k)(hq:gOf (aC P N cf)=true→idx xs j=some x)(g:Go ρ P N D0 Q As η0 m0 (CK N (aC P N cf) (pkA ag ((E x).map .d)) []))
  (e:(idxVP P (aC P N cf),(aL P N cf))=(some ((xs.flatMap E).map dv,j,xs.length,k,ag,true),(aR P N cf)):=by kernel_rfl) (hm:P.follows .mixedOrders=true:=by rfl):Go ρ P N D0 Q As η0 m0 cf:=by
 simp only[Akt]at e;obtain⟨e1,e3⟩:=e;obtain⟨he1,he2⟩:=KB e3;refine AP hm he1 ?_;generalize aC P N cf=c0 at*;unfold idxVP at e1;split at e1
 ·rename_i a ha;rw[DD ha]at he2;split at e1
  ·rename_i t x' y hop;split at e1
   ·rename_i cs kk jj n' e' h1 h2 h3;split at e1
    ·rename_i i hi;simp only[Akv,Akt,Alh]at e1;obtain⟨q1,q2,q3,q4,q5,q6⟩:=e1;subst q1 q2 q3 q4 q5;refine DB (rd:=[]) ha he2 ⟨fun _ h=>(by cases h),List.nodup_nil⟩ (fun hp=> ?_) g;have q:=hq (MC ha hp);obtain⟨l,⟨dst,op,ty,pos,af,gd⟩,gg,sl,es⟩:=a;simp only at hop h1 h2⊢; subst hop;refine⟨AkC _,fun rest Q η m f w As hr hz hn S hk=> ?_⟩;have rx:=Am hr x'; rw[h1]at rx;obtain⟨vs,ev_,rl⟩:=rx.agg_inv;letI:=PQ E i.sz;have hrep:GoT.rep m ((vs.drop (jj.toNat*i.sz)).take i.sz) x:=DU.getI (Y0 (FRL.ofRelv rl) fun x _=>hE x) q;have h1':i.agg=false→i.sz=1:=fun e=>by
      rcases q6 with z|z
      ·rw[e]at z; cases z
      ·exact Aku z
     have hr2:=NC q;have hl:((vs.drop (jj.toNat*i.sz)).take i.sz).length=i.sz:=by rw[←hrep.1.1,hE]
     exact AbV ev_ (B6 h2 hr) hr2.1 hr2.2 h3 (KK hi) (Cc hi) rfl hl h1' (hk η m w _ Env.le_refl (Mem.rfl' m) (fun n h=> .inl h) (R4 (.ofD hrep.1) fun e=>by rw[AkW,hE,h1' e]) S)
    ·cases e1
   ·cases e1
  ·cases e1
 ·cases e1
end
section
variable {ρ:Option Nat}{P:Program}{N:Nat}{D0:Dw}{Q:DJ}{As:List Ow}{η0:Env}{m0:Mem}
def AaI (ob:List Tok)(n:Nat):Option (Nat×HK):=match find n ob with|some (i,.hp k q)=>bif Nat.beq k n then some (i,q)else none|_=>none
theorem La {ob:List Tok}{n i:Nat}{q:HK}(h:AaI ob n=some (i,q)):(i,AObj.hp n q)∈ob:=by
 unfold AaI at h;split at h
 ·rename_i i' k q' hf;cases hb:Nat.beq k n
  ·rw[hb]at h; cases h
  ·rw[hb]at h; cases h;have:=Aku hb; subst this;exact FG hf
 ·cases h
theorem St.openHp {η:Env}{m:Mem}{n:Nat}{q:HK}{As:List Ow}{w:World}(h:St m (rep η m (.hp n q)::As) w): ∃b,η n=some (hkV q b)∧St m (hkO q m b::As) w:=by
 obtain⟨x,hx,hr⟩:=h.own;obtain⟨h1,h2,⟨b,hb,ho⟩,s,d,e⟩:=hx;exact⟨b,hb,⟨h.os,h.tape,h.output,x,⟨h1,h2,ho,s,d,e⟩,hr⟩⟩
theorem St.closeHp {η:Env}{m:Mem}{n b:Nat}{q:HK}{As:List Ow}{w:World}(a:η n=some (hkV q b))(h:St m (hkO q m b::As) w):St m (rep η m (.hp n q)::As) w:=
 St.imp0 h fun x hx=>⟨b,a,hx⟩
def mkmK (cf:Cf):Bool:=
 match Gt cf with
 |some a=>match a.g,a.o.op with
  |none,.makeMap _ none=>true
  |_,_=>false
 |none=>false
theorem gmkm {cf:Cf}(g:Go ρ P N D0 Q As η0 m0 (push N (aC P N cf) ⟨.ow (aC P N cf).s.nx,[],[],[((aC P N cf).s.nx,.hp (aC P N cf).s.nx (.mp []))],(aC P N cf).s.nx+1,[]⟩))
  (e:(mkmK (aC P N cf),(aL P N cf))=(true,(aR P N cf)):=by kernel_rfl) (hm:P.follows .mixedOrders=true:=by rfl):Go ρ P N D0 Q As η0 m0 cf:=by
 simp only[Akt]at e;obtain⟨e1,e3⟩:=e;obtain⟨he1,-⟩:=KB e3;refine AP hm he1 ?_;generalize aC P N cf=c0 at*;unfold mkmK at e1;split at e1
 ·rename_i a ha;split at e1
  ·rename_i t hg hop;have hgd:=BG ha hg;refine DC ha hg ?_ Oy g;obtain⟨l,⟨dst,op,ty,pos,af,gd⟩,gg,sl,es⟩:=a;simp only at hop hgd⊢; subst hop hgd;refine⟨Ale _,fun rest Q η m f w As hr hz hn S hk=> ?_⟩;refine Wb S fun b w' S'=> ?_;have h0:=hn c0.s.nx (AkC _) (AkO _);refine hk (η.put c0.s.nx (.map (some b))) m w' _ (Env.le_put h0) (Mem.rfl' m) (fun n q=> ?_) (.ow Env.put_self rfl) (St.closeHp (q:= .mp []) (b:=b) Env.put_self S');rcases Env.put_dom q with q|q
   ·exact .inl q
   ·subst q; exact .inr ⟨AkC _,AkO _⟩
  ·cases e1
 ·cases e1
def Vc (P:Program)(t:TypeId):Option TypeId:=
 match P.underlying t with
 |some (.map k e)=>match P.underlying k,JK P e with
  |some .string,some i=>match i.z with
   |some (.bool false)=>some e
   |_=>none
  |_,_=>none
 |_=>none
theorem TK {t e:TypeId}(h:Vc P t=some e): ∃k,P.underlying t=some (.map k e)∧P.underlying k=some .string∧∀w,(zeroValue e).run P w= .ok (.bool false) w:=by
 unfold Vc at h;split at h
 ·rename_i k e' h1;split at h
  ·rename_i i h2 h3;split at h
   ·rename_i hz; cases h; exact⟨k,h1,h2,O6 h3 hz⟩
   ·cases h
  ·cases h
 ·cases h
def lkK (P:Program)(cf:Cf):Option (List (ByteArray×Bool)×ByteArray×List Tok):=
 match Gt cf with
 |some a=>match a.o.op with
  | .lookup t x y false=>match Vc P t,aev a.sl x,aev a.sl y with
   |some _,.ow n,.d (.s k)=>match AaI cf.s.ob n with
    |some (i,.mp kv)=>some (kv,k,[(i,.hp n (.mp kv))])
    |_=>none
   |_,_,_=>none
  |_=>none
 |none=>none
def lkT (P:Program)(cf:Cf):List Tok:=match lkK P cf with|some (_,_,l)=>l|none=> []
theorem Zf {s:AS}{p:Tok}(h:p∈s.ob):(∀q∈[p],q∈s.ob)∧(tids [p]).Nodup:=⟨fun q hq=>by simp at hq; subst hq; exact h,by simp[tids]⟩
theorem glk {cf:Cf}(kv:List (ByteArray×Bool))(k:ByteArray)(g:Go ρ P N D0 Q As η0 m0 (CK N (aC P N cf) (.d (.t (lkB kv k))) (lkT P (aC P N cf))))
  (e:((lkK P (aC P N cf)).map (fun r=>(r.1,r.2.1)),(aL P N cf))=(some (kv,k),(aR P N cf)):=by kernel_rfl) (hm:P.follows .mixedOrders=true:=by rfl):Go ρ P N D0 Q As η0 m0 cf:=by
 simp only[Akt]at e;obtain⟨e1,e3⟩:=e;obtain⟨he1,he2⟩:=KB e3;refine AP hm he1 ?_;generalize aC P N cf=c0 at*;cases hq:lkK P c0 with
 |none=>rw[hq]at e1; cases e1
 |some r=>
  obtain⟨kv',k',rd⟩:=r;have hT:lkT P c0=rd:=by unfold lkT; rw[hq]
  rw[hT]at g;rw[hq]at e1;simp only[AkL,Akv,Akt]at e1;obtain⟨e4,e5⟩:=e1;subst e4 e5;unfold lkK at hq;split at hq
  ·rename_i a ha;rw[DD ha]at he2;split at hq
   ·rename_i t x y hop;split at hq
    ·rename_i et nn kk ht hx hy;split at hq
     ·rename_i i kv2 hh;simp only[Akv,Akt]at hq;obtain⟨rfl,rfl,rfl⟩:=hq;refine DB ha he2 (Zf (La hh)) (fun hp=> ?_) g;obtain⟨l,⟨dst,op',ty,pos,af,gd⟩,gg,sl,es⟩:=a;simp only at hop hx hy⊢; subst hop;refine⟨AkC _,fun rest Q η m f w As hr hz hn S hk=> ?_⟩;obtain⟨kt,t1,t2,t3⟩:=TK ht;have rx:=Am hr x;rw[hx]at rx;obtain⟨ex,_⟩:=rx.ow_inv;have ry:=Am hr y;rw[hy]at ry;have S0:St m (rep η m (.hp nn (.mp kv2))::As) w:=S;obtain⟨b,hb,S1⟩:=St.openHp S0;rw[ex]at hb;have hxv:ev f x= .map (some b):=Akr hb;exact AbU (i:=0) S1 hxv ry.s_inv rfl t1 t2 t3 (hk η m w _ Env.le_refl (Mem.rfl' m) (fun n h=> .inl h) (.d (.t _)) (St.closeHp (by rw[ex,hxv]; rfl) S1))
     ·cases hq
    ·cases hq
   ·cases hq
  ·cases hq
def lnK (P:Program)(cf:Cf):Option (List (ByteArray×Bool)×List Tok):=
 match Gt cf with
 |some a=>match a.o.op with
  | .call ⟨.builtin .len,⟨[x]⟩,⟨[t]⟩⟩=>match P.underlying t,aev a.sl x with
   |some (.map _ _),.ow n=>match AaI cf.s.ob n with
    |some (i,.mp kv)=>some (kv,[(i,.hp n (.mp kv))])
    |_=>none
   |_,_=>none
  |_=>none
 |none=>none
def lnT (P:Program)(cf:Cf):List Tok:=match lnK P cf with|some (_,l)=>l|none=> []
theorem gln {cf:Cf}(kv:List (ByteArray×Bool))(g:Go ρ P N D0 Q As η0 m0 (CK N (aC P N cf) (.d (.i (kv.length:Int))) (lnT P (aC P N cf))))
  (e:((lnK P (aC P N cf)).map (fun r=>r.1),(aL P N cf))=(some kv,(aR P N cf)):=by kernel_rfl) (hm:P.follows .mixedOrders=true:=by rfl):Go ρ P N D0 Q As η0 m0 cf:=by
 simp only[Akt]at e;obtain⟨e1,e3⟩:=e;obtain⟨he1,he2⟩:=KB e3;refine AP hm he1 ?_;generalize aC P N cf=c0 at*;cases hq:lnK P c0 with
 |none=>rw[hq]at e1; cases e1
 |some r=>
  obtain⟨kv',rd⟩:=r;have hT:lnT P c0=rd:=by unfold lnT; rw[hq]
  rw[hT]at g;rw[hq]at e1;simp only[AkL,Akv]at e1;subst e1;unfold lnK at hq;split at hq
  ·rename_i a ha;rw[DD ha]at he2;split at hq
   ·rename_i x t hop;split at hq
    ·rename_i kt et nn hu hx;split at hq
     ·rename_i i kv2 hh;simp only[Akv,Akt]at hq;obtain⟨rfl,rfl⟩:=hq;refine DB ha he2 (Zf (La hh)) (fun hp=> ?_) g;obtain⟨l,⟨dst,op',ty,pos,af,gd⟩,gg,sl,es⟩:=a;simp only at hop hx⊢; subst hop;refine⟨AkC _,fun rest Q η m f w As hr hz hn S hk=> ?_⟩;have rx:=Am hr x;rw[hx]at rx;obtain⟨ex,_⟩:=rx.ow_inv;have S0:St m (rep η m (.hp nn (.mp kv2))::As) w:=S;obtain⟨b,hb,S1⟩:=St.openHp S0;rw[ex]at hb;have hxv:ev f x= .map (some b):=Akr hb;exact Ae6 (i:=0) S1 hxv rfl hu (hk η m w _ Env.le_refl (Mem.rfl' m) (fun n h=> .inl h) (.d (.i _)) (St.closeHp (by rw[ex,hxv]; rfl) S1))
     ·cases hq
    ·cases hq
   ·cases hq
  ·cases hq
def upK (P:Program)(cf:Cf):Option (List (ByteArray×Bool)×ByteArray×Bool×Nat×Nat):=
 match Gt cf with
 |some a=>match a.g,a.o.op with
  |none,.mapUpdate t x y c=>match Vc P t,aev a.sl x,aev a.sl y,aev a.sl c with
   |some _,.ow n,.d (.s k),.d (.t u)=>match AaI cf.s.ob n with
    |some (i,.mp kv)=>some (kv,k,u,i,n)
    |_=>none
   |_,_,_,_=>none
  |_,_=>none
 |none=>none
def upS (P:Program)(cf:Cf):Stp:=match upK P cf with|some (kv,k,u,i,n)=>⟨.no,[],[(i,.hp n (.mp kv))],[(cf.s.nx,.hp n (.mp (kv++[(k,u)])))],cf.s.nx+1,[]⟩|none=>⟨.any,[],[],[],cf.s.nx,[]⟩
theorem NO {s:AS}{v:AV}{p:Tok}{o:AObj}(h:p∈s.ob):MM s ⟨v,[],[p],[(s.nx,o)],s.nx+1,[]⟩:=
 ⟨fun x hx=>by simp at hx; subst hx; exact h,by simp[tids],by simp[tids],fun t ht=>by simp[tids]at ht; subst ht; exact⟨AkC _,AkO _⟩⟩
theorem gup {cf:Cf}{kv:List (ByteArray×Bool)}{k:ByteArray}(hn:(lkI kv k 0).isNone=true)(g:Go ρ P N D0 Q As η0 m0 (push N (aC P N cf) (upS P (aC P N cf))))
  (e:((upK P (aC P N cf)).map (fun r=>(r.1,r.2.1)),(aL P N cf))=(some (kv,k),(aR P N cf)):=by kernel_rfl) (hm:P.follows .mixedOrders=true:=by rfl):Go ρ P N D0 Q As η0 m0 cf:=by
 simp only[Akt]at e;obtain⟨e1,e3⟩:=e;obtain⟨he1,-⟩:=KB e3;refine AP hm he1 ?_;generalize aC P N cf=c0 at*;cases hq:upK P c0 with
 |none=>rw[hq]at e1; cases e1
 |some r=>
  obtain⟨kv',k',u,i,nn⟩:=r;have hT:upS P c0=⟨.no,[],[(i,.hp nn (.mp kv'))],[(c0.s.nx,.hp nn (.mp (kv'++[(k',u)])))],c0.s.nx+1,[]⟩:=by unfold upS; rw[hq]
  rw[hT]at g;rw[hq]at e1;simp only[AkL,Akv,Akt]at e1;obtain⟨e4,e5⟩:=e1;subst e4 e5;unfold upK at hq;split at hq
  ·rename_i a ha;split at hq
   ·rename_i t x y c hg hop;split at hq
    ·rename_i et n2 kk u2 ht hx hy hc;split at hq
     ·rename_i i2 kv2 hh;simp only[Akv,Akt]at hq;obtain⟨rfl,rfl,rfl,rfl,rfl⟩:=hq;have hgd:=BG ha hg;refine DC ha hg ?_ (NO (La hh)) g;obtain⟨l,⟨dst,op',ty,pos,af,gd⟩,gg,sl,es⟩:=a;simp only at hop hx hy hc hgd⊢; subst hop hgd;refine⟨Ale _,fun rest Q η m f w As hr hz hn' S hk=> ?_⟩;obtain⟨kt,t1,t2,t3⟩:=TK ht;have rx:=Am hr x;rw[hx]at rx;obtain⟨ex,_⟩:=rx.ow_inv;have ry:=Am hr y;rw[hy]at ry;have rc:=Am hr c;rw[hc]at rc;have S0:St m (rep η m (.hp n2 (.mp kv2))::As) w:=S;obtain⟨b,hb,S1⟩:=St.openHp S0;rw[ex]at hb;have hxv:ev f x= .map (some b):=Akr hb;refine AbT (i:=0) S1 hxv ry.s_inv rc.t_inv rfl t1 t2 hn fun w' S'=> ?_;exact hk η m w' _ Env.le_refl (Mem.rfl' m) (fun n h=> .inl h) .no (St.closeHp (q:= .mp (kv2++[(kk,u2)])) (b:=b) (by rw[ex,hxv]; rfl) S')
     ·cases hq
    ·cases hq
   ·cases hq
  ·cases hq
theorem Yb {s:ByteArray}{p:Nat}:Obj.stringIter s p≠dfr:=fun h=>by cases h
def rngK (P:Program)(cf:Cf):Option ByteArray:=
 match Gt cf with
 |some a=>match a.g,a.o.op with
  |none,.range t x=>match WC P t,aev a.sl x with
   |true,.d (.s k)=>some k
   |_,_=>none
  |_,_=>none
 |none=>none
theorem grng {cf:Cf}(k:ByteArray)(g:Go ρ P N D0 Q As η0 m0 (push N (aC P N cf) ⟨.ow (aC P N cf).s.nx,[],[],[((aC P N cf).s.nx,.hp (aC P N cf).s.nx (.it k 0))],(aC P N cf).s.nx+1,[]⟩))
  (e:(rngK P (aC P N cf),(aL P N cf))=(some k,(aR P N cf)):=by kernel_rfl) (hm:P.follows .mixedOrders=true:=by rfl):Go ρ P N D0 Q As η0 m0 cf:=by
 simp only[Akt]at e;obtain⟨e1,e3⟩:=e;obtain⟨he1,-⟩:=KB e3;refine AP hm he1 ?_;generalize aC P N cf=c0 at*;unfold rngK at e1;split at e1
 ·rename_i a ha;split at e1
  ·rename_i t x hg hop;split at e1
   ·rename_i k' hs hx;cases e1;have hgd:=BG ha hg;refine DC ha hg ?_ Oy g;obtain⟨l,⟨dst,op,ty,pos,af,gd⟩,gg,sl,es⟩:=a;simp only at hop hgd hx⊢; subst hop hgd;refine⟨Ale _,fun rest Q η m f w As hr hz hn S hk=> ?_⟩;have rx:=Am hr x;rw[hx]at rx;have hxv:=rx.s_inv;have S1:=(S.push (.stringIter k 0) Yb).imp0 (B:=hkO (.it k 0) m w.heap.size) fun h hh=>hh;have h0:=hn c0.s.nx (AkC _) (AkO _);refine Aq (v:=pt w.heap.size 0) (w':=w.alloc (.stringIter k 0)) rfl (fun _ e=>by cases e) ?_ ?_ (Kd.push _ _)
    ·simp only[execOp,Instr.range,hxv,AkD (Ml hs),newObj,AkJ,AkF,Sem.run,AkK];rfl
    ·refine hk (η.put c0.s.nx (pt w.heap.size 0)) m _ _ (Env.le_put h0) (Mem.rfl' m) (fun n q=> ?_) (.ow Env.put_self rfl) (St.closeHp (q:= .it k 0) (b:=w.heap.size) Env.put_self S1);rcases Env.put_dom q with q|q
     ·exact .inl q
     ·subst q; exact .inr ⟨AkC _,AkO _⟩
   ·cases e1
  ·cases e1
 ·cases e1
theorem St.iter {m:Mem}{As:List Ow}{w:World}{b:Nat}{s:ByteArray}{pos:Nat}(hS:St m (hkO (.it s pos) m b::As) w):w.heap[b]? =some (.stringIter s pos)∧
  ∀pos',St m (hkO (.it s pos') m b::As) {w with heap:=w.heap.setIfInBounds b (.stringIter s pos')}:=by
 obtain⟨h1,rfl,hg,_,back⟩:=hS.take (i:=0) rfl;have hb:=PH.agree_one.1 hg;have hlt:=(AkM.1 hb).1;refine⟨hb,fun pos'=> ?_⟩;refine back (hkO (.it s pos') m b) (PH.one b (.stringIter s pos')) _ rfl ?_ ?_ ?_ rfl rfl rfl (fun _=> .one Yb)
 ·intro k hk; left; simp only[PH.one]at hk⊢;split at hk
  ·rename_i e; simp[e]
  ·exact absurd rfl hk
 ·rw[PH.agree_one]; simp[hlt]
 ·intro k _ hk; simp only[PH.one]at hk;split at hk
  ·cases hk
  ·rename_i e; rw[Array.getElem?_setIfInBounds_ne (by omega)]
theorem AfG (w:World)(k:Nat)(s:ByteArray)(pos:Nat)(ty:TypeId)(hk:w.heap[k]? =some (.stringIter s pos))(h:pos<s.size):
  (Instr.next (.pointer (some ⟨k,0,none⟩)) true ty).run P w= .ok (.tuple #[.bool true,.int .i64 pos,.int .i32 (Utf8.decode s pos).1]) {w with heap:=w.heap.setIfInBounds k (.stringIter s (pos+(Utf8.decode s pos).2))}:=by
 simp only[Instr.next,getObj,setObj,AkJ,Sem.run,hk,Result.andThen,h,if_true];simp[goInt]
theorem AfF (w:World)(k:Nat)(s:ByteArray)(pos:Nat)(ty:TypeId)(hk:w.heap[k]? =some (.stringIter s pos))(h: ¬pos<s.size):
  (Instr.next (.pointer (some ⟨k,0,none⟩)) true ty).run P w= .ok (.tuple #[.bool false]) w:=by
 simp[Instr.next,getObj,Sem.run,hk,h]
def nxK (cf:Cf):Option (ByteArray×Nat×Nat×Nat):=
 match Gt cf with
 |some a=>match a.g,a.o.op with
  |none,.next x true=>match aev a.sl x with
   | .ow n=>match AaI cf.s.ob n with
    |some (i,.it s pos)=>some (s,pos,i,n)
    |_=>none
   |_=>none
  |_,_=>none
 |none=>none
def nxS (cf:Cf):Stp:=match nxK cf with|some (s,pos,i,n)=>⟨.tup [.d (.t true),.d (.i (pos:Int)),.d (.r ((Utf8.decode s pos).1:Int))],[],[(i,.hp n (.it s pos))],[(cf.s.nx,.hp n (.it s (pos+(Utf8.decode s pos).2)))],cf.s.nx+1,[]⟩|none=>⟨.any,[],[],[],cf.s.nx,[]⟩
def nxE (cf:Cf):Stp:=match nxK cf with|some (s,pos,i,n)=>⟨.tup [.d (.t false)],[(i,.hp n (.it s pos))],[],[],cf.s.nx,[]⟩|none=>⟨.any,[],[],[],cf.s.nx,[]⟩
theorem go_nx (hm:P.follows .mixedOrders=true){n:Nat}{cf:Cf}{s:ByteArray}{pos:Nat}
  (e:((nxK (adv P N n cf).1).map (fun r=>(r.1,r.2.1)),((adv P N n cf).2++PF (adv P N n cf).1).map (·.1))=(some (s,pos),((adv P N n cf).2++PF (adv P N n cf).1).map (·.2)))
  (g1:pos<s.size→Go ρ P N D0 Q As η0 m0 (push N (adv P N n cf).1 (nxS (adv P N n cf).1))) (g2: ¬pos<s.size→Go ρ P N D0 Q As η0 m0 (push N (adv P N n cf).1 (nxE (adv P N n cf).1))):Go ρ P N D0 Q As η0 m0 cf:=by
 simp only[Akt]at e;obtain⟨e1,e3⟩:=e;obtain⟨he1,-⟩:=EqsOk.two e3;refine MD hm he1 ?_;generalize (adv P N n cf).1=c0 at*;cases hq:nxK c0 with
 |none=>rw[hq]at e1; cases e1
 |some r=>
  obtain⟨s',pos',i,nn⟩:=r;have hT:nxS c0=⟨.tup [.d (.t true),.d (.i (pos':Int)),.d (.r ((Utf8.decode s' pos').1:Int))],[],[(i,.hp nn (.it s' pos'))],[(c0.s.nx,.hp nn (.it s' (pos'+(Utf8.decode s' pos').2)))],c0.s.nx+1,[]⟩:=by unfold nxS; rw[hq]
  have hT2:nxE c0=⟨.tup [.d (.t false)],[(i,.hp nn (.it s' pos'))],[],[],c0.s.nx,[]⟩:=by unfold nxE; rw[hq]
  rw[hT]at g1;rw[hT2]at g2;rw[hq]at e1;simp only[AkL,Akv,Akt]at e1;obtain⟨e4,e5⟩:=e1;subst e4 e5;unfold nxK at hq;split at hq
  ·rename_i a ha;split at hq
   ·rename_i x hg hop;split at hq
    ·rename_i n2 hx;split at hq
     ·rename_i i2 s2 p2 hh;simp only[Akv,Akt]at hq;obtain⟨rfl,rfl,rfl,rfl⟩:=hq;have hgd:=BG ha hg;by_cases hlt:p2<s2.size
      ·refine DC ha hg ?_ (NO (La hh)) (g1 hlt);obtain⟨l,⟨dst,op',ty,ps,af,gd⟩,gg,sl,es⟩:=a;simp only at hop hx hgd⊢; subst hop hgd;refine⟨Ale _,fun rest Q η m f w As hr hz hn' S hk=> ?_⟩;have rx:=Am hr x;rw[hx]at rx;obtain⟨ex,_⟩:=rx.ow_inv;have S0:St m (rep η m (.hp n2 (.it s2 p2))::As) w:=S;obtain⟨b,hb,S1⟩:=St.openHp S0;rw[ex]at hb;have hxv:ev f x=pt b 0:=Akr hb;obtain⟨hbb,S2⟩:=St.iter S1;refine Aq (v:= .tuple #[.bool true,.int .i64 p2,.int .i32 (Utf8.decode s2 p2).1]) (w':={w with heap:=w.heap.setIfInBounds b (.stringIter s2 (p2+(Utf8.decode s2 p2).2))}) rfl (fun _ e=>by cases e) ?_ ?_ (Kd.set hbb Yb rfl)
       ·simp only[execOp,hxv];rw[AkJ,AfG w b s2 p2 _ hbb hlt];rfl
       ·refine hk η m _ _ Env.le_refl (Mem.rfl' m) (fun n h=> .inl h) ?_ (St.closeHp (q:= .it s2 (p2+(Utf8.decode s2 p2).2)) (b:=b) (by rw[ex,hxv]; rfl) (S2 _));have h:BP η m [.d (.t true),.d (.i (p2:Int)),.d (.r ((Utf8.decode s2 p2).1:Int))] [vb true,vI (p2:Int),vR ((Utf8.decode s2 p2).1:Int)]:=BP.cons (.d (.t _)) (BP.cons (.d (.i _)) (BP.cons (.d (.r _)) BP.nil));exact .tup h.1 h.2
      ·refine DC ha hg ?_ (UY (La hh)) (g2 hlt);obtain⟨l,⟨dst,op',ty,ps,af,gd⟩,gg,sl,es⟩:=a;simp only at hop hx hgd⊢; subst hop hgd;refine⟨AkC _,fun rest Q η m f w As hr hz hn' S hk=> ?_⟩;have rx:=Am hr x;rw[hx]at rx;obtain⟨ex,_⟩:=rx.ow_inv;have S0:St m (rep η m (.hp n2 (.it s2 p2))::As) w:=S;obtain⟨b,hb,S1⟩:=St.openHp S0;rw[ex]at hb;have hxv:ev f x=pt b 0:=Akr hb;obtain⟨hbb,S2⟩:=St.iter S1;refine Aq (v:= .tuple #[.bool false]) (w':=w) rfl (fun _ e=>by cases e) ?_ ?_
       ·simp only[execOp,hxv];rw[AkJ,AfF w b s2 p2 _ hbb hlt];rfl
       ·refine hk η m _ _ Env.le_refl (Mem.rfl' m) (fun n h=> .inl h) ?_ S;have h:BP η m [.d (.t false)] [vb false]:=BP.cons (.d (.t _)) BP.nil;exact .tup h.1 h.2
     ·cases hq
    ·cases hq
   ·cases hq
  ·cases hq
def WX (s:ByteArray)(lo hi:Int):Option ByteArray:=if 0≤lo∧lo≤hi∧hi≤(s.size:Int)then some (s.extract lo.toNat hi.toNat)else none
def Aj2 (P:Program)(cf:Cf):Option (ByteArray×Int×Int):=
 match Gt cf with
 |some a=>match a.o.op with
  | .slice t x lo hi none=>match WC P t,aev a.sl x with
   |true,.d (.s s)=>
    let l:Option Int:=match lo with|none=>some 0|some o=>(OK a.sl o).map (·.2)
    let h:Option Int:=match hi with|none=>some (s.size:Int)|some o=>(OK a.sl o).map (·.2)
    match l,h with
    |some l,some h=>some (s,l,h)
    |_,_=>none
   |_,_=>none
  |_=>none
 |none=>none
theorem Ae9 {t:TypeId}{s z:ByteArray}{lo hi:Option Value}{l h:Int}{w:World}(hu:P.underlying t=some .string)
  (hlo:(lo=none∧l=0)∨∃k,lo=some (.int k l)) (hhi:(hi=none∧h=(s.size:Int))∨∃k,hi=some (.int k h)) (hq:WX s l h=some z):
  (Instr.slice t (.string s) lo hi none).run P w= .ok (.string z) w:=by
 unfold WX at hq;split at hq
 ·rename_i hc;obtain⟨h1,h2,h3⟩:=hc;cases hq;have hl0:l≤(h.toNat:Int):=by omega
  have hs0:h≤(s.size:Int):=h3;have hh0:0≤h:=by omega
  rcases hlo with ⟨rfl,rfl⟩|⟨k,rfl⟩<;>rcases hhi with ⟨rfl,rfl⟩|⟨k',rfl⟩
  ·simp[Instr.slice,Instr.sliceBounds,Instr.sliceBound,AkD hu,AkJ]
  ·simp[Instr.slice,Instr.sliceBounds,Instr.sliceBound,AkD hu,AkJ,asIntOf,hh0,hs0]
  ·simp[Instr.slice,Instr.sliceBounds,Instr.sliceBound,AkD hu,AkJ,asIntOf,h1,h2]
  ·simp[Instr.slice,Instr.sliceBounds,Instr.sliceBound,AkD hu,AkJ,asIntOf,hh0,hs0,h1,hl0];intro hc; omega
 ·cases hq
theorem WM {cf:Cf}{s z:ByteArray}{lo hi:Int}(hq:gOf (aC P N cf)=true→WX s lo hi=some z)(g:Go ρ P N D0 Q As η0 m0 (CK N (aC P N cf) (.d (.s z)) []))
  (e:(Aj2 P (aC P N cf),(aL P N cf))=(some (s,lo,hi),(aR P N cf)):=by kernel_rfl) (hm:P.follows .mixedOrders=true:=by rfl):Go ρ P N D0 Q As η0 m0 cf:=by
 simp only[Akt]at e;obtain⟨e1,e3⟩:=e;obtain⟨he1,he2⟩:=KB e3;refine AP hm he1 ?_;generalize aC P N cf=c0 at*;unfold Aj2 at e1;split at e1
 ·rename_i a ha;rw[DD ha]at he2;split at e1
  ·rename_i t x lo' hi' hop;split at e1
   ·rename_i s0 hs hx;simp only at e1;split at e1
    ·rename_i l h hl hh;simp only[Akv,Akt]at e1;obtain⟨rfl,rfl,rfl⟩:=e1;refine DB (rd:=[]) ha he2 Ob (fun hp=> ?_) g;have q:=hq (MC ha hp);obtain⟨ll,⟨dst,op',ty,pos,af,gd⟩,gg,sl,es⟩:=a;simp only at hop hx hl hh⊢; subst hop;refine⟨AkC _,fun rest Q η m f w As hr hz hn S hk=> ?_⟩;have rx:=Am hr x;rw[hx]at rx;have hxv:ev f x=vS s0:=rx.s_inv;refine Aq (v:=vS z) (w':=w) rfl (fun _ e=>by cases e) ?_ (hk η m w _ Env.le_refl (Mem.rfl' m) (fun n h=> .inl h) (.d (.s z)) S);have key:(Instr.slice t (.string s0) (lo'.map (ev f)) (hi'.map (ev f)) none).run P w= .ok (.string z) w:=by
      refine Ae9 (Ml hs) ?_ ?_ q
      · cases lo' with
       |none=>simp only[Akv]at hl; exact .inl ⟨rfl,hl.symm⟩
       |some o=>
         simp only[Akx]at hl;obtain⟨⟨kk,jj⟩,hj,rfl⟩:=hl;exact .inr ⟨kk,by simp only[AkL]; rw[B6 hj hr]⟩
      · cases hi' with
        |none=>simp only[Akv]at hh; exact .inl ⟨rfl,hh.symm⟩
        |some o=>
          simp only[Akx]at hh;obtain⟨⟨kk,jj⟩,hj,rfl⟩:=hh;exact .inr ⟨kk,by simp only[AkL]; rw[B6 hj hr]⟩
     simp[execOp,hxv,Instr.sliceAt,AkD (Ml hs),key]
    ·cases e1
   ·cases e1
  ·cases e1
 ·cases e1
def AeV:Operand→Option (List D)
 | .global g=>Af8 GT g
 |_=>none
theorem YM {x:Operand}{ds:List D}(h:AeV x=some ds){m:Mem}{As:List Ow}{w:World}(S:St m As w){f:Fr}: ∃cs,PtC m (ev f x) cs∧FRL m ds cs:=by
 unfold AeV at h;split at h
 ·rename_i g;obtain⟨vs,h1,h2⟩:=gt_ok h;obtain⟨l,e,fr,hb,hc,_⟩:=S.tape.2.1 _ h1;exact⟨vs,⟨g,0,l,e,fr,rfl,hb,fun i x hx=>by rw[Ak9]; exact hc i x hx⟩,h2 m⟩
 ·cases h
def slGK (P:Program)(cf:Cf):Option (List D×Nat×Nat×Bool):=
 match Gt cf with
 |some a=>match a.o.op with
  | .slice t x none none none=>match AeV x,P.underlying t with
   |some ds,some (.array n e)=>match JK P e with
    |some i=>some (ds,i.sz,n,Nat.ble n 1000000)
    |none=>none
   |_,_=>none
  |_=>none
 |none=>none
theorem gslG {k:Nat}{cf:Cf}{α:Type}{E:α→List D}(xs:List α)(hE: ∀x,(E x).length=k)(g:Go ρ P N D0 Q As η0 m0 (CK N (aC P N cf) (.d (.sl α E xs)) []))
  (e:(slGK P (aC P N cf),(aL P N cf))=(some (xs.flatMap E,k,xs.length,true),(aR P N cf)):=by kernel_rfl) (hm:P.follows .mixedOrders=true:=by rfl):Go ρ P N D0 Q As η0 m0 cf:=by
 simp only[Akt]at e;obtain⟨e1,e3⟩:=e;obtain⟨he1,he2⟩:=KB e3;refine AP hm he1 ?_;generalize aC P N cf=c0 at*;unfold slGK at e1;split at e1
 ·rename_i a ha;rw[DD ha]at he2;split at e1
  ·rename_i t x hop;split at e1
   ·rename_i ds nn ee hx hu;split at e1
    ·rename_i i hi;simp only[Akv,Akt]at e1;obtain⟨rfl,hk,rfl,hle⟩:=e1;refine DB (rd:=[]) ha he2 Ob (fun hp=> ?_) g;obtain⟨ll,⟨dst,op',ty,pos,af,gd⟩,gg,sl,es⟩:=a;simp only at hop⊢; subst hop;refine⟨AkC _,fun rest Q η m f w As hr hz hn S hk'=> ?_⟩;obtain⟨cs,hp1,hp2⟩:=YM hx S (f:=f);letI:=PQ E k;have hle:=AkG hle;refine YX (α:=α) (cs:=cs) (ds:=[]) (xs:=xs) rfl (by rw[AkX]; exact hp1) (Y0 hp2 fun x _=>hE x) rfl (by omega) hu (fun w=>by have:=Cc hi w; rw[hk]at this; exact this) fun u hu'=> ?_;exact hk' η m w u Env.le_refl (Mem.rfl' m) (fun n h=> .inl h) (.d (V3 hu')) S
    ·cases e1
   ·cases e1
  ·cases e1
 ·cases e1
def idGK (P:Program)(cf:Cf):Option (List D×Int×Nat×Nat):=
 match Gt cf with
 |some a=>match a.o.op with
  | .indexAddr t x y=>match AeV x,P.underlying t,OK a.sl y with
   |some ds,some (.array n e),some (_,j)=>match JK P e with
    |some i=>some (ds,j,i.sz,n)
    |none=>none
   |_,_,_=>none
  |_=>none
 |none=>none
theorem gidG {k:Nat}{cf:Cf}{α:Type}{E:α→List D}{j:Int}{z:α}(xs:List α)(hE: ∀x,(E x).length=k)(hq:gOf (aC P N cf)=true→idx xs j=some z)(g:Go ρ P N D0 Q As η0 m0 (CK N (aC P N cf) (.d (.pf (E z))) []))
  (e:(idGK P (aC P N cf),(aL P N cf))=(some (xs.flatMap E,j,k,xs.length),(aR P N cf)):=by kernel_rfl) (hm:P.follows .mixedOrders=true:=by rfl):Go ρ P N D0 Q As η0 m0 cf:=by
 simp only[Akt]at e;obtain⟨e1,e3⟩:=e;obtain⟨he1,he2⟩:=KB e3;refine AP hm he1 ?_;generalize aC P N cf=c0 at*;unfold idGK at e1;split at e1
 ·rename_i a ha;rw[DD ha]at he2;split at e1
  ·rename_i t x y hop;split at e1
   ·rename_i ds nn ee kk jj hx hu hj;split at e1
    ·rename_i i hi;simp only[Akv,Akt]at e1;obtain⟨rfl,rfl,hk,rfl⟩:=e1;refine DB (rd:=[]) ha he2 Ob (fun hp=> ?_) g;have q:=hq (MC ha hp);obtain⟨ll,⟨dst,op',ty,pos,af,gd⟩,gg,sl,es⟩:=a;simp only at hop hj⊢; subst hop;refine⟨AkC _,fun rest Q η m f w As hr hz hn S hk'=> ?_⟩;obtain⟨cs,hp1,hp2⟩:=YM hx S (f:=f);letI:=PQ E k;have hrep:GoT.rep m ((cs.drop (jj.toNat*k)).take k) z:=DU.getI (Y0 hp2 fun x _=>hE x) q;obtain⟨q1,q2⟩:=BY q;have hlt:jj.toNat<xs.length:=(AkR.1 q2).1;refine AbW (sz:=k) rfl (B6 hj hr) hp1 hu (fun w=>by have:=Cc hi w; rw[hk]at this; exact this) q1 (by omega) fun p hp=> ?_;obtain⟨b,off,l,e',fr,rfl,hb,hc⟩:=hp;refine hk' η m w _ Env.le_refl (Mem.rfl' m) (fun n h=> .inl h) (.d (.pf ⟨b,off,l,e',fr,rfl,hb,fun i x hx=>hc i x ?_⟩ rfl hrep.1.1 hrep.1.2)) S;rw[List.getElem?_take]at hx;split at hx
     ·exact hx
     ·cases hx
    ·cases e1
   ·cases e1
  ·cases e1
 ·cases e1
def dynP (cf:Cf):Option (Value×List AV):=
 match Gt cf with
 |some a=>match a.o.op with
  | .call c=>match c.callee with
   | .value (.tmp t)=>match get a.sl t with
    | .d (.v x)=>some (x,c.args.toList.map (aev a.sl))
    |_=>none
   |_=>none
  |_=>none
 |none=>none
theorem gdyn {cf:Cf}{x:Int}{ea:List AV}{r:AV}(hs:gOf (aC P N cf)=true→∃k:Nat,x=(k:Int)∧Sf P k ea r)(g:Go ρ P N D0 Q As η0 m0 (Pb N (aC P N cf) r))
  (e:((dynP (aC P N cf)).map (fun p=>(p.1,Ah9 (aC P N cf).s.fz ea p.2)),ea.all (okA 0),(aL P N cf))=(some (fnV x,ea),true,(aR P N cf)):=by kernel_rfl) (hm:P.follows .mixedOrders=true:=by rfl):Go ρ P N D0 Q As η0 m0 cf:=by
 simp only[Akt]at e;obtain⟨e1,e2,e3⟩:=e;obtain⟨he1,he2⟩:=KB e3;refine AP hm he1 ?_;generalize aC P N cf=c0 at*;cases hq:dynP c0 with
 |none=>rw[hq]at e1; cases e1
 |some p=>
  rw[hq]at e1;simp only[AkL,Akv,Akt]at e1;obtain⟨e4,e5⟩:=e1;unfold dynP at hq;split at hq
  ·rename_i a ha;have hes:PF c0=a.es:=by unfold PF; rw[ha]
   rw[hes]at he2;refine AhF ha he2 (fun hp=> ?_) g;have hg:gOf c0=true:=by
    unfold gOf; rw[ha];obtain⟨l,o,gg,sl,es⟩:=a;cases gg with
    |none=>rfl
    |some q=>exact hp q rfl
   obtain⟨k,hxk,hS⟩:=hs hg;obtain⟨l,⟨dst,op,ty,pos,af,gd⟩,gg,sl,es⟩:=a;simp only at hq⊢;split at hq
   ·rename_i c;obtain⟨ce,xs,ts⟩:=c;obtain⟨xs⟩:=xs;simp only at hq;split at hq
    ·rename_i t;split at hq
     ·rename_i v hv;cases hq;simp only at e4 e5;subst e4;refine⟨AkC _,fun rest Q η m f w As hr hz hn St0 hk=> ?_⟩;have rt:=hr t;rw[hv,hxk]at rt;have hval:f t= .func (.func k) #[] #[]:=by
       have:=rt.dd;generalize f t=u at this;cases this; rfl
      have ra:=BP.map_aev hr xs;refine UJ (x:= .tmp t) (g:= .func (.func k) #[] #[]) (R:=fun v w'=> ∃(M:Mem) (η':Env) (r':AV) (obs':List AObj) (n1:Nat),m≤M∧none0.le η'∧is r [] 0 r' obs' n1∧(∀n,η' n≠none→n<n1)∧Rel η' M r' v∧St M (obs'.map (rep η' M)++As) w') hval (Qt.clo (pre:=[]) (caps:=[]) hS.1 rfl (by
       simp only[Ak2,AkX];refine hS.2 none0 m As w _ ?_ (fun n h=>absurd rfl h) St0;have h1:=ON (es:=ea) hz ra;exact P8 (η:=η) (n:=0) (fun k h=>absurd h (by omega)) e2 (by rw[e5]at h1; exact h1))) rfl ?_
      rintro v w2 ⟨M,η',r',obs',n1,hle,_,⟨rfl,rfl,rfl⟩,hdom,hR,S⟩;have hη:η'.le η:=fun n u h=>by have:=hdom n (by rw[h]; simp); omega
      exact hk η M w2 v Env.le_refl hle (fun n h=> .inl h) (hR.up hη (Mem.rfl' M)) S
     ·cases hq
    ·cases hq
   ·cases hq
  ·cases hq
def X4 (s:AS)(t j:Nat):Option (Nat×Nat×List AV×TypeId):=
 match get s.sl t with
 | .pb n 0=>match find n s.ob with
  |some (i,.box k cs ty)=>match cs[j]? with
   |some a=>bif Nat.beq k n&&QO a then some (i,n,cs,ty)else none
   |none=>none
  |_=>none
 |_=>none
def M9 (i:Nat)(o:AObj)(ob:List Tok):List Tok:=ob.map fun p=>bif Nat.beq p.1 i then(i,o)else p
def AcR (s:AS)(t j sz:Nat)(α:Type)(E:α→List D):AS:=match X4 s t j with|some (i,n,cs,ty)=>⟨s.sl,M9 i (.box n (cs.set j (.ow s.nx)) ty) s.ob++[(s.nx,.row s.nx sz α E [])],s.fz,s.nx+1⟩|none=>s
theorem Oo {i:Nat}{o:AObj}: ∀{ob:List Tok},tids (M9 i o ob)=tids ob
 | []=>rfl
 |p::l=>by
  show(bif Nat.beq p.1 i then(i,o)else p).1::tids (M9 i o l)=p.1::tids l;rw[Oo];cases hb:Nat.beq p.1 i
  ·rfl
  ·have:=Aku hb; simp[this]
theorem Oq {i:Nat}{o:AObj}: ∀{ob:List Tok},i∉tids ob→M9 i o ob=ob
 | [],_=>rfl
 |p::l,h=>by
  have h1:p.1≠i:=fun e=>h (by rw[←e]; exact AkN);have h2:i∉tids l:=fun e=>h (AkT _ e);show(bif Nat.beq p.1 i then(i,o)else p)::M9 i o l=p::l;rw[Oq h2];cases hb:Nat.beq p.1 i
  ·rfl
  ·exact absurd (Aku hb) h1
theorem AbM {i:Nat}{o q:AObj}{ob:List Tok}(hn:(tids ob).Nodup)(h:(i,q)∈ob): ∃l1 l2,ob=l1++(i,q)::l2∧M9 i o ob=l1++(i,o)::l2:=by
 obtain⟨l1,l2,rfl⟩:=List.append_of_mem h;refine⟨l1,l2,rfl,?_⟩;have hn':(tids l1++i::tids l2).Nodup:=by simpa[tids]using hn
 obtain⟨n1,n2,n3⟩:=List.nodup_append.1 hn';have a1:i∉tids l1:=fun e=>n3 i e i AkN rfl;have a2:i∉tids l2:=(List.nodup_cons.1 n2).1;have e1:=Oq (o:=o) a1;have e2:=Oq (o:=o) a2;unfold M9 at*;rw[Ak3,AkZ,e1,e2];simp
theorem Ajb {s:AS}{η:Env}{m:Mem}{f:Fr}{w:World}{t j sz:Nat}{α:Type}{E:α→List D}(h:(X4 s t j).isSome=true)(g:Gm As s η m f w):
  ∃η',η.le η'∧Gm As (AcR s t j sz α E) η' m f w:=by
 cases hk:X4 s t j with
 |none=>rw[hk]at h; cases h
 |some r=>
  obtain⟨i,n,cs,ty⟩:=r;have hS:AcR s t j sz α E=⟨s.sl,M9 i (.box n (cs.set j (.ow s.nx)) ty) s.ob++[(s.nx,.row s.nx sz α E [])],s.fz,s.nx+1⟩:=by unfold AcR; rw[hk]
  rw[hS];unfold X4 at hk;split at hk
  ·rename_i n' hsl;split at hk
   ·rename_i i' k' cs' ty' hf;split at hk
    ·rename_i a ha;cases hb:Nat.beq k' n'&&QO a
     ·rw[hb]at hk; cases hk
     ·rw[hb]at hk;simp only[cond_true,Akv,Akt]at hk;obtain⟨rfl,rfl,rfl,rfl⟩:=hk;simp only[Aks]at hb;have hkn:=Aku hb.1;subst hkn;have h0:η s.nx=none:=by
       cases q:η s.nx with
       |none=>rfl
       |some v=>have:=g.dom s.nx (by rw[q]; simp); omega
      have le:=Env.le_put (v:= .slice none 0 0) h0;obtain⟨l1,l2,e1,e2⟩:=AbM (o:= .box k' (cs'.set j (.ow s.nx)) ty') g.wf.nd (FG hf);refine⟨η.put s.nx (.slice none 0 0),le,fun u=>(g.slr u).up le (Mem.rfl' m),g.fz.up le (Mem.rfl' m),fun x hx=> ?_,?_,?_,fun x hx=> ?_⟩
      ·rcases Env.put_dom hx with q|q
       ·exact Nat.lt_succ_of_lt (g.dom x q)
       ·subst q; exact AkO _
      ·have S0:=St.ru le (Mem.rfl' m) g.st;rw[e1]at S0;have S1:=St.rp S0 (Alj (a:=(i',AObj.box k' cs' ty')) (l₁:=l1) (l₂:=l2));have S2:St m (rep (η.put s.nx (.slice none 0 0)) m (.box k' (cs'.set j (.ow s.nx)) ty')::(reps (η.put s.nx (.slice none 0 0)) m (l1++l2)++As)) w:=by
        refine St.imp0 S1 fun x hx=> ?_;obtain⟨b,vs,q1,q2,q3,q4⟩:=hx;refine⟨b,vs,q1,⟨by rw[List.length_set]; exact q2.1,fun k c u hc hu=> ?_⟩,q3,q4⟩;rw[List.getElem?_set]at hc;split at hc
        ·rename_i e; subst e;split at hc
         ·cases hc;have hr:=q2.2 _ a u ha hu;have hu0:u= .slice none 0 0:=by
           have hb2:=hb.2;unfold QO at hb2;split at hb2
           ·have:=hr.dd; cases this; rfl
           ·cases hb2
          rw[hu0]; exact .ow Env.put_self rfl
         ·cases hc
        ·exact q2.2 k c u hc hu
       have T:=St.closeRow (η:=η.put s.nx (.slice none 0 0)) (n:=s.nx) (E:=E) (xs:=[]) Env.put_self rfl (by simpa using FRL.nil) (fun _ h=>by cases h) (St.rowNil S2 sz);show St m (reps _ m (M9 i' _ s.ob++[_])++As) w;rw[e2,AU,Akw];have T2:St m (rep (η.put s.nx (.slice none 0 0)) m (.row s.nx sz α E [])::(reps (η.put s.nx (.slice none 0 0)) m (l1++(i',.box k' (cs'.set j (.ow s.nx)) ty')::l2)++As)) w:=by
        refine T.perm (List.Perm.cons _ ?_);rw[AU,AU,Ab5,Akw,Akw];exact List.perm_middle.symm
       exact T2.perm (List.perm_middle.symm)
      ·show(tids (M9 i' _ s.ob++[_])).Nodup;simp only[tids,Ak3,AkZ,List.map_nil];have e3:=Oo (i:=i') (o:= .box k' (cs'.set j (.ow s.nx)) ty') (ob:=s.ob);unfold tids at e3;rw[e3];refine List.nodup_append.2 ⟨g.wf.nd,by simp,fun a ha b hb e=> ?_⟩;simp at hb;have:=g.wf.lt a ha;omega
      ·have hx':x∈tids (M9 i' (.box k' (cs'.set j (.ow s.nx)) ty') s.ob++[(s.nx,AObj.row s.nx sz α E [])]):=hx;unfold tids at hx';rw[Ak3,AkS]at hx';have e3:=Oo (i:=i') (o:= .box k' (cs'.set j (.ow s.nx)) ty') (ob:=s.ob);unfold tids at e3;rcases hx' with q|q
       ·rw[e3]at q; exact Nat.lt_succ_of_lt (g.wf.lt x q)
       ·simp at q; subst q; exact AkO _
    ·cases hk
   ·cases hk
  ·cases hk
def Ajc (cf:Cf)(t j sz:Nat)(α:Type)(E:α→List D):Cf:=⟨AcR cf.s t j sz α E,cf.md,cf.K⟩
theorem AcQ {cf:Cf}{t j sz:Nat}{α:Type}{E:α→List D}(hp:P7 cf=true)(h:(X4 cf.s t j).isSome=true)(g:Go ρ P N D0 Q As η0 m0 (Ajc cf t j sz α E)):Go ρ P N D0 Q As η0 m0 cf:=by
 obtain⟨s,md,K⟩:=cf;have key: ∀{R:Fr→World→Prop},Al As η0 m0 (AcR s t j sz α E) R→Al As η0 m0 s R:=fun k η m f w a1 a2 gm=>
  let ⟨η',le,gm'⟩:=Ajb h gm; k η' m f w (Env.le_tr a1 le) a2 gm'
 cases md with
 |ops=>cases hp
 |code c=>exact key g
 |pop=>exact key g
 |ext id=>exact key g
 |ret=>exact key g
theorem AjJ {cf:Cf}{α:Type}(E:α→List D)(t j sz:Nat)(g:Go ρ P N D0 Q As η0 m0 (Ajc (aC P N cf) t j sz α E))
  (e:(P7 (aC P N cf),(X4 (aC P N cf).s t j).isSome,(bL P N cf))=(true,true,(bR P N cf)):=by kernel_rfl) (hm:P.follows .mixedOrders=true:=by rfl):Go ρ P N D0 Q As η0 m0 cf:=by
 simp only[Akt]at e;exact AP hm (.of e.2.2) (AcQ e.1 e.2.1 g)
theorem WK {cf:Cf}{α:Type}(id:Nat)(E:α→List D)(t j sz:Nat)(g:Go ρ P N D0 Q As η0 m0 (Ajc (Lg id P N 100000 cf).1 t j sz α E))
  (e:(P7 (Lg id P N 100000 cf).1,(X4 (Lg id P N 100000 cf).1.s t j).isSome,((Lg id P N 100000 cf).2).map (·.1))=(true,true,((Lg id P N 100000 cf).2).map (·.2)):=by kernel_rfl) (hm:P.follows .mixedOrders=true:=by rfl):Go ρ P N D0 Q As η0 m0 cf:=by
 simp only[Akt]at e;exact SG hm (.of e.2.2) (AcQ e.1 e.2.1 g)
end
def atD (d:Nat)(cf:Cf):Bool:=match cf.md with
 | .ops _ _ (o::_) _=>match o.dst with|some k=>Nat.beq k d|none=>false
 |_=>false
def VA (d:Nat)(P:Program)(N:Nat):Nat→Cf→Cf×Eqs
 |0,cf=>(cf,[])
 |n+1,cf=>bif atD d cf then(cf,[])else match nxt P N cf with
  |some r=>let q:=VA d P N n r.1; (q.1,r.2++q.2)
  |none=>(cf,[])
def Vz:List AV→Option (List D)
 | []=>some []
 | .d x::l=>match Vz l with
  |some r=>some (x::r)
  |none=>none
 |_=>none
def boxFK (cf:Cf):Option (List D):=
 match Gt cf with
 |some a=>match a.o.op with
  | .box e x=>match Oj (rv cf.s.fz a.sl x)with
   |some cs=>Vz cs
   |none=>none
  |_=>none
 |none=>none
def slMK (P:Program)(cf:Cf):Option (List D×Nat×Nat×Bool):=
 match Gt cf with
 |some a=>match a.o.op with
  | .slice t x none none none=>match aev a.sl x,P.underlying t with
   | .d (.pf ds),some (.array n e)=>match JK P e with
    |some i=>some (ds.take (n*i.sz),i.sz,n,Nat.ble n 1000000)
    |none=>none
   |_,_=>none
  |_=>none
 |none=>none
theorem Vv {η:Env}{m:Mem}: ∀{cs:List AV} {ds:List D} {vs:List Value},Vz cs=some ds→BP η m cs vs→FRL m ds vs
 | [],ds,vs,h,r=>by cases h; have:=r.nil_inv; subst this; exact FRL.nil
 | .d x::l,ds,vs,h,r=>by
  obtain⟨v,us,rfl,a,b⟩:=r.cons_inv;unfold Vz at h;split at h
  ·rename_i q hq;cases h;exact FRL.cons a.dd (Vv hq b)
  ·cases h
 | .any::l,ds,vs,h,r=>by simp[Vz]at h
 | .no::l,ds,vs,h,r=>by simp[Vz]at h
 | .pb _ _::l,ds,vs,h,r=>by simp[Vz]at h
 | .pe _ _ _ _::l,ds,vs,h,r=>by simp[Vz]at h
 | .pa _ _ _ _::l,ds,vs,h,r=>by simp[Vz]at h
 | .bs _ _ _ _::l,ds,vs,h,r=>by simp[Vz]at h
 | .ow _::l,ds,vs,h,r=>by simp[Vz]at h
 | .ab _::l,ds,vs,h,r=>by simp[Vz]at h
 | .agg _::l,ds,vs,h,r=>by simp[Vz]at h
 | .tup _::l,ds,vs,h,r=>by simp[Vz]at h
 | .fn _ _ _::l,ds,vs,h,r=>by simp[Vz]at h
 | .gd _ _ _ _::l,ds,vs,h,r=>by simp[Vz]at h
section
variable {ρ:Option Nat}{P:Program}{N:Nat}{D0:Dw}{Q:DJ}{As:List Ow}{η0:Env}{m0:Mem}
theorem Aep {d:Nat}(hm:P.follows .mixedOrders=true): ∀{n:Nat} {cf:Cf},EqsOk (VA d P N n cf).2→Go ρ P N D0 Q As η0 m0 (VA d P N n cf).1→Go ρ P N D0 Q As η0 m0 cf
 |0,_,_,g=>g
 |n+1,cf,he,g=>by
  cases hb:atD d cf with
  |true=>
   have e:VA d P N (n+1) cf=(cf,[]):=by simp only[VA,hb,cond_true]
   rw[e]at g; exact g
  |false=>
   cases hr:nxt P N cf with
   |none=>
    have e:VA d P N (n+1) cf=(cf,[]):=by simp only[VA,hr,hb,cond_false]
    rw[e]at g; exact g
   |some r=>
    have e:VA d P N (n+1) cf=((VA d P N n r.1).1,r.2++(VA d P N n r.1).2):=by simp only[VA,hr,hb,cond_false]
    rw[e]at g he;have he':=EqsOk.app.1 he;exact Wm hm hr he'.1 (Aep hm (n:=n) he'.2 g)
theorem AaJ {cf:Cf}(d:Nat)(ds:List D)(g:Go ρ P N D0 Q As η0 m0 (CK N (VA d P N 100000 cf).1 (.d (.pf ds)) []))
  (e:(boxFK (VA d P N 100000 cf).1,((VA d P N 100000 cf).2++PF (VA d P N 100000 cf).1).map (·.1))=(some ds,((VA d P N 100000 cf).2++PF (VA d P N 100000 cf).1).map (·.2)):=by kernel_rfl) (hm:P.follows .mixedOrders=true:=by rfl):Go ρ P N D0 Q As η0 m0 cf:=by
 simp only[Akt]at e;obtain⟨e1,e3⟩:=e;obtain⟨he1,he2⟩:=EqsOk.two e3;refine Aep hm he1 ?_;generalize (VA d P N 100000 cf).1=c0 at*;unfold boxFK at e1;split at e1
 ·rename_i a ha;rw[DD ha]at he2;split at e1
  ·rename_i t x hop;split at e1
   ·rename_i cs hc;refine DB (rd:=[]) ha he2 Ob (fun hp=> ?_) g;obtain⟨ll,⟨dst,op',ty,pos,af,gd⟩,gg,sl,es⟩:=a;simp only at hop hc⊢; subst hop;refine⟨AkC _,fun rest Q η m f w As hr hz hn S hk'=> ?_⟩;obtain⟨hl,hh⟩:=HY hc (My hz hr x);have hf:=Vv e1 hl;refine s_box S rfl fun b w' S'=> ?_;obtain⟨m',le,hp',S2⟩:=St.bxKeep (i:=0) S' rfl;exact hk' η m' w' (pt b 0) Env.le_refl le (fun n h=> .inl h) (.d (.pf hp' rfl (hf.up le).1 (hf.up le).2)) (St.ru Env.le_refl le S2)
   ·cases e1
  ·cases e1
 ·cases e1
theorem gslM {k:Nat}{cf:Cf}{α:Type}{E:α→List D}(xs:List α)(hE: ∀x,(E x).length=k)(g:Go ρ P N D0 Q As η0 m0 (CK N (aC P N cf) (.d (.sl α E xs)) []))
  (e:(slMK P (aC P N cf),(aL P N cf))=(some (xs.flatMap E,k,xs.length,true),(aR P N cf)):=by kernel_rfl) (hm:P.follows .mixedOrders=true:=by rfl):Go ρ P N D0 Q As η0 m0 cf:=by
 simp only[Akt]at e;obtain⟨e1,e3⟩:=e;obtain⟨he1,he2⟩:=KB e3;refine AP hm he1 ?_;generalize aC P N cf=c0 at*;unfold slMK at e1;split at e1
 ·rename_i a ha;rw[DD ha]at he2;split at e1
  ·rename_i t x hop;split at e1
   ·rename_i ds nn ee hx hu;split at e1
    ·rename_i i hi;simp only[Akv,Akt]at e1;obtain⟨hd,hk,rfl,hle⟩:=e1;refine DB (rd:=[]) ha he2 Ob (fun hp=> ?_) g;obtain⟨ll,⟨dst,op',ty,pos,af,gd⟩,gg,sl,es⟩:=a;simp only at hop hx⊢; subst hop;refine⟨AkC _,fun rest Q η m f w As hr hz hn S hk'=> ?_⟩;have rx:=Am hr x;rw[hx]at rx;obtain⟨cs,hp1,hp2⟩:=FRL.ptc (n:=0) rx.dd;letI:=PQ E k;have hle:=AkG hle;have ht:=hp2.take (xs.length*i.sz);rw[hd]at ht;refine YX (α:=α) (cs:=cs.take (xs.length*i.sz)) (ds:=cs.drop (xs.length*i.sz)) (xs:=xs) rfl (by rw[List.take_append_drop]; exact hp1) (Y0 ht fun x _=>hE x) rfl (by omega) hu (fun w=>by have:=Cc hi w; rw[hk]at this; exact this) fun u hu'=> ?_;exact hk' η m w u Env.le_refl (Mem.rfl' m) (fun n h=> .inl h) (.d (V3 hu')) S
    ·cases e1
   ·cases e1
  ·cases e1
 ·cases e1
end
def ZT (s:ByteArray)(c:UInt8):Int:=(Lib.countByte s.data.toList c:Nat)
def ixbS (s:ByteArray)(c:UInt8):Int:=Lib.indexByte s.data.toList c
structure Ag1 (P:Program)(fn:Func)(F:ByteArray→UInt8→Int):Prop where
 hname:(fn.name== "runtime.NumGoroutine")=false
 hb:fn.body.isNone=true
 hn:Extern.findNext fn=none
 he: ∃E,Extern.find fn=some E∧∀s c w,(E #[vS s,vB c]).run P w= .ok (vI (F s c)) w
theorem extCnt {P:Program}{fn:Func}(hname:(fn.name== "runtime.NumGoroutine")=false)(hb:fn.body.isNone=true)(hn:Extern.findNext fn=none)(he:Extern.find fn=some Extern.BytealgCount.count):Ag1 P fn ZT:=
 ⟨hname,hb,hn,_,he,fun s c w=>by
  have:=Lib.run_countString (P:=P) s (c.toNat:Int) w;rw[show((c.toNat:Int).toNat).toUInt8=c by simp]at this;exact this⟩
theorem extIxb {P:Program}{fn:Func}(hname:(fn.name== "runtime.NumGoroutine")=false)(hb:fn.body.isNone=true)(hn:Extern.findNext fn=none)(he:Extern.find fn=some Extern.BytealgIndexByte.indexByte):Ag1 P fn ixbS:=
 ⟨hname,hb,hn,_,he,fun s c w=>by
  have:=Lib.run_indexByteString (P:=P) s (c.toNat:Int) w;rw[show((c.toNat:Int).toNat).toUInt8=c by simp]at this;exact this⟩
def extK (cf:Cf):Option (FuncId×AV×AV):=
 match Gt cf with
 |some a=>match a.o.op with
  | .call c=>match c.callee,c.args.toList with
   | .value (.func k),[x,y]=>some (k,aev a.sl x,aev a.sl y)
   |_,_=>none
  |_=>none
 |none=>none
section
variable {ρ:Option Nat}{P:Program}{N:Nat}{D0:Dw}{Q:DJ}{As:List Ow}{η0:Env}{m0:Mem}
variable {ops:Array Oper}{rest:List Oper}{f:Fr}{w w':World}{dst:Option Nat}{ty:TypeId}{pos:String}{af:Array Edge}{x y:Operand}
theorem AiC {k:FuncId}{fn:Func}{F:ByteArray→UInt8→Int}{p:ByteArray}{q:UInt8}{ats:Array TypeId}(hf:P.funcs[k]? =some fn)(hE:Ag1 P fn F)(hx:ev f x=vS p)(hy:ev f y=vB q)
  (h:wpl ρ P N D0 ops rest Q (upo N f dst (vI (F p q))) w):
  wpl ρ P N D0 ops (⟨dst,.call {callee:= .value (.func k),args:= #[x,y],argTypes:=ats},ty,pos,af,none⟩::rest) Q f w:=by
 obtain⟨hname,hb,hn,E,he,hr0⟩:=hE;refine Aq (v:=vI (F p q)) (w':=w) rfl (fun _ e=>by cases e) ?_ h;have hr:=run_callFunc_extern hf hname hb hn he #[vS p,vB q] w;rw[hr0]at hr;simp only[ev]at hx hy;simp only[execOp,resolve,invoke,Deferred.ofValue,List.map_toArray,AkZ,List.map_nil,ev,hx,hy,AkJ,AkK,AkF,Array.empty_append,Array.append_empty,hr,Result.andThen]
theorem gext {cf:Cf}{k:FuncId}{fn:Func}{F:ByteArray→UInt8→Int}{p:ByteArray}{q:UInt8}(hf:P.funcs[k]? =some fn)(hE:Ag1 P fn F)(g:Go ρ P N D0 Q As η0 m0 (CK N (aC P N cf) (.d (.i (F p q))) []))
  (e:(extK (aC P N cf),(aL P N cf))=(some (k,.d (.s p),.d (.b q)),(aR P N cf)):=by kernel_rfl) (hm:P.follows .mixedOrders=true:=by rfl):Go ρ P N D0 Q As η0 m0 cf:=by
 simp only[Akt]at e;obtain⟨e1,e3⟩:=e;obtain⟨he1,he2⟩:=KB e3;refine AP hm he1 ?_;generalize aC P N cf=c0 at*;unfold extK at e1;split at e1
 ·rename_i a ha;rw[DD ha]at he2;split at e1
  ·rename_i c hop;split at e1
   ·rename_i k' x y hc hargs;simp only[Akv,Akt]at e1;obtain⟨rfl,ex,ey⟩:=e1;refine DB (rd:=[]) ha he2 Ob (fun hp=> ?_) g;obtain⟨l,⟨dst,op',ty,pos,af,gd⟩,gg,sl,es⟩:=a;obtain⟨cc,cas,cts⟩:=c;simp only at hop ex ey hc hargs⊢; subst hop hc;have ha':cas= #[x,y]:=by apply Array.toList_inj.mp; rw[hargs]
    subst ha';refine⟨AkC _,fun rest Q η m f w As hr hz hn S hk=> ?_⟩;have rx:=Am hr x;have ry:=Am hr y;rw[ex]at rx;rw[ey]at ry;exact AiC hf hE rx.s_inv ry.b_inv (hk η m w _ Env.le_refl (Mem.rfl' m) (fun n h=> .inl h) (.d (.i _)) S)
   ·cases e1
  ·cases e1
 ·cases e1
end
end Go.Ax
end
