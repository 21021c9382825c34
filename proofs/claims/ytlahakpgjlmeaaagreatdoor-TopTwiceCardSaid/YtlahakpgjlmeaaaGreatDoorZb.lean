/- Several texts, one behind the other. Conditions: none. -/
import Derived.Test.YtlahakpgjlmeaaaGreatDoorZa
import Derived.LaidHandle
import Derived.LaidSub
import Derived.Lib.LaidTab
import Derived.Stop.LaidErr
import Derived.Laws.Externs
import Derived.Laws.BytesString
import Derived.MapKept
import Derived.Laws.MakeOwn
import Derived.Laws.StructEq
set_option linter.unusedSimpArgs false
set_option linter.unusedVariables false
set_option maxHeartbeats 1000000
section
namespace Go.Gw
open Go
def Ir (P:Program)(t:TypeId)(d:DataW (List UInt8))(c:List Value):Prop:= ∀(w:World) (fuel:Nat) (cs:List Value) (p:List MemPlace),DataW.trod (funcToken P) P w 0 (fun _=>true) true fuel t cs=some (d,p)→cs=c
section
variable {P:Program}{t e:TypeId}
theorem Ir.int {k:IntKind}{n:Int}(h:P.underlying t=some (.int k)):Ir P t (.lit (.int k n)) [.int k n]:=fun w fuel cs p hx=>by
 obtain⟨n',rfl,e,_⟩:=DataW.trod_int h hx;simp only[Akt]at e;have e:=e.1;injection e with e;injection e with _ e;rw[e]
theorem Ir.fn {k:Nat}{fk:Func}{b:UInt8}{r:List UInt8}{ps rs:Array TypeId}{vr:Bool}(h:P.underlying t=some (.func ps rs vr))(hf:P.funcs[k]? =some fk)(hn:P.funcNamed fk.name=some k)(hb:fk.name.toUTF8.data.toList=b::r):Ir P t (.held (b::r)) [.func (.func k) #[] #[]]:=fun w fuel cs p hx=>by
 cases fuel with
 |zero=>simp[DataW.trod]at hx
 |succ n=>
  unfold DataW.trod at hx;rw[h]at hx;split at hx<;>first|(rename_i e; cases e; done)|skip
  all_goals simp only[reduceCtorEq,Akv,Akt,false_and,if_true]at hx
  all_goals first|(cases hx; done)|skip
  all_goals
   rename_i fn first captured _ hu
   have e:=hx.1;injection e with e;obtain⟨f,fn',ev,h1,h2,h3⟩:=funcToken_tells e;have hne:fn'.name=fk.name:=by
    have:=h3.trans hb.symm;have e:fn'.name.toUTF8=fk.name.toUTF8:=ByteArray.ext (Array.ext' this);exact String.toByteArray_inj.1 e
   rw[hne,hn]at h2;cases h2;rw[ev]
theorem Ir.pair {fs:Array Field}{f1 f2:Field}{d1 d2:DataW (List UInt8)}{v1 v2:Value}(h:P.underlying t=some (.struct fs))(h0:fs[0]? =some f1)(h1:fs[1]? =some f2)(hs:fs.size=2)(hc:P.cellsOf t=2)
  (o1:f1.offset=0) (o2:f2.offset=1) (c1:P.cellsOf f1.type=1) (c2:P.cellsOf f2.type=1) (i1:Ir P f1.type d1 [v1]) (i2:Ir P f2.type d2 [v2]):Ir P t (.agg [d1,d2]) [v1,v2]:=fun w fuel cs p hx=>by
 obtain⟨xs,n,_,e,hl,hn,hi⟩:=DataW.trod_struct h hx;rw[hs]at hn;match xs,hn with
 | [y,z],_=>
  simp only[Akt,AkZ,List.map_nil]at e;have e:=e.1;injection e with e;simp only[List.cons.injEq,and_true]at e;have a1:=hi 0 f1 h0;have a2:=hi 1 f2 h1;rw[o1,c1]at a1;rw[o2,c2]at a2;rw[hc]at hl;match cs,hl with
  | [u,v],_=>
   have b1:=i1 w n [u] y.2 (by rw[show([u,v].drop 0).take 1=[u]from rfl]at a1; rw[a1]; show some y=_; rw[e.1]);have b2:=i2 w n [v] z.2 (by rw[show([u,v].drop 1).take 1=[v]from rfl]at a2; rw[a2]; show some z=_; rw[e.2]);simp only[List.cons.injEq,and_true]at b1 b2;rw[b1,b2]
theorem AhS {k:Nat}: ∀{css:List (List Value)} {cs:List Value},cs.length=css.length*k→(∀(i:Nat) (c:List Value),css[i]? =some c→(cs.drop (i*k)).take k=c)→cs=css.flatten
 | [],cs,h,_=>by simp at h; exact h
 |c::css,cs,h,hi=>by
  have h0:=hi 0 c rfl;rw[Nat.zero_mul,List.drop_zero]at h0;have ih:=AhS (k:=k) (css:=css) (cs:=cs.drop k) (by simp at h⊢; rw[h,Nat.succ_mul]; omega) fun i c' hc=>by
   have:=hi (i+1) c' hc;rw[All,←this]; congr 2; rw[Nat.succ_mul]; omega
  rw[List.flatten_cons,←ih,←h0,List.take_append_drop]
theorem Ir.arr {n k:Nat}{ds:List (DataW (List UInt8))}{css:List (List Value)}(h:P.underlying t=some (.array n e))(hk:P.cellsOf e=k)(hc:P.cellsOf t=n*k)(hd:ds.length=n)(hcl:css.length=n)
  (hi: ∀(i:Nat) (d:DataW (List UInt8)) (c:List Value),ds[i]? =some d→css[i]? =some c→Ir P e d c):Ir P t (.agg ds) css.flatten:=fun w fuel cs p hx=>by
 obtain⟨xs,m,_,e',hl,hn,ha⟩:=DataW.trod_array h hx;simp only[Akt]at e';have e':=e'.1;injection e' with e';refine AhS (k:=k) (by rw[hl,hc,hcl]) fun i c hcc=> ?_;have hlt:i<n:=by rw[←hcl]; exact(AkR.1 hcc).1
 have a:=ha i hlt;rw[hk]at a;obtain⟨x,hx'⟩: ∃x,xs[i]? =some x:=⟨xs[i],by simp[hn,hlt]⟩;rw[hx']at a;exact hi i x.1 c (by rw[e']; simp[hx']) hcc w m _ x.2 a
theorem gb_of {W:World}{g:Nat}{name:String}{d:DataW Unit}{c:List Value}(hg:P.globalNamed name=some g)(ht:(P.globals[g]?).map (·.type)=some t)(h:funcsAt P W name d)(hi:Ir P t d.funcsOut c):
  ∃l e fr,(memOf W).heap g=some (.cells l e fr)∧(∀(i:Nat) (x:Value),c[i]? =some x→l[i]? =some x)∧l.size=c.length:=by
 obtain⟨g',t',cs,fuel,p,h1,h2,h3,h4⟩:=h;rw[hg]at h1; cases h1;rw[ht]at h2; cases h2;have:=hi W fuel _ p h4;unfold World.var? at h3;rw[hg]at h3;simp only[Option.bind_some]at h3;split at h3
 ·rename_i l e fr hh;cases h3;exact⟨cs,e,fr,L4 hh,fun i x hx=>by rw[←this]at hx; simpa using hx,by rw[←this]; simp⟩
 ·cases h3
theorem Ac6 {w:World}: ∀{l:List (String×DataW Unit)} {k:Nat} {x:String×DataW Unit},laidMet P l w→l[k]? =some x→∃r,laidMet P (x::r) w
 | [],_,_,_,hx=>by cases hx
 |_::r,0,_,h,hx=>by cases hx; exact⟨r,h⟩
 |_::_,_+1,_,h,hx=>Ac6 h.tail hx
theorem gb_int {W:World}{g i n:Nat}{name:String}{k:IntKind}{zs:List Int}{l:List (String×DataW Unit)}(hg:P.globalNamed name=some g)(ht:(P.globals[g]?).map (·.type)=some t)
  (hu:P.underlying t=some (.array n e)) (he:P.underlying e=some (.int k)) (hce:P.cellsOf e=1) (hct:P.cellsOf t=n) (h:laidMetH P l W) (hx:(l.filter fun x=>x.2.handleName?.isNone)[i]? =some (name,Lib.tabData k zs)):
  ∃l e fr,(memOf W).heap g=some (.cells l e fr)∧(∀(i:Nat) (x:Value),(zs.map (Value.int k))[i]? =some x→l[i]? =some x)∧l.size=(zs.map (Value.int k)).length:=by
 obtain⟨r,hr⟩:=Ac6 (laidMetH_iff.1 h).1 hx;have:=Lib.tabIs_of_head hg ht hu he hce hct hr;unfold Lib.TabIs World.var? at this;rw[hg]at this;simp only[Option.bind_some]at this;split at this
 ·rename_i l e fr hh;cases this;exact⟨_,e,fr,L4 hh,fun i x hx=>by simpa using hx,by simp⟩
 ·cases this
theorem gb_if {W:World}{g i:Nat}{name nm:String}{d:DataW Unit}{ms:Array (String×TypeId)}{l:List (String×DataW Unit)}(hg:P.globalNamed name=some g)(ht:(P.globals[g]?).map (·.type)=some t)
  (hi:P.underlying t=some (.interface ms)) (h:laidMetH P l W) (hx:(l.filter fun x=>x.2.handleName?.isNone)[i]? =some (name,.iface nm d)):
  ∃l e fr t v,(memOf W).heap g=some (.cells l e fr)∧l[0]? =some (.iface t v):=by
 obtain⟨r,ps,⟨g',t',cs,fuel,p,q,h1,h2,h3,h4,_⟩,_⟩:=Ac6 (laidMetH_iff.1 h).1 hx;rw[hg]at h1; cases h1;rw[ht]at h2; cases h2;obtain⟨f',u,v,e',_⟩:=iface_of_trod hi h4;unfold World.var? at h3;rw[hg]at h3;simp only[Option.bind_some]at h3;split at h3
 ·rename_i l e fr hh;cases h3;exact⟨cs,e,fr,u,v,L4 hh,by rw[←Array.getElem?_toList,e']; rfl⟩
 ·cases h3
end
end Go.Gw
end
section
namespace Go.Gw
open Go Go.MapKept
def bs (xs:List UInt8):ByteArray:=⟨xs.toArray⟩
def eqS (p q:ByteArray):Bool:=p.data.toList==q.data.toList
theorem Sq {p q:ByteArray}:eqS p q=true↔p=q:=by
 obtain⟨⟨p⟩⟩:=p; obtain⟨⟨q⟩⟩:=q;simp[eqS]
theorem Yk (p q:ByteArray):(p==q)=eqS p q:=by
 rw[Aly,Sq];obtain⟨p⟩:=p; obtain⟨q⟩:=q;constructor
 ·intro h;have e:p=q:=by simpa using (show(p==q)=true from h)
  rw[e]
 ·intro h;cases h;show(p==p)=true;simp
theorem XG (s:ByteArray): ∀(n i:Nat) (r:List UInt8),s.size≤i+n→i≤s.size→ByteArray.toList.loop s i r=r.reverse++s.data.toList.drop i:=by
 intro n;induction n with
 |zero=>
  intro i r h h2;unfold ByteArray.toList.loop;rw[Aky (by omega),Ak6 (by simp; show s.size≤i; omega)]; simp
 |succ n ih=>
  intro i r h h2;unfold ByteArray.toList.loop;by_cases hlt:i<s.size
  ·have hl:i<s.data.toList.length:=by simpa using hlt
   rw[AkA hlt,ih (i+1) _ (by omega) (by omega),List.drop_eq_getElem_cons hl];have:s.get! i=s.data.toList[i]:=by
    show s.data[i]! =_;rw[getElem!_pos s.data i (by simpa using hlt)]; simp
   simp[this]
  ·rw[Aky hlt,Ak6 (by simp; show s.size≤i; omega)]; simp
theorem O5 (s:ByteArray):s.toList=s.data.toList:=by
 unfold ByteArray.toList;rw[XG s s.size 0 [] (by omega) (by omega)]; simp
def Ky (a b:UInt64):UInt64:=UInt64.ofNat ((a.toNat+b.toNat)/18446744073709551616)
theorem repB {m:Mem}: ∀{xs:List UInt8} {cs:List Value},DU m cs xs→cs=xs.map vB:=by
 intro xs;induction xs with
 |nil=>intro cs h; exact h
 |cons x xs ih=>rintro cs ⟨c,d,rfl,h1,h2⟩; rw[ih h2]; have:c=[vB x]:=h1; rw[this]; rfl
section
variable {ρ:Option Nat}{P:Program}{N:Nat}{D:Dw}{ops:Array Oper}{rest:List Oper}{Q:DJ}{f:Fr}{w w':World}{v:Value}
variable {dst:Option Nat}{ty t t' t2:TypeId}{pos:String}{af:Array Edge}{x y c a b:Operand}{m:Mem}{As:List Ow}
theorem s_eqlT {p q:ByteArray}(hx:ev f x=vS p)(hy:ev f y=vS q)(h:wpl ρ P N D ops rest Q (upo N f dst (.bool (eqS p q))) w):
  wpl ρ P N D ops (⟨dst,.binOp .eql t x y t',ty,pos,af,none⟩::rest) Q f w:=by
 refine s_eqlS (p:=p) (q:=q) hx hy ?_;rw[O5,O5];exact h
theorem s_neqT {p q:ByteArray}(hx:ev f x=vS p)(hy:ev f y=vS q)(h:wpl ρ P N D ops rest Q (upo N f dst (.bool (!eqS p q))) w):
  wpl ρ P N D ops (⟨dst,.binOp .neq t x y t',ty,pos,af,none⟩::rest) Q f w:=by
 refine s_neqS (p:=p) (q:=q) hx hy ?_;rw[O5,O5];exact h
theorem AiJ {k:FuncId}{fn:Func}{p q:UInt64}{ats:Array TypeId}(hf:P.funcs[k]? =some fn)(hname:(fn.name== "runtime.NumGoroutine")=false)(hb:fn.body.isNone=true)(hn:Extern.findNext fn=none)
  (he:Extern.find fn=some add64Entry) (hx:ev f x=vU p) (hy:ev f y=vU q) (hz:ev f c= .int .u64 0)
  (h:wpl ρ P N D ops rest Q (upo N f dst (.tuple #[vU (p+q),vU (Ky p q)])) w):
  wpl ρ P N D ops (⟨dst,.call {callee:= .value (.func k),args:= #[x,y,c],argTypes:=ats},ty,pos,af,none⟩::rest) Q f w:=by
 refine Aq (v:= .tuple #[vU (p+q),vU (Ky p q)]) (w':=w) rfl (fun _ e=>by cases e) ?_ h;have hr:=run_callFunc_extern hf hname hb hn he #[vU p,vU q,.int .u64 0] w;have hp:=p.toNat_lt;have hq:=q.toNat_lt;rw[run_add64 _ _ _ (by omega) (by omega) (by omega) (by omega)]at hr;have e1:((p.toNat:Int)+(q.toNat:Int)+0)%18446744073709551616=((p+q).toNat:Int):=by rw[UInt64.toNat_add]; omega
 have e2:((p.toNat:Int)+(q.toNat:Int)+0)/18446744073709551616=((Ky p q).toNat:Int):=by
  unfold Ky;rw[UInt64.toNat_ofNat'];omega
 rw[e1,e2]at hr;simp only[ev]at hx hy hz;simp only[execOp,resolve,invoke,Deferred.ofValue,List.map_toArray,AkZ,List.map_nil,ev,hx,hy,hz,AkJ,AkK,AkF,Array.empty_append,Array.append_empty,hr,Result.andThen]
theorem Aas {xs:List UInt8}(hS:St m As w)(hv:SlR m v xs):(Conv.bytesToString v).run P w= .ok (.string (bs xs)) w:=by
 obtain⟨cs,hc,hr⟩:=hv;have e:=repB hr;subst e;have hf:=Ht (P:=P) hS hc w.drawn;obtain⟨hl,_,⟨h0,a,c,rfl⟩|⟨b,off,cap,l,ee,fr,rfl,hn,hb,hcc⟩⟩:=hc
 ·have:xs=[]:=List.eq_nil_of_length_eq_zero h0;subst this;cases a with
  |none=>simp[Conv.bytesToString,bs,AkK]; rfl
  |some a=>
   have:=run_bytesToString (P:=P) w a 0 c [] (by simp[loadCells,loadCellsFrom]);exact this
 ·have hld:(loadCells ⟨b,off,none⟩ xs.length).run P w= .ok ((xs.map (fun b=>(b.toNat:Int))).map (Value.int .u8)).toArray w:=by
   have:=Gg (P:=P) (off:=off) (hS.mem hb) (xs.map vB) 0 #[] (by simpa using hcc);simp only[AkW]at this;simp only[loadCells,this];simp
  rw[run_bytesToString w _ _ _ _ hld];congr 2;have: ∀(ys:List UInt8) (s:ByteArray),(ys.map (fun b=>(b.toNat:Int))).foldl (fun r n=>r.push (UInt8.ofNat n.toNat)) s=⟨s.data++ys.toArray⟩:=by
   intro ys;induction ys with
   |nil=>intro s; simp
   |cons y ys ih=>intro s; simp only[AkZ,List.foldl_cons,ih]; simp[ByteArray.push]
  rw[this];simp[bs]
theorem Ae8 {xs:List UInt8}{e t2':TypeId}(hS:St m As w)(hx:ev f x=v)(hv:SlR m v xs)(hu:P.underlying t=some (.slice e))(he:P.underlying e=some (.int .u8))(hd:P.underlying t2=some .string)
  (h:wpl ρ P N D ops rest Q (upo N f dst (vS (bs xs))) w):
  wpl ρ P N D ops (⟨dst,.convert t t2 x,ty,pos,af,none⟩::rest) Q f w:=by
 refine Aq (v:=vS (bs xs)) (w':=w) rfl (fun _ e=>by cases e) ?_ h;have hr:=Aas (P:=P) hS hv;obtain⟨a,c,rfl⟩:=hv.val;simp only[execOp,hx,convert,AkJ,AkD hu,AkD hd,AkD he,AkF,hr,AkK]
theorem St.imp0 {A B:Ow}(hS:St m (A::As) w)(hi: ∀h,A h→B h):St m (B::As) w:=by
 obtain⟨x,⟨h1,h2,a,b,c,d⟩,d1,g,g',nd⟩:=hS.own;exact⟨hS.os,hS.tape,hS.output,x,⟨h1,h2,hi _ a,b,c,d⟩,d1,g,g',nd⟩
theorem s_ofS {s:ByteArray}{zs:List UInt8}{e:TypeId}(hS:St m As w)(hx:ev f x=vS s)(hq:app 1 ([]:List UInt8) s.data.toList=some zs)
  (hu:P.underlying t=some .string) (hd:P.underlying t2=some (.slice e)) (he:P.underlying e=some (.int .u8))
  (h: ∀v' cs' w',St m (row 1 v' cs' zs.length::As) w'→DU m cs' zs→wpl ρ P N D ops rest Q (upo N f dst v') w'):
  wpl ρ P N D ops (⟨dst,.convert t t2 x,ty,pos,af,none⟩::rest) Q f w:=by
 obtain⟨⟨hb,h63⟩,hq⟩:=BY hq;simp only[AkY,Ak9,Nat.mul_one,Ak2,Array.length_toList]at hb h63 hq;cases hq;have hge:=grownCap_ge w s.size 0 e;have hcm:grownCap w s.size 0 e≤maxLen:=grownCap_le_maxLen w s.size 0 e (by simp only[maxLen]; show s.size≤_; have:s.size=s.data.size:=rfl; omega);generalize hL:(s.data.map (fun b=>Value.int .u8 (b.toNat:Int))++Array.replicate (grownCap w s.size 0 e-s.size) (Value.int .u8 0))=L;have hsz:L.size=grownCap w s.size 0 e:=by
  rw[←hL,Array.size_append,Array.size_map,Array.size_replicate];have:s.size=s.data.size:=rfl;omega
 have hlist:L.toList.take s.size=s.data.toList.map vB:=by
  rw[←hL,Array.toList_append,Array.toList_map];have e1:s.size=(s.data.toList.map (fun b:UInt8=>Value.int .u8 (b.toNat:Int))).length:=by rw[AkW,Array.length_toList]; rfl
  rw[e1,List.take_left]
 have S1:=(hS.drew (w.drawn+1)).push (.cells L e (0,0)) CI;have hfz:(w.drew.alloc (.cells L e (0,0))).freeze ⟨w.heap.size,L.size,none⟩ 1={w.drew.alloc (.cells L e (0,0))with heap:=(w.heap.push (.cells L e (0,0))).setIfInBounds w.heap.size (.cells L e (L.size,L.size+1))}:=by
  simp only[World.freeze];rw[Aky (by omega)];refine Alc (fun z=>{w.drew.alloc (.cells L e (0,0))with heap:=z}) ?_;apply Array.ext_getElem?;intro k;show((w.heap.push _).modify _ _)[k]? =_;rw[Array.getElem?_modify,Array.getElem?_setIfInBounds];by_cases hk:w.heap.size=k
  ·subst hk; simp
  ·simp[hk]
 have S2:=St.put S1 (i:=0) (b:=w.heap.size) (o:= .cells L e (0,0)) rfl (.cells L e (L.size,L.size+1)) {w.drew.alloc (.cells L e (0,0))with heap:=(w.heap.push (.cells L e (0,0))).setIfInBounds w.heap.size (.cells L e (L.size,L.size+1))} rfl rfl rfl rfl CI;have S3:St m (row 1 (.slice (some ⟨w.heap.size,0,none⟩) s.size (grownCap w s.size 0 e)) (s.data.toList.map vB) s.size::As) {w.drew.alloc (.cells L e (0,0))with heap:=(w.heap.push (.cells L e (0,0))).setIfInBounds w.heap.size (.cells L e (L.size,L.size+1))}:=by
  refine St.imp0 (A:=blk w.heap.size (.cells L e (L.size,L.size+1))) S2 fun h hh=> ?_;refine .inr ⟨w.heap.size,grownCap w s.size 0 e,L,e,(L.size,L.size+1),rfl,hh,?_,?_,by rw[hsz]; omega,hge,hcm,.inr (AkC _),.inr rfl⟩
  ·rw[AkW,Array.length_toList]; show s.size=_; omega
  ·rw[Nat.mul_one]; exact hlist
 refine Aq (v:= .slice (some ⟨w.heap.size,0,none⟩) s.size (grownCap w s.size 0 e)) (w':={w.drew.alloc (.cells L e (0,0))with heap:=(w.heap.push (.cells L e (0,0))).setIfInBounds w.heap.size (.cells L e (L.size,L.size+1))}) rfl (fun _ e=>by cases e) ?_ (h _ (s.data.toList.map vB) _ (by rw[Array.length_toList]; exact S3) ?_) ?_
 ·have hsh:(w.drew.alloc (.cells L e (0,0))).shape? w.heap.size=some (e,L.size):=by
   simp only[World.shape?];have:(w.drew.alloc (.cells L e (0,0))).heap[w.heap.size]? =some (.cells L e (0,0)):=Kv w.drew _;rw[this]
  rw[←hfz,←hL];rw[←hL]at hsh;simp only[grownCap]at hsh;simp[execOp,hx,convert,AkD hu,AkD hd,AkD he,Conv.stringToBytes,Question.forced,newRow,markStringish,hsh,grownCap]
 ·induction s.data.toList with
  |nil=>exact DU.nil
  |cons b l ih=>exact DU.cons (c:=[vB b]) (x:=b) rfl ih
 ·have K2:Kd (w.drew.alloc (.cells L e (0,0))) {w.drew.alloc (.cells L e (0,0))with heap:=(w.heap.push (.cells L e (0,0))).setIfInBounds w.heap.size (.cells L e (L.size,L.size+1))}:=Kd.set (b:=w.heap.size) (Kv w.drew _) CI rfl;have K1:Kd w w.drew:=Kd.heap rfl;exact K1.tr ((Kd.push w.drew (.cells L e (0,0))).tr K2)
def lkI:List (ByteArray×Bool)→ByteArray→Nat→Option (Nat×Bool)
 | [],_,_=>none
 |p::r,k,i=>if eqS k p.1=true then some (i,p.2)else lkI r k (i+1)
def lkB (kv:List (ByteArray×Bool))(k:ByteArray):Bool:=((lkI kv k 0).map (·.2)).getD false
def mpS (b:Nat)(kv:List (ByteArray×Bool)):Ow:=fun h=> ∃ms c,h=PH.one b (.map ms c)∧ms.toList.map (fun e=>(e.key,e.val))=kv.map (fun p=>(vS p.1,vb p.2))
theorem R9 {ms:Array MapEntry}{c:Nat}:Obj.map ms c≠dfr:=fun h=>by cases h
theorem WO (k:ByteArray): ∀(l:List MapEntry) (kv:List (ByteArray×Bool)) (i:Nat),l.map (fun e=>(e.key,e.val))=kv.map (fun p=>(vS p.1,vb p.2))→
  Instr.findNow .string (vS k) l i=some ((lkI kv k i).map fun p=>(p.1,vb p.2)):=by
 intro l;induction l with
 |nil=>intro kv i h; cases kv with
  |nil=>rfl
  |cons p r=>simp at h
 |cons e l ih=>
  intro kv i h;cases kv with
  |nil=>simp at h
  |cons p r=>
   simp only[AkZ,List.cons.injEq,Akt]at h;obtain⟨⟨h1,h2⟩,h3⟩:=h;have hs:Instr.sameNow .string (vS k) e.key=some (eqS k p.1):=by rw[h1,←Yk]; rfl
   simp only[Instr.findNow,hs,lkI];cases hq:eqS k p.1 with
   |true=>simp[h2]
   |false=>simp only[Bool.false_eq_true,if_false]; exact ih r (i+1) h3
theorem St.map (hS:St m As w){i b:Nat}{kv:List (ByteArray×Bool)}(hA:As[i]? =some (mpS b kv)): ∃ms c,w.heap[b]? =some (.map ms c)∧ms.toList.map (fun e=>(e.key,e.val))=kv.map (fun p=>(vS p.1,vb p.2))∧
  ∀(ms':Array MapEntry) (c':Nat) (kv':List (ByteArray×Bool)) (w':World),ms'.toList.map (fun e=>(e.key,e.val))=kv'.map (fun p=>(vS p.1,vb p.2))→w'.heap=w.heap.setIfInBounds b (.map ms' c')→w'.os=w.os→w'.tape=w.tape→w'.output=w.output→
   St m (As.set i (mpS b kv')) w':=by
 obtain⟨h1,⟨ms,c,rfl,hk⟩,hg,_,back⟩:=hS.take hA;have hb:=PH.agree_one.1 hg;have hlt:=(AkM.1 hb).1;refine⟨ms,c,hb,hk,fun ms' c' kv' w' hk' hw h2 h3 h4=> ?_⟩;refine back (mpS b kv') (PH.one b (.map ms' c')) w' ⟨ms',c',rfl,hk'⟩ ?_ ?_ ?_ h2 h3 h4 (fun _=> .one R9)
 ·intro k hk; left; simp only[PH.one]at hk⊢;split at hk
  ·rename_i e; simp[e]
  ·exact absurd rfl hk
 ·rw[PH.agree_one,hw]; simp[hlt]
 ·intro k _ hk; simp only[PH.one]at hk;split at hk
  ·cases hk
  ·rename_i e; rw[hw,Array.getElem?_setIfInBounds_ne (by omega)]
theorem Wb (hS:St m As w)(h: ∀b w',St m (mpS b []::As) w'→wpl ρ P N D ops rest Q (upo N f dst (.map (some b))) w'):
  wpl ρ P N D ops (⟨dst,.makeMap t none,ty,pos,af,none⟩::rest) Q f w:=by
 have S1:=(hS.push (.map #[] 0) R9).imp0 (B:=mpS w.heap.size []) fun h hh=>⟨#[],0,hh,rfl⟩;refine Aq (v:= .map (some w.heap.size)) (w':=w.alloc (.map #[] 0)) rfl (fun _ e=>by cases e) ?_ (h _ _ S1) (Kd.push _ _);simp only[execOp,Instr.makeMap,Option.map_none,newObj,AkJ,AkF,Sem.run,AkK];rfl
theorem AbU {i b:Nat}{k:ByteArray}{kv:List (ByteArray×Bool)}{kt et:TypeId}(hS:St m As w)(hx:ev f x= .map (some b))(hy:ev f y=vS k)(hA:As[i]? =some (mpS b kv))
  (hu:P.underlying t=some (.map kt et)) (hk:P.underlying kt=some .string) (hz: ∀w,(zeroValue et).run P w= .ok (.bool false) w)
  (h:wpl ρ P N D ops rest Q (upo N f dst (vb (lkB kv k))) w):
  wpl ρ P N D ops (⟨dst,.lookup t x y false,ty,pos,af,none⟩::rest) Q f w:=by
 obtain⟨ms,c,hb,hm,_⟩:=hS.map hA;refine Aq (v:=vb (lkB kv k)) (w':=w) rfl (fun _ e=>by cases e) ?_ h;have hf:=MapKept.run_findKey (w:=w) hk (WO k ms.toList kv 0 hm);have hc:=MapKept.run_checkKey (P:=P) (w:=w) hk (k:=vS k) trivial ms.isEmpty 9999;have hc':(Instr.checkKey ms.isEmpty 10000 kt (vS k)).run P w= .ok () w:=hc;simp only[execOp,hx,hy,Instr.lookup,AkJ,AkD hu,AkF,MapKept.run_getObj_map hb,AkK,hc',hf];unfold lkB;cases lkI kv k 0 with
 |none=>simp[hz]
 |some p=>simp
theorem AbT {i b:Nat}{k:ByteArray}{kv:List (ByteArray×Bool)}{u:Bool}{kt et:TypeId}(hS:St m As w)(hx:ev f x= .map (some b))(hy:ev f y=vS k)(hc:ev f c=vb u)(hA:As[i]? =some (mpS b kv))
  (hu:P.underlying t=some (.map kt et)) (hk:P.underlying kt=some .string) (hn:(lkI kv k 0).isNone=true)
  (h: ∀w',St m (As.set i (mpS b (kv++[(k,u)]))) w'→wpl ρ P N D ops rest Q (upo N f dst undef) w'):
  wpl ρ P N D ops (⟨dst,.mapUpdate t x y c,ty,pos,af,none⟩::rest) Q f w:=by
 obtain⟨ms,cl,hb,hm,back⟩:=hS.map hA;have hnone:lkI kv k 0=none:=by simpa using hn
 have hf:=MapKept.run_findKey (w:=w) hk (WO k ms.toList kv 0 hm);rw[hnone]at hf;have hck:=MapKept.run_checkKey (P:=P) (w:=w) hk (k:=vS k) trivial false 9999;have hc':(Instr.checkKey false 10000 kt (vS k)).run P w= .ok () w:=hck;refine Lh (w':={w with heap:=w.heap.setIfInBounds b (.map (ms.push {key:=vS k,val:=vb u,born:=cl}) (cl+1))}) rfl (fun _ e=>by cases e) ?_ (h _ (back _ (cl+1) _ _ ?_ rfl rfl rfl rfl)) (Kd.set hb R9 rfl)
 ·simp[execOp,hx,hy,hc,Instr.mapUpdate,AkD hu,MapKept.run_getObj_map hb,hc',hf,MapKept.run_setObj_map _ hb]
 ·simp[hm]
theorem Ae6 {i b:Nat}{kv:List (ByteArray×Bool)}{kt et:TypeId}(hS:St m As w)(hx:ev f x= .map (some b))(hA:As[i]? =some (mpS b kv))(hu:P.underlying t=some (.map kt et))
  (h:wpl ρ P N D ops rest Q (upo N f dst (vI kv.length)) w):
  wpl ρ P N D ops (⟨dst,.call {callee:= .builtin .len,args:= #[x],argTypes:= #[t]},ty,pos,af,none⟩::rest) Q f w:=by
 obtain⟨ms,cl,hb,hm,back⟩:=hS.map hA;have hl:ms.size=kv.length:=by have:=Alc List.length hm; simpa using this
 refine Aq (v:=vI kv.length) (w':=w) rfl (fun _ e=>by cases e) ?_ h;simp[execOp,resolve,invoke,builtin,Builtin.len_,hx,AkD hu,goInt,MapKept.run_getObj_map hb,hl]
theorem Re {e:TypeId}(hx:ev f x= .slice none 0 0)(hu:P.underlying t=some (.slice e))(h:wpl ρ P N D ops rest Q (upo N f dst (vI 0)) w):
  wpl ρ P N D ops (⟨dst,.call {callee:= .builtin .cap,args:= #[x],argTypes:= #[t]},ty,pos,af,none⟩::rest) Q f w:=
 Aq (v:=vI 0) (w':=w) rfl (fun _ e=>by cases e) (by simp[execOp,resolve,invoke,builtin,Builtin.cap_,hx,AkD hu,goInt]) h
theorem Ahd {sz bytes:Nat}{k:Int}{z:Value}{e:TypeId}{ti:TypeInfo}{ik:IntKind}(hS:St m As w)(hx:ev f x= .slice none 0 0)(hy:ev f y=vI k)(hq:0≤k∧k*bytes≤140737488355328∧k≤140737488355328)
  (ht:P.underlying t=some (.slice e)) (ht2:P.underlying t2=some (.int ik)) (hi:P.info? e=some ti) (hz:ti.zero=some z) (hsz:ti.size=sz) (hby:ti.bytes=bytes) (hzs:z.cells.size=sz)
  (h: ∀v' cs' w',St m (row sz v' cs' k.toNat::As) w'→wpl ρ P N D ops rest Q (upo N f dst v') w'):
  wpl ρ P N D ops (⟨dst,.call {callee:= .builtin .append,args:= #[x,y],argTypes:= #[t,t2]},ty,pos,af,none⟩::rest) Q f w:=by
 obtain⟨h0,hb,h63⟩:=hq;obtain⟨n,rfl⟩:=Int.eq_ofNat_of_zero_le h0;subst hsz hby;rw[Alg]at h;have hun: ∀w,(underlying t).run P w= .ok (.slice e) w:=fun w=>AkD ht w;have hu2: ∀w,(underlying t2).run P w= .ok (.int ik) w:=fun w=>AkD ht2 w;have hw:IntKind.i64.wrap (n:Int)=(n:Int):=by rw[Hh,BC (by omega) (by omega)]
 by_cases hn:n=0
 ·subst hn;refine Aq (v:= .slice none 0 0) (w':=w) rfl (fun _ e=>by cases e) ?_ (h _ [] _ (hS.rowNil ti.size));have hw0:IntKind.i64.wrap 0=0:=hw;simp[execOp,resolve,invoke,builtin,hx,hy,Builtin.append_,hun,hu2,sizeOf,typeInfo,hi,asInt,asIntOf,hw0]
 ·have hge:=grownCap_ge w n 0 e;have hcm:grownCap w n 0 e≤maxLen:=grownCap_le_maxLen w n 0 e (by simp only[maxLen]; omega);have hbn:n*ti.bytes≤140737488355328:=by
   have:((n*ti.bytes:Nat):Int)≤140737488355328:=by rw[Int.natCast_mul]; exact hb
   omega
  have hfit:=growslice_fits (need:=n) (old:=0) (by omega) hbn;have hl0: ¬((n:Int)<0):=by omega
  have hl1: ¬(281474976710656<(n:Int)*(ti.bytes:Int)):=by omega
  have hl2: ¬(n≤0):=by omega
  have hl3: ¬(9223372036854775807<(n:Int)):=by omega
  have hl4: ¬(281474976710656<Builtin.nextslicecap n 0*ti.bytes):=by omega
  have S1:=((hS.drew (w.drawn+1)).push (.cells ((if n*ti.size=0 then #[]else Builtin.zeroCells z.cells n)++Builtin.zeroCells z.cells (grownCap w n 0 e-n)) e (0,0)) CI).imp0
   (B:=row ti.size (.slice (some ⟨w.heap.size,0,none⟩) n (grownCap w n 0 e)) (((if n*ti.size=0 then #[]else Builtin.zeroCells z.cells n)++Builtin.zeroCells z.cells (grownCap w n 0 e-n)).toList.take (n*ti.size)) n) fun q hh=>by
    have e1:((if n*ti.size=0 then #[]else Builtin.zeroCells z.cells n):Array Value).size=n*ti.size:=by
     split
     ·rename_i hz0; rw[hz0]; rfl
     ·rw[size_zeroCells,hzs]
    refine .inr ⟨w.heap.size,grownCap w n 0 e,_,e,(0,0),rfl,hh,?_,rfl,?_,hge,hcm,.inl rfl,.inl rfl⟩
    ·rw[Ak7,Array.length_toList,Array.size_append,e1]; omega
    ·rw[Array.size_append,e1,size_zeroCells,hzs,←Nat.add_mul]; congr 1; omega
  refine Aq (v:= .slice (some ⟨w.heap.size,0,none⟩) n (grownCap w n 0 e)) (w':=w.drew.alloc (.cells ((if n*ti.size=0 then #[]else Builtin.zeroCells z.cells n)++Builtin.zeroCells z.cells (grownCap w n 0 e-n)) e (0,0))) rfl (fun _ e=>by cases e) ?_ (h _ _ _ S1) ((Kd.heap rfl:Kd w w.drew).tr (Kd.push w.drew _));by_cases hz0:n*ti.size=0
  ·have hz0':n=0∨ti.size=0:=Nat.mul_eq_zero.1 hz0;simp[execOp,resolve,invoke,builtin,hx,hy,Builtin.append_,hun,hu2,sizeOf,typeInfo,zeroValue,hi,hz,asInt,asIntOf,hw,hl0,hl1,hl2,hl3,hl4,Question.forced,Builtin.firstCells,newRow,grownCap,hz0',hz0,hn]
  ·have hz0': ¬(n=0∨ti.size=0):=fun q=>hz0 (Nat.mul_eq_zero.2 q);have hz1:ti.size≠0:=fun q=>hz0' (.inr q);simp[execOp,resolve,invoke,builtin,hx,hy,Builtin.append_,hun,hu2,sizeOf,typeInfo,zeroValue,hi,hz,asInt,asIntOf,hw,hl0,hl1,hl2,hl3,hl4,Question.forced,Builtin.firstCells,newRow,grownCap,hn,hz0,hz1]
theorem DU.replicate {α:Type} [GoT α]{m:Mem}{z:Value}{x:α}(h:GoT.rep m [z] x): ∀n:Nat,DU m (List.replicate n z) (List.replicate n x)
 |0=>rfl
 |n+1=>⟨[z],List.replicate n z,rfl,h,DU.replicate h n⟩
theorem s_mk1 {α:Type} [GoT α]{bytes:Nat}{k:Int}{z z0:Value}{x0:α}{e:TypeId}{ti:TypeInfo}(hS:St m As w)(hx:ev f x=vI k)(hy:ev f y=vI k)(hq:0≤k∧k*bytes≤140737488355328∧k≤140737488355328)
  (ht:P.underlying t=some (.slice e)) (hi:P.info? e=some ti) (hz:ti.zero=some z) (hsz:ti.size=1) (hby:ti.bytes=bytes) (hzs:z.cells= #[z0]) (hr:GoT.rep m [z0] x0)
  (h: ∀v' cs' w',St m (row 1 v' cs' (List.replicate k.toNat x0).length::As) w'→DU m cs' (List.replicate k.toNat x0)→wpl ρ P N D ops rest Q (upo N f dst v') w'):
  wpl ρ P N D ops (⟨dst,.makeSlice t x y,ty,pos,af,none⟩::rest) Q f w:=by
 obtain⟨h0,hb,h63⟩:=hq;obtain⟨n,rfl⟩:=Int.eq_ofNat_of_zero_le h0;subst hby;rw[Alg]at h;have hmc:(madeCells z.cells (n*ti.size)).toList=List.replicate n z0:=by
  rw[hsz,hzs,Nat.mul_one];apply List.ext_getElem
  ·simp[madeCells]
  ·intro i h1 h2;simp[madeCells,Nat.mod_one]
 have S1:=(hS.push (.cells (madeCells z.cells (n*ti.size)) e (0,0)) CI).imp0 (B:=row 1 (.slice (some ⟨w.heap.size,0,none⟩) n n) (List.replicate n z0) (List.replicate n x0).length) fun q hh=>by
  refine .inr ⟨w.heap.size,n,_,e,(0,0),by simp,hh,by simp,?_,?_,by simp,?_,.inl rfl,.inl rfl⟩
  ·rw[hmc,Ak5 (by simp)]
  ·rw[size_madeCells,hsz]
  ·simp only[maxLen]; omega
 refine Aq (v:= .slice (some ⟨w.heap.size,0,none⟩) n n) (w':=w.alloc (.cells (madeCells z.cells (n*ti.size)) e (0,0))) rfl (fun _ e=>by cases e) ?_ (h _ _ _ S1 (DU.replicate hr n)) (Kd.push w _);have:=run_make (P:=P) w t e ti z ht hi hz .i64 .i64 (n:Int) (n:Int) (by omega) (by omega) (by rw[Int.mul_comm]; omega) (by omega);rw[Alg]at this;simp[execOp,hx,hy,vI,this]
theorem AbW {n sz:Nat}{e:TypeId}{k:IntKind}{i:Int}{cs:List Value}(hx:ev f x=v)(hi:ev f y= .int k i)(hv:PtC m v cs)(hu:P.underlying t=some (.array n e))(hs: ∀w,(sizeOf e).run P w= .ok sz w)(h0:0≤i)(h1:i<n)
  (h: ∀p,PtC m p (cs.drop (i.toNat*sz))→wpl ρ P N D ops rest Q (upo N f dst p) w):
  wpl ρ P N D ops (⟨dst,.indexAddr t x y,ty,pos,af,none⟩::rest) Q f w:=by
 obtain⟨b,off,l,e',fr,rfl,hb,hc⟩:=hv;refine Aq (v:=pt b (off+i.toNat*sz)) (w':=w) rfl (fun _ e=>by cases e) ?_ (h _ ⟨b,_,l,e',fr,rfl,hb,fun j x hj=> ?_⟩)
 ·simp only[execOp,hx,hi,Instr.indexAt,asIntOf,AkJ,AkK,AkF,AkD hu,Instr.sureAddr];simp[h0,h1,hs,Eg]
 ·have:=hc (i.toNat*sz+j) x (by simpa using hj);rw[Alo]; exact this
theorem PtC.off {b k:Nat}{cs:List Value}(h:PtC m (pt b 0) cs):PtC m (pt b k) (cs.drop k):=by
 obtain⟨b',off,l,e',fr,e,hb,hc⟩:=h;cases e;exact⟨b,k,l,e',fr,rfl,hb,fun j x hj=>by have:=hc (k+j) x (by simpa using hj); simpa using this⟩
theorem YX {α:Type} [GoT α]{n:Nat}{e:TypeId}{cs ds:List Value}{xs:List α}(hx:ev f x=v)(hv:PtC m v (cs++ds))(hr:DU m cs xs)(hn:xs.length=n)(hb:n≤9223372036854775807)(hu:P.underlying t=some (.array n e))(hs: ∀w,(sizeOf e).run P w= .ok (GoT.sz α) w)
  (h: ∀u,SlR m u xs→wpl ρ P N D ops rest Q (upo N f dst u) w):
  wpl ρ P N D ops (⟨dst,.slice t x none none none,ty,pos,af,none⟩::rest) Q f w:=by
 subst hn;obtain⟨b,off,l,e',fr,rfl,hb',hc⟩:=hv;refine UI (k:=xs.length) (n:=xs.length) (sz:=GoT.sz α) hx hu hs (.inl ⟨rfl,rfl⟩) (AkC _) (h _ ⟨cs,⟨hr.length,hb,?_⟩,hr⟩);right;refine⟨b,off,xs.length,l,e',fr,rfl,⟨AkC _,hb⟩,hb',fun i y hy=>hc i y ?_⟩;have:=(AkR.1 hy).1;rw[List.getElem?_append_left this]; exact hy
theorem Ahc {sz:Nat}{hi:Operand}{e:TypeId}{k:IntKind}(hx:ev f x= .slice none 0 0)(hu:P.underlying t=some (.slice e))(hs: ∀w,(sizeOf e).run P w= .ok sz w)(hj:ev f hi= .int k 0)
  (h:wpl ρ P N D ops rest Q (upo N f dst (.slice none 0 0)) w):
  wpl ρ P N D ops (⟨dst,.slice t x none (some hi) none,ty,pos,af,none⟩::rest) Q f w:=by
 have hrun:=Lt (P:=P) (w:=w) (t:=t) (ao:=none) (len:=0) (cap:=0) (lo:=none) (hi:=some (.int k ((0:Nat):Int))) (mx:=none) hu hs (.inl ⟨rfl,rfl⟩) (.inr ⟨k,rfl⟩) (.inl ⟨rfl,rfl⟩) (AkC 0) (AkC 0) (AkC 0);refine P4 hx hu (u:= .slice none 0 0) ?_ h;simp only[Option.map_none,AkL,hj];simpa using hrun
def EqV (P:Program)(k:Nat)(t:TypeId)(u v:Value)(b:Bool):Prop:= ∀d w,(Op.equalIn (d+k) t u v).run P w= .ok b w
theorem EqV.mono {k k':Nat}{u v:Value}{r:Bool}(h:EqV P k t u v r)(hk:k≤k'):EqV P k' t u v r:=fun d w=>by
 have:=h (d+(k'-k)) w;rwa [show d+(k'-k)+k=d+k' from by omega]at this
theorem EqV.int {p q:Int}{k:IntKind}(hu:P.underlying t=some (.int k)):EqV P 1 t (.int k p) (.int k q) (p==q):=fun d w=>by simp[Op.equalIn,AkD hu]
theorem EqV.u64 {p q:UInt64}(hu:P.underlying t=some (.int .u64)):EqV P 1 t (vU p) (vU q) (p==q):=fun d w=>equ_d d hu
theorem EqV.bool {p q:Bool}(hu:P.underlying t=some .bool):EqV P 1 t (vb p) (vb q) (p==q):=fun d w=>by simp[Op.equalIn,AkD hu]
theorem EqV.str {p q:ByteArray}(hu:P.underlying t=some .string):EqV P 1 t (vS p) (vS q) (eqS p q):=fun d w=>by simp[Op.equalIn,AkD hu,Yk]
theorem EqV.sum {e:TypeId}{p q:UInt64×UInt64}(hu:P.underlying t=some (.array 2 e))(he:P.underlying e=some (.int .u64))(hs: ∀w,(sizeOf e).run P w= .ok 1 w)(ha: ∀w,(isAgg e).run P w= .ok false w):
 EqV P 2 t (.agg #[vU p.1,vU p.2]) (.agg #[vU q.1,vU q.2]) (G3 p q):=fun d w=>AjY d hu he hs ha
def FdE (P:Program)(k:Nat)(xs ys:Array Value):List Field→List Bool→Prop
 | [],[]=>True
 |f::fs,b::bs=>(f.name≠ "_" ∧∃u v,(∀w,(part f.type xs f.offset).run P w= .ok u w)∧(∀w,(part f.type ys f.offset).run P w= .ok v w)∧EqV P k f.type u v b)∧FdE P k xs ys fs bs
 |_,_=>False
theorem QQ {k d:Nat}{xs ys:Array Value}: ∀{fs:List Field} {bs:List Bool},FdE P k xs ys fs bs→∀w,(Op.eqFields (d+k) xs ys fs).run P w= .ok (bs.all id) w
 | [],[],_,w=>by simp[Op.eqFields]
 |f::fs,b::bs,⟨⟨hn,u,v,hu,hv,he⟩,h⟩,w=>by
  simp only[Op.eqFields,hn,ne_eq,not_false_eq_true,if_true,AkJ,hu,hv,he d,AkF];cases b
  ·simp
  ·simp only[Alp,Bool.false_eq_true,if_false,QQ h w];simp
 | [],_::_,h,_=>h.elim
 |_::_,[],h,_=>h.elim
theorem EqV.struct {k:Nat}{fs:Array Field}{cs ds:List Value}{bs:List Bool}(hu:P.underlying t=some (.struct fs))(hp:P.stoodInHeld t=false)(h:FdE P k cs.toArray ds.toArray fs.toList bs):EqV P (k+1) t (.agg cs.toArray) (.agg ds.toArray) (bs.all id):=fun d w=>by
 have hf:P.fieldsOf t=fs:=by simp[Program.fieldsOf,hu]
 have:=run_equalIn_struct (P:=P) w (d+k) t cs.toArray ds.toArray (by rw[hf]; exact hu) hp;rw[show d+(k+1)=d+k+1 from rfl,this,hf];exact QQ h w
theorem fd1 {cs:List Value}{e:TypeId}{o:Nat}{u:Value}(ha: ∀w,(isAgg e).run P w= .ok false w)(hs: ∀w,(sizeOf e).run P w= .ok 1 w)(hd:(cs.drop o).take 1=[u]): ∀w,(part e cs.toArray o).run P w= .ok u w:=fun w=>LW (d:=[u]) ha hs hd rfl (fun _=>rfl)
theorem fdA {cs d:List Value}{e:TypeId}{o sz:Nat}(ha: ∀w,(isAgg e).run P w= .ok true w)(hs: ∀w,(sizeOf e).run P w= .ok sz w)(hd:(cs.drop o).take sz=d)(hl:d.length=sz): ∀w,(part e cs.toArray o).run P w= .ok (.agg d.toArray) w:=fun w=>LW ha hs hd hl (fun h=>by cases h)
theorem s_eqlD {k:Nat}{u v:Value}{r:Bool}(hx:ev f x=u)(hy:ev f y=v)(he:EqV P k t u v r)(hk:k≤10000)(hb:(binOp .eql t u v).run P w=((Op.equal t u v).run P w).andThen fun r w=> .ok (.bool r) w)(hg:(eqGuard .eql t x y u v).run P w= .ok () w)
  (h:wpl ρ P N D ops rest Q (upo N f dst (.bool r)) w):wpl ρ P N D ops (⟨dst,.binOp .eql t x y t',ty,pos,af,none⟩::rest) Q f w:=by
 have e1:(Op.equal t u v).run P w= .ok r w:=by
  have:=he (10000-k) w;rwa [show 10000-k+k=10000 from by omega]at this
 exact Xi hx hy hg (by rw[hb,e1]; rfl) h
theorem s_eqlA {k:Nat}{cs ds:List Value}{r:Bool}(hx:ev f x= .agg cs.toArray)(hy:ev f y= .agg ds.toArray)(he:EqV P k t (.agg cs.toArray) (.agg ds.toArray) r)(hk:Nat.ble k 10000=true)(hg:P.eqGuardType P.depth t=false)
  (h:wpl ρ P N D ops rest Q (upo N f dst (.bool r)) w):wpl ρ P N D ops (⟨dst,.binOp .eql t x y t',ty,pos,af,none⟩::rest) Q f w:=
 s_eqlD hx hy he (AkG hk) (by simp[binOp,AkJ]) (by simp[eqGuard,hg]) h
theorem s_neqA {k:Nat}{cs ds:List Value}{r:Bool}(hx:ev f x= .agg cs.toArray)(hy:ev f y= .agg ds.toArray)(he:EqV P k t (.agg cs.toArray) (.agg ds.toArray) r)(hk:Nat.ble k 10000=true)(hg:P.eqGuardType P.depth t=false)
  (h:wpl ρ P N D ops rest Q (upo N f dst (.bool (!r))) w):wpl ρ P N D ops (⟨dst,.binOp .neq t x y t',ty,pos,af,none⟩::rest) Q f w:=by
 have e1:(Op.equal t (.agg cs.toArray) (.agg ds.toArray)).run P w= .ok r w:=by
  have:=he (10000-k) w;rwa [show 10000-k+k=10000 from by have:=AkG hk; omega]at this
 exact Xh hx hy (by simp[eqGuard,hg]) (by simp[binOp,AkJ,e1]) h
end
end Go.Gw
end
