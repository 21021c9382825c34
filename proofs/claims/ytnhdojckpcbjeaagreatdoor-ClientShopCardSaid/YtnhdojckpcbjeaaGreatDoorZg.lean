/- Own slices as blocks: cap, parts, copy, zeros appended beyond the room. Conditions: none. -/
import Derived.Test.YtnhdojckpcbjeaaGreatDoorZb
set_option linter.unusedSimpArgs false
set_option linter.unusedVariables false
set_option maxHeartbeats 2000000
set_option maxRecDepth 100000
namespace Go.Gw
open Go
section
variable {ρ:Option Nat}{P:Program}{N:Nat}{D:Dw}{ops:Array Oper}{rest:List Oper}{Q:DQ}{f:Fr}{w w':World}{v:Value}
variable {dst:Option Nat}{ty t t' t2:TypeId}{pos:String}{af:Array Edge}{x y c a b:Operand}{m:Mem}{As:List Ow}
theorem St.rowBlk {sz n:Nat}{cs:List Value}(hS:St m (row sz v cs n::As) w)(hn:0<n):
  ∃b cap l e fr,v= .slice (some ⟨b,0,none⟩) n cap∧cs.length=n*sz∧l.toList.take (n*sz)=cs∧l.size=cap*sz∧n≤cap∧cap≤maxLen∧Ae1 fr l.size∧(fr.1=fr.2∨sz=1)∧St m (Gw.blk b (.cells l e fr)::As) w:=by
 obtain⟨x,⟨h1,h2,ha,hs,d,ex⟩,d1,g,g',nd⟩:=hS.own;rcases ha with ⟨_,_,h0,_⟩|⟨b,cap,l,e,fr,hv,hh,hc,ht,hl,hnc,hm,hf⟩
 ·omega
 ·exact⟨b,cap,l,e,fr,hv,hc,ht,hl,hnc,hm,hf.1,hf.2,hS.os,hS.tape,hS.output,x,⟨h1,h2,hh,hs,d,ex⟩,d1,g,g',nd⟩
theorem St.blkRow {sz n cap b:Nat}{l:Array Value}{e:TypeId}{fr:Nat×Nat}{cs:List Value}(hS:St m (Gw.blk b (.cells l e fr)::As) w)(hc:cs.length=n*sz)(ht:l.toList.take (n*sz)=cs)(hl:l.size=cap*sz)(hn:n≤cap)(hm:cap≤maxLen)(hf:Ae1 fr l.size)(hf2:fr.1=fr.2∨sz=1):
  St m (row sz (.slice (some ⟨b,0,none⟩) n cap) cs n::As) w:=
 hS.imp0 fun h hh=> .inr ⟨b,cap,l,e,fr,rfl,hh,hc,ht,hl,hn,hm,hf,hf2⟩
theorem s_cap {ao:Option Addr}{n cap:Nat}{e:TypeId}(hx:ev f x= .slice ao n cap)(hu:P.underlying t=some (.slice e))(h:wpl ρ P N D ops rest Q (upo N f dst (vI (cap:Int))) w):
  wpl ρ P N D ops (⟨dst,.call {callee:= .builtin .cap,args:= #[x],argTypes:= #[t]},ty,pos,af,none⟩::rest) Q f w:=
 AE (v:=vI (cap:Int)) (w':=w) rfl (fun _ e=>by cases e) (by simp[execOp,resolve,invoke,builtin,Builtin.cap_,hx,AlO hu,goInt]) h
theorem Ro {b o n cap sz j:Nat}{lo:Operand}{e:TypeId}{k:IntKind}(hx:ev f x= .slice (some ⟨b,o,none⟩) n cap)(hj:ev f lo= .int k (j:Int))(hu:P.underlying t=some (.slice e))(hs: ∀w,(sizeOf e).run P w= .ok sz w)(h1:j≤n)(h2:n≤cap)(h3:j<cap)
  (h:wpl ρ P N D ops rest Q (upo N f dst (.slice (some ⟨b,o+j*sz,none⟩) (n-j) (cap-j))) w):
  wpl ρ P N D ops (⟨dst,.slice t x (some lo) none none,ty,pos,af,none⟩::rest) Q f w:=by
 have hrun:=GO (P:=P) (w:=w) (t:=t) (ao:=some ⟨b,o,none⟩) (len:=n) (cap:=cap) (lo:=some (.int k (j:Int))) (hi:=none) (mx:=none) hu hs (.inr ⟨k,rfl⟩) (.inl ⟨rfl,rfl⟩) (.inl ⟨rfl,rfl⟩) h1 h2 (AlK _);refine KK hx hu (by simp only[Option.map_none,AlV,hj]; exact hrun) ?_;rw[AlG (by omega),AlV,Ex];exact h
theorem AhC {b o n cap sz j:Nat}{hi:Operand}{e:TypeId}{k:IntKind}(hx:ev f x= .slice (some ⟨b,o,none⟩) n cap)(hj:ev f hi= .int k (j:Int))(hu:P.underlying t=some (.slice e))(hs: ∀w,(sizeOf e).run P w= .ok sz w)(h1:j≤cap)(h3:0<cap)
  (h:wpl ρ P N D ops rest Q (upo N f dst (.slice (some ⟨b,o,none⟩) j cap)) w):
  wpl ρ P N D ops (⟨dst,.slice t x none (some hi) none,ty,pos,af,none⟩::rest) Q f w:=by
 have hrun:=GO (P:=P) (w:=w) (t:=t) (ao:=some ⟨b,o,none⟩) (len:=n) (cap:=cap) (lo:=none) (hi:=some (.int k (j:Int))) (mx:=none) hu hs (.inl ⟨rfl,rfl⟩) (.inr ⟨k,rfl⟩) (.inl ⟨rfl,rfl⟩) (AmO _) h1 (AlK _);refine KK hx hu (by simp only[Option.map_none,AlV,hj]; exact hrun) ?_;rw[AlG (by omega),AlV,Ex];simpa using h
theorem Y6 {i b o n cap sz k sl:Nat}{l:Array Value}{e' e:TypeId}{fr:Nat×Nat}{src:Value}{ds:List Value}(hS:St m As w)(hA:As[i]? =some (Gw.blk b (.cells l e' fr)))(hx:ev f x= .slice (some ⟨b,o,none⟩) n cap)(hy:ev f y=src)(hu:P.underlying t=some (.slice e))(hs: ∀w,(sizeOf e).run P w= .ok sz w)
  (hlen:(Builtin.lenOf src).run P w= .ok sl w) (hk:Nat.min sl n=k) (hf:(Builtin.firstCells sz k src).run P w= .ok ds.toArray w) (h1: ∀u∈ds,u.oneCell'=true) (hfit:o+ds.length≤l.size) (hfr:Ae1 fr l.size)
  (h: ∀w',St m (As.set i (Gw.blk b (.cells (l.toList.take o++ds++l.toList.drop (o+ds.length)).toArray e' fr))) w'→wpl ρ P N D ops rest Q (upo N f dst (vI (k:Int))) w'):
  wpl ρ P N D ops (⟨dst,.call {callee:= .builtin .copy,args:= #[x,y],argTypes:= #[t,t]},ty,pos,af,none⟩::rest) Q f w:=by
 have hb:=hS.blk hA;have hst:=FU (P:=P) (off:=o) (e:=e') (fr:=fr) ds h1 l.toList 0 (by simpa using hfit) (by simpa using hfr) (by simpa using hb);simp only[AmH]at hst;refine AE (v:=vI (k:Int)) (w':={w with heap:=w.heap.setIfInBounds b (.cells (l.toList.take o++ds++l.toList.drop (o+ds.length)).toArray e' fr)}) rfl (fun _ e=>by cases e) ?_ (h _ (hS.put hA _ _ rfl rfl rfl rfl CA)) (Kd.set hb CA rfl);simp[execOp,resolve,invoke,builtin,hx,hy,Builtin.copy_,AlO hu,hlen,hs,hk,hf,hst,goInt]
theorem s_appZ {sz bytes b i cap k:Nat}{l:Array Value}{e' e:TypeId}{fr:Nat×Nat}{z:Value}{ti:TypeInfo}{ik:IntKind}(hS:St m (Gw.blk b (.cells l e' fr)::As) w)(hx:ev f x= .slice (some ⟨b,0,none⟩) i cap)(hy:ev f y=vI (k:Int))(hk:0<k)(hgr:cap<i+k)(hil:i*sz≤l.size)
  (hb:(i+k)*bytes≤140737488355328) (h63:i+k≤140737488355328)
  (ht:P.underlying t=some (.slice e)) (ht2:P.underlying t2=some (.int ik)) (hi:P.info? e=some ti) (hz:ti.zero=some z) (hsz:ti.size=sz) (hby:ti.bytes=bytes) (hzs:z.cells.size=sz) (hs1:0<sz)
  (h: ∀nb c2 w' (L:Array Value),i+k≤c2→c2≤maxLen→L.size=c2*sz→L.toList.take (i*sz)=l.toList.take (i*sz)→St m (Gw.blk nb (.cells L e (0,0))::Gw.blk b (.cells l e' fr)::As) w'→wpl ρ P N D ops rest Q (upo N f dst (.slice (some ⟨nb,0,none⟩) (i+k) c2)) w'):
  wpl ρ P N D ops (⟨dst,.call {callee:= .builtin .append,args:= #[x,y],argTypes:= #[t,t2]},ty,pos,af,none⟩::rest) Q f w:=by
 subst hsz hby;have hun: ∀w,(underlying t).run P w= .ok (.slice e) w:=fun w=>AlO ht w;have hu2: ∀w,(underlying t2).run P w= .ok (.int ik) w:=fun w=>AlO ht2 w;have hw:IntKind.i64.wrap (k:Int)=(k:Int):=by rw[G1,Bn (by omega) (by omega)]
 have hge:=grownCap_ge w (i+k) cap e;have hcm:grownCap w (i+k) cap e≤maxLen:=grownCap_le_maxLen w (i+k) cap e (by simp only[maxLen]; omega);have hfit:=growslice_fits (need:=i+k) (old:=cap) hgr hb;have hkb:k*ti.bytes≤140737488355328:=Amv (Nat.mul_le_mul_right _ (Nat.le_add_left k i)) hb;have hl0: ¬((k:Int)<0):=by omega
 have hl1: ¬(281474976710656<(k:Int)*(ti.bytes:Int)):=by
  have:((k*ti.bytes:Nat):Int)≤140737488355328:=Int.ofNat_le.2 hkb;rw[Int.natCast_mul]at this; omega
 have hl2: ¬(i+k≤cap):=by omega
 have hl3: ¬(9223372036854775807<((i:Int)+(k:Int))):=by omega
 have hl4: ¬(281474976710656<Builtin.nextslicecap (i+k) cap*ti.bytes):=by omega
 have hz0: ¬(k*ti.size=0):=by have:=Nat.mul_pos hk hs1; omega
 have hz0': ¬(k=0∨ti.size=0):=fun q=>by omega
 have hz1:ti.size≠0:=by omega
 have hz2:k≠0:=by omega
 have hbw:=hS.blk (i:=0) rfl;have hlen:(l.toList.take (i*ti.size)).length=i*ti.size:=by rw[Al0,Array.length_toList]; omega
 have hfo:(Builtin.firstCells ti.size i (.slice (some ⟨b,0,none⟩) i cap)).run P w.drew= .ok (l.toList.take (i*ti.size)).toArray w.drew:=by
  have hb':w.drew.heap[b]? =some (.cells l e' fr):=hbw;have:=Du (P:=P) (off:=0) hb' (l.toList.take (i*ti.size)) 0 #[] (fun j x hx=>by
   rw[List.getElem?_take]at hx;split at hx
   ·simpa using hx
   ·cases hx)
  simp only[Builtin.firstCells,loadCells];rw[hlen]at this;rw[this]; simp
 refine AE (v:= .slice (some ⟨w.heap.size,0,none⟩) (i+k) (grownCap w (i+k) cap e)) (w':=w.drew.alloc (.cells ((l.toList.take (i*ti.size)).toArray++Builtin.zeroCells z.cells k++Builtin.zeroCells z.cells (grownCap w (i+k) cap e-(i+k))) e)) rfl (fun _ e=>by cases e) ?_
  (h _ _ _ _ hge hcm ?_ ?_ ((hS.drew (w.drawn+1)).push _ CA)) ((Kd.heap rfl:Kd w w.drew).tr (Kd.push w.drew _))
 ·simp[execOp,resolve,invoke,builtin,hx,hy,Builtin.append_,hun,hu2,sizeOf,typeInfo,zeroValue,hi,hz,asInt,asIntOf,hw,hl0,hl1,hl2,hl3,hl4,Question.forced,hfo,newRow,grownCap,hz0,hz0',hz1,hz2]
 ·simp only[Array.size_append,List.size_toArray,size_zeroCells,hzs,hlen,←Nat.add_mul];congr 1; omega
 ·simp only[Array.toList_append,AlP];rw[List.take_append_of_le_length (by simp[hlen]),Al8 (by simp[hlen])]
theorem Wg {ps rs:Array TypeId}{e:TypeId}{sz n1 c1 n2 c2 b1 o1 b2 o2:Nat}{l1 l2:Array Value}{e1 e2:TypeId}{fr1 fr2:Nat×Nat}(hp:ps[0]? =some t)(hu:P.underlying t=some (.slice e))(hs: ∀w,(sizeOf e).run P w= .ok sz w)(h1:n1≠0)(h2:n2≠0)(hs0:sz≠0)(hne:b1≠b2)
  (hb1:w.heap[b1]? =some (.cells l1 e1 fr1)) (hb2:w.heap[b2]? =some (.cells l2 e2 fr2)) (hl1:l1.size≠0) (hfr:fr2.1=fr2.2):
  (Extern.SlicesOverlaps.overlaps ps rs #[.slice (some ⟨b1,o1,none⟩) n1 c1,.slice (some ⟨b2,o2,none⟩) n2 c2]).run P w= .ok (.bool false) w:=by
 have f2: ∀o,w.frozen? ⟨b2,o,none⟩=false:=fun o=>by
  simp only[World.frozen?,hb2,hfr];by_cases q:fr2.2≤o
  ·simp[show¬(o<fr2.2) by omega]
  ·simp[q]
 have s1:w.shape? b1=some (e1,l1.size):=by simp[World.shape?,hb1]
 have s2:w.shape? b2=some (e2,l2.size):=by simp[World.shape?,hb2]
 have hu':=AlO hu w;rw[show Extern.SlicesOverlaps.overlaps ps rs #[.slice (some ⟨b1,o1,none⟩) n1 c1,.slice (some ⟨b2,o2,none⟩) n2 c2]=(do
  let some t:=ps[0]? |stuck "slices.overlaps: no parameter types"
  let .slice elem←underlying t|stuck "slices.overlaps: slice type expected"
  let size←sizeOf elem
  if n1=0∨n2=0∨size=0 then pure (.bool false)
  else if b1 !=b2&&(←frozen ⟨b1,o1,none⟩)&&(←frozen ⟨b2,o2,none⟩)then unsupported .addressObserved
  else do
   if b1 !=b2 then do
    noView ⟨b1,o1,none⟩; noView ⟨b2,o2,none⟩
    if←mayBeOne ⟨b1,o1,none⟩ ⟨b2,o2,none⟩then return .bool ((←choose (.extern "sameAddr.stringBytes" 2))==1)
   pure (.bool (b1==b2&&o1<o2+n2*size&&o2<o1+n1*size)))from rfl]
 simp[hp,hu',hs,h1,h2,hs0,hne,f2,s1,s2,frozen,noView,viewAt,mayBeOne,stringish,shape,Sem.run,hl1]
theorem Aal {kf:FuncId}{fn:Func}{ps rs:Array TypeId}{ats:Array TypeId}{e:TypeId}{sz n1 c1 n2 c2 b1 o1 b2 o2:Nat}{l1 l2:Array Value}{e1 e2:TypeId}{fr1 fr2:Nat×Nat}
  (hf:P.funcs[kf]? =some fn) (hname:(fn.name== "runtime.NumGoroutine")=false) (hb:fn.body.isNone=true) (hn:Extern.findNext fn=none) (he:Extern.find fn=some (Extern.SlicesOverlaps.overlaps ps rs))
  (hx:ev f x= .slice (some ⟨b1,o1,none⟩) n1 c1) (hy:ev f y= .slice (some ⟨b2,o2,none⟩) n2 c2) (hp:ps[0]? =some t) (hu:P.underlying t=some (.slice e)) (hs: ∀w,(sizeOf e).run P w= .ok sz w) (h1:n1≠0) (h2:n2≠0) (hs0:sz≠0) (hne:b1≠b2)
  (hb1:w.heap[b1]? =some (.cells l1 e1 fr1)) (hb2:w.heap[b2]? =some (.cells l2 e2 fr2)) (hl1:l1.size≠0) (hfr:fr2.1=fr2.2) (h:wpl ρ P N D ops rest Q (upo N f dst (vb false)) w):
  wpl ρ P N D ops (⟨dst,.call {callee:= .value (.func kf),args:= #[x,y],argTypes:=ats},ty,pos,af,none⟩::rest) Q f w:=by
 refine AE (v:=vb false) (w':=w) rfl (fun _ e=>by cases e) ?_ h;have hr:=run_callFunc_extern hf hname hb hn he #[.slice (some ⟨b1,o1,none⟩) n1 c1,.slice (some ⟨b2,o2,none⟩) n2 c2] w;rw[Wg hp hu hs h1 h2 hs0 hne hb1 hb2 hl1 hfr]at hr;simp only[ev]at hx hy;simp only[execOp,resolve,invoke,Deferred.ofValue,List.map_toArray,Amd,List.map_nil,ev,hx,hy,AlU,AlT,AlQ,Array.empty_append,Array.append_empty,hr,Result.andThen]
theorem MJ {b off sz k n c:Nat}{l:Array Value}{e:TypeId}{fr:Nat×Nat}(hb:w.heap[b]? =some (.cells l e fr))(h:off+k*sz≤l.size):
  (Builtin.firstCells sz k (.slice (some ⟨b,off,none⟩) n c)).run P w= .ok ((l.toList.drop off).take (k*sz)).toArray w:=by
 have hlen:((l.toList.drop off).take (k*sz)).length=k*sz:=by rw[Al0,Amg,Array.length_toList]; omega
 have:=Du (P:=P) (off:=off) hb ((l.toList.drop off).take (k*sz)) 0 #[] (fun j x hx=>by
  rw[List.getElem?_take]at hx;split at hx
  ·rw[List.getElem?_drop]at hx; simpa using hx
  ·cases hx)
 simp only[Builtin.firstCells,loadCells];rw[hlen]at this;rw[this]; simp
theorem insA {α:Type}{L c0 ds:List α}{p q s:Nat}(hq:ds.length=q)(hs:c0.length=p+s)(hp:L.take p=c0.take p)(hL:p+q+s≤L.length):
  ((L.take p++ds++L.drop (p+q)).take (p+q)++c0.drop p++(L.take p++ds++L.drop (p+q)).drop (p+q+s)).take (p+q+s)=c0.take p++ds++c0.drop p:=by
 have e1:(L.take p++ds++L.drop (p+q)).take (p+q)=L.take p++ds:=List.take_left' (by rw[AlI,Al0]; omega);rw[e1,List.take_left' (by rw[AlI,AlI,Al0,Amg]; omega),hp]
theorem insB {α:Type}{l c0 ds:List α}{p q s:Nat}(hq:ds.length=q)(hc:l.take (p+s)=c0)(hl:p+q+s≤l.length):
  ((l.take (p+q)++c0.drop p++l.drop (p+q+s)).take p++ds++(l.take (p+q)++c0.drop p++l.drop (p+q+s)).drop (p+q)).take (p+q+s)=c0.take p++ds++c0.drop p:=by
 have hcl:c0.length=p+s:=by rw[←hc,Al0]; omega
 have e1:(l.take (p+q)++c0.drop p++l.drop (p+q+s)).take p=c0.take p:=by
  rw[AlP,List.take_append_of_le_length (by rw[Al0]; omega),List.take_take,←hc,List.take_take];congr 1; omega
 have e2:(l.take (p+q)++c0.drop p++l.drop (p+q+s)).drop (p+q)=c0.drop p++l.drop (p+q+s):=by
  rw[AlP,List.drop_left' (by rw[Al0]; omega)]
 rw[e1,e2,←AlP,List.take_left' (by rw[AlI,AlI,Al0,Amg]; omega)]
theorem Nq {a b:Nat}(h:a+b≤140737488355328):w64 ((a:Int)+(b:Int))=((a+b:Nat):Int):=by rw[Bn (by omega) (by omega)]; omega
theorem Afc {a b:Nat}(h:a≤140737488355328)(k:b≤a):w64 ((a:Int)-(b:Int))=((a-b:Nat):Int):=by rw[Bn (by omega) (by omega)]; omega
end
end Go.Gw
