/- Several texts, one behind the other. Conditions: none. -/
import Derived.WalkKit
import Derived.RangeFuncNested
import Derived.RangeFuncLeaves
import Derived.RangeFuncRecord
import Derived.OrdersIn
import Derived.ProofKit
import Derived.OpenShut
import Derived.WideKeyArgs
import Derived.ChangeArms
import Derived.ChangeSame
import Derived.RowKit
import Derived.Lib.LaidTab
set_option linter.unusedSimpArgs false
set_option linter.unusedVariables false
set_option maxHeartbeats 2000000
namespace Go
theorem Akr:type_of% @Option.some.inj:=@Option.some.inj
theorem Aks:type_of% @Bool.and_eq_true:=@Bool.and_eq_true
theorem Akt:type_of% @Prod.mk.injEq:=@Prod.mk.injEq
theorem Aku:type_of% @Nat.eq_of_beq_eq_true:=@Nat.eq_of_beq_eq_true
theorem Akv:type_of% @Option.some.injEq:=@Option.some.injEq
theorem Akw:type_of% @List.append_assoc:=@List.append_assoc
theorem Akx:type_of% @Option.map_eq_some_iff:=@Option.map_eq_some_iff
theorem Aky:type_of% @if_neg:=@if_neg
theorem Akz:type_of% @List.length_append:=@List.length_append
theorem AkA:type_of% @if_pos:=@if_pos
theorem AkB:type_of% @List.length_cons:=@List.length_cons
theorem AkC:type_of% @Nat.le_refl:=@Nat.le_refl
theorem AkD:type_of% @run_underlying:=@run_underlying
theorem AkE:type_of% @List.perm_append_comm_assoc:=@List.perm_append_comm_assoc
theorem AkF:type_of% @Result.andThen_ok:=@Result.andThen_ok
theorem AkG:type_of% @Nat.le_of_ble_eq_true:=@Nat.le_of_ble_eq_true
theorem AkH:type_of% @decide_eq_true_eq:=@decide_eq_true_eq
theorem AkI:type_of% @List.all_eq_true:=@List.all_eq_true
theorem AkJ:type_of% @Sem.run_bind:=@Sem.run_bind
theorem AkK:type_of% @Sem.run_pure:=@Sem.run_pure
theorem AkL:type_of% @Option.map_some:=@Option.map_some
theorem AkM:type_of% @Array.getElem?_eq_some_iff:=@Array.getElem?_eq_some_iff
theorem AkN:type_of% @List.mem_cons_self:=@List.mem_cons_self
theorem AkO:type_of% @Nat.lt_succ_self:=@Nat.lt_succ_self
theorem AkP:type_of% @List.getElem?_map:=@List.getElem?_map
theorem AkQ:type_of% @List.mem_of_getElem?:=@List.mem_of_getElem?
theorem AkR:type_of% @List.getElem?_eq_some_iff:=@List.getElem?_eq_some_iff
theorem AkS:type_of% @List.mem_append:=@List.mem_append
theorem AkT:type_of% @List.mem_cons_of_mem:=@List.mem_cons_of_mem
theorem AkU:type_of% @List.Perm.append_left:=@List.Perm.append_left
theorem AkV:type_of% @List.getElem?_eq_getElem:=@List.getElem?_eq_getElem
theorem AkW:type_of% @List.length_map:=@List.length_map
theorem AkX:type_of% @List.append_nil:=@List.append_nil
theorem AkY:type_of% @List.length_nil:=@List.length_nil
theorem AkZ:type_of% @List.map_cons:=@List.map_cons
theorem Ak0:type_of% @Nat.mod_eq_of_lt:=@Nat.mod_eq_of_lt
theorem Ak1:type_of% @List.mem_cons:=@List.mem_cons
theorem Ak2:type_of% @List.nil_append:=@List.nil_append
theorem Ak3:type_of% @List.map_append:=@List.map_append
theorem Ak4:type_of% @List.flatMap_cons:=@List.flatMap_cons
theorem Ak5:type_of% @List.take_of_length_le:=@List.take_of_length_le
theorem Ak6:type_of% @List.drop_eq_nil_of_le:=@List.drop_eq_nil_of_le
theorem Ak7:type_of% @List.length_take:=@List.length_take
theorem Ak8:type_of% @List.Perm.swap:=@List.Perm.swap
theorem Ak9:type_of% @Nat.zero_add:=@Nat.zero_add
theorem Ala:type_of% @Bool.true_and:=@Bool.true_and
theorem Alb:type_of% @beq_eq_false_iff_ne:=@beq_eq_false_iff_ne
theorem Alc:type_of% @congrArg:=@congrArg
theorem Ald:type_of% @Int.natCast_nonneg:=@Int.natCast_nonneg
theorem Ale:type_of% @Nat.le_succ:=@Nat.le_succ
theorem Alf:type_of% @List.all_cons:=@List.all_cons
theorem Alg:type_of% @Int.toNat_natCast:=@Int.toNat_natCast
theorem Alh:type_of% @Bool.or_eq_true:=@Bool.or_eq_true
theorem Ali:type_of% @Nat.lt_of_le_of_lt:=@Nat.lt_of_le_of_lt
theorem Alj:type_of% @List.perm_middle:=@List.perm_middle
theorem Alk:type_of% @Nat.mod_lt:=@Nat.mod_lt
theorem All:type_of% @List.drop_drop:=@List.drop_drop
theorem Alm:type_of% @Nat.mul_comm:=@Nat.mul_comm
theorem Aln:type_of% @List.length_drop:=@List.length_drop
theorem Alo:type_of% @Nat.add_assoc:=@Nat.add_assoc
theorem Alp:type_of% @Bool.not_true:=@Bool.not_true
theorem Alq:type_of% @decide_eq_true:=@decide_eq_true
theorem Alr:type_of% @Bool.not_false:=@Bool.not_false
theorem Als:type_of% @Nat.zero_le:=@Nat.zero_le
theorem Alu:type_of% @beq_iff_eq:=@beq_iff_eq
theorem Alv:type_of% @List.Sublist.map:=@List.Sublist.map
theorem Alw:type_of% @Nat.lt_of_lt_of_le:=@Nat.lt_of_lt_of_le
theorem Alx:type_of% @Bool.false_or:=@Bool.false_or
theorem Aly:type_of% @Bool.eq_iff_iff:=@Bool.eq_iff_iff
theorem Alz:type_of% @decide_eq_decide:=@decide_eq_decide
theorem AlA:type_of% @List.cons_append:=@List.cons_append
theorem AlB:type_of% @List.mem_singleton:=@List.mem_singleton
end Go
section
namespace Go.Gw
open Go
def GT0:List (Nat×List Value):=[(0,[.int .i64 1,.func (.func 409) #[] #[],.int .i64 2,.func (.func 73) #[] #[],.int .i64 4,.func (.func 410) #[] #[],.int .i64 12,.func (.func 411) #[] #[],.int .i64 48,.func (.func 414) #[] #[]]),(8,[.int .u64 1,.int .u64 10,.int .u64 100,.int .u64 1000,.int .u64 10000,.int .u64 100000,.int .u64 1000000,.int .u64 10000000,.int .u64 100000000,.int .u64 1000000000,.int .u64 10000000000,.int .u64 100000000000,.int .u64 1000000000000,.int .u64 10000000000000,.int .u64 100000000000000,.int .u64 1000000000000000,.int .u64 10000000000000000,.int .u64 100000000000000000,.int .u64 1000000000000000000,.int .u64 10000000000000000000])]
def GI0:List Nat:=[6,7]
abbrev PH:=Nat→Option Obj
structure Mem where
 heap:PH
 os:Os
 tape:Nat→Question→Nat
 output:Array (Nat×ByteArray)
structure Mem.Le (m m':Mem):Prop where
 os:m'.os=m.os
 tape:m'.tape=m.tape
 output:m'.output=m.output
 heap: ∀k o,m.heap k=some o→m'.heap k=some o
instance:LE Mem:=⟨Mem.Le⟩
theorem Mem.rfl' (m:Mem):m≤m:=⟨rfl,rfl,rfl,fun _ _ h=>h⟩
theorem Mem.tr {a b c:Mem}(h:a≤b)(k:b≤c):a≤c:=
 ⟨k.os.trans h.os,k.tape.trans h.tape,k.output.trans h.output,fun i o hi=>k.heap i o (h.heap i o hi)⟩
abbrev Ow:=PH→Prop
def PH.emp:PH:=fun _=>none
def PH.one (b:Nat)(o:Obj):PH:=fun k=>if k=b then some o else none
def PH.disj (a b:PH):Prop:= ∀k,a k=none∨b k=none
def PH.join (a b:PH):PH:=fun k=>(a k).or (b k)
def PH.agree (h:PH)(w:World):Prop:= ∀k o,h k=some o→w.heap[k]? =some o
theorem PH.disj_symm {a b:PH}(h:a.disj b):b.disj a:=fun k=>(h k).symm
theorem PH.join_comm {a b:PH}(h:a.disj b):a.join b=b.join a:=by
 funext k;rcases h k with e|e<;>simp[PH.join,e]
theorem PH.join_assoc (a b c:PH):(a.join b).join c=a.join (b.join c):=by
 funext k; simp[PH.join,Option.or_assoc]
theorem PH.join_emp (a:PH):a.join PH.emp=a:=by funext k; simp[PH.join,PH.emp]
theorem PH.emp_join (a:PH):PH.emp.join a=a:=by funext k; simp[PH.join,PH.emp]
theorem PH.disj_emp (a:PH):a.disj PH.emp:=fun _=> .inr rfl
theorem PH.disj_join {a b c:PH}:a.disj (b.join c)↔a.disj b∧a.disj c:=by
 constructor
 ·intro h;refine⟨fun k=> ?_,fun k=> ?_⟩<;>rcases h k with e|e
  ·exact .inl e
  ·simp[PH.join]at e; exact .inr e.1
  ·exact .inl e
  ·simp[PH.join]at e; exact .inr e.2
 ·rintro⟨h,h'⟩ k;rcases h k with e|e
  ·exact .inl e
  ·rcases h' k with e'|e'
   ·exact .inl e'
   ·exact .inr (by simp[PH.join,e,e'])
theorem PH.join_disj {a b c:PH}:(a.join b).disj c↔a.disj c∧b.disj c:=by
 constructor
 ·intro h; have:=PH.disj_join.1 (PH.disj_symm h); exact⟨PH.disj_symm this.1,PH.disj_symm this.2⟩
 ·rintro⟨h,h'⟩; exact PH.disj_symm (PH.disj_join.2 ⟨PH.disj_symm h,PH.disj_symm h'⟩)
theorem PH.agree_join {a b:PH}{w:World}(h:a.disj b):(a.join b).agree w↔a.agree w∧b.agree w:=by
 constructor
 ·intro g;refine⟨fun k o e=>g k o (by simp[PH.join,e]),fun k o e=>g k o ?_⟩;rcases h k with e'|e'
  ·simp[PH.join,e,e']
  ·rw[e']at e; cases e
 ·rintro⟨g,g'⟩ k o e;simp only[PH.join]at e;cases ha:a k with
  |some x=>rw[ha]at e; simp at e; exact e▸g k x ha
  |none=>rw[ha]at e; simp at e; exact g' k o e
theorem PH.agree_emp (w:World):PH.emp.agree w:=fun k o h=>by simp[PH.emp]at h
theorem PH.agree_one {b:Nat}{o:Obj}{w:World}:(PH.one b o).agree w↔w.heap[b]? =some o:=by
 constructor
 ·intro h; exact h b o (by simp[PH.one])
 ·intro h k x e;simp only[PH.one]at e;split at e
  ·rename_i hk; subst hk; cases e; exact h
  ·cases e
theorem PH.lt_of_agree {h:PH}{w:World}(g:h.agree w){k:Nat}{o:Obj}(e:h k=some o):k<w.heap.size:=
 (AkM.1 (g k o e)).1
theorem PH.disj_fresh {h:PH}{w:World}(g:h.agree w){b:Nat}(hb:w.heap.size≤b)(o:Obj):h.disj (PH.one b o):=by
 intro k;by_cases hk:k=b
 ·subst hk;cases e:h k with
  |none=>exact .inl rfl
  |some x=>have:=PH.lt_of_agree g e; omega
 ·exact .inr (by simp[PH.one,hk])
def dfr:Obj:= .deferred (some [])
def Nd (p:PH):Prop:= ∀b,p b≠some dfr
theorem Nd.one {b:Nat}{o:Obj}(h:o≠dfr):Nd (PH.one b o):=fun k e=>by
 simp only[PH.one]at e;split at e
 ·cases e; exact h rfl
 ·cases e
theorem Nd.emp:Nd PH.emp:=fun _ e=>by cases e
theorem Nd.join {a b:PH}(ha:Nd a)(hb:Nd b):Nd (a.join b):=fun k e=>by
 simp only[PH.join]at e;cases h:a k with
 |some x=>rw[h]at e; simp at e; subst e; exact ha k h
 |none=>rw[h]at e; simp at e; exact hb k e
theorem Nd.left {a b:PH}(h:Nd (a.join b)):Nd a:=fun k e=>h k (by simp[PH.join,e])
theorem Nd.right {a b:PH}(d:a.disj b)(h:Nd (a.join b)):Nd b:=fun k e=>by
 rcases d k with q|q
 ·exact h k (by simp[PH.join,e,q])
 ·rw[q]at e; cases e
theorem CI {l:Array Value}{e:TypeId}{fr:Nat×Nat}:Obj.cells l e fr≠dfr:=fun h=>by cases h
structure Kd (w w':World):Prop where
 size:w.heap.size≤w'.heap.size
 same: ∀b:Nat,w.heap[b]? =some dfr→w'.heap[b]? =some dfr
theorem Kd.rfl' (w:World):Kd w w:=⟨AkC _,fun _ h=>h⟩
theorem Kd.tr {a b c:World}(h:Kd a b)(k:Kd b c):Kd a c:=⟨Nat.le_trans h.size k.size,fun i e=>k.same i (h.same i e)⟩
theorem Kd.push (w:World)(o:Obj):Kd w (w.alloc o):=⟨by show w.heap.size≤(w.heap.push o).size; simp,fun b e=>by
 show(w.heap.push o)[b]? =_;have:=(AkM.1 e).1;rw[Array.getElem?_push,Aky (by omega)]; exact e⟩
theorem Kd.heap {w w':World}(h:w'.heap=w.heap):Kd w w':=⟨by rw[h]; exact AkC _,fun b e=>by rw[h]; exact e⟩
theorem Kd.set {w w':World}{b:Nat}{o o':Obj}(hb:w.heap[b]? =some o)(ho:o≠dfr)(h:w'.heap=w.heap.setIfInBounds b o'):Kd w w':=⟨by rw[h]; simp,fun k e=>by
 rw[h];by_cases q:k=b
 ·subst q; rw[hb]at e; cases e; exact absurd rfl ho
 ·rw[Array.getElem?_setIfInBounds_ne (Ne.symm q)]; exact e⟩
structure Pd (w w':World):Prop where
 os:w'.os=w.os
 tape:w'.tape=w.tape
 output:w'.output=w.output
 heap: ∀(k:Nat) (o:Obj),o≠dfr→w.heap[k]? =some o→w'.heap[k]? =some o
theorem Pd.rfl' (w:World):Pd w w:=⟨rfl,rfl,rfl,fun _ _ _ h=>h⟩
theorem Pd.tr {a b c:World}(h:Pd a b)(k:Pd b c):Pd a c:=⟨k.os.trans h.os,k.tape.trans h.tape,k.output.trans h.output,fun i o n e=>k.heap i o n (h.heap i o n e)⟩
def sepL:List Ow→Ow
 | []=>fun h=>h=PH.emp
 |A::As=>fun h=> ∃h1 h2,A h1∧sepL As h2∧h1.disj h2∧h=h1.join h2
def GB (m:Mem):Prop:=(∀p∈GT0,∃l e fr,m.heap p.1=some (.cells l e fr)∧(∀(i:Nat) (x:Value),p.2[i]? =some x→l[i]? =some x)∧l.size=p.2.length)∧∀g∈GI0,∃l e fr t v,m.heap g=some (.cells l e fr)∧l[0]? =some (.iface t v)
theorem GB.up {m M:Mem}(l:m≤M)(h:GB m):GB M:=⟨fun p hp=>let ⟨a,e,fr,b,c⟩:=h.1 p hp; ⟨a,e,fr,l.heap _ _ b,c⟩,fun g hg=>let ⟨a,e,fr,t,v,b,c⟩:=h.2 g hg; ⟨a,e,fr,t,v,l.heap _ _ b,c⟩⟩
structure St (m:Mem)(As:List Ow)(w:World):Prop where
 os:w.os=m.os
 tape:w.tape=m.tape∧GB m
 output:w.output=m.output
 own: ∃h,sepL As h∧m.heap.disj h∧m.heap.agree w∧h.agree w∧Nd (m.heap.join h)
def blk (b:Nat)(o:Obj):Ow:=fun h=>h=PH.one b o
section
variable {m m':Mem}{As Bs:List Ow}{A B:Ow}{w w':World}
theorem AbP {h:PH}(H:sepL (A::B::As) h):sepL (B::A::As) h:=by
 obtain⟨h1,_,ha,⟨h2,h3,hb,hs,d23,rfl⟩,d,rfl⟩:=H;obtain⟨d12,d13⟩:=PH.disj_join.1 d;refine⟨h2,h1.join h3,hb,⟨h1,h3,ha,hs,d13,rfl⟩,PH.disj_join.2 ⟨PH.disj_symm d12,d23⟩,?_⟩;rw[←PH.join_assoc,←PH.join_assoc,PH.join_comm d12]
theorem Na (p:As.Perm Bs): ∀{h:PH},sepL As h→sepL Bs h:=by
 induction p with
 |nil=>exact fun h=>h
 |cons x _ ih=>rintro h ⟨h1,h2,a,b,c,d⟩; exact⟨h1,h2,a,ih b,c,d⟩
 |swap x y l=>exact AbP
 |trans _ _ ih1 ih2=>exact fun h=>ih2 (ih1 h)
theorem St.perm (h:St m As w)(p:As.Perm Bs):St m Bs w:=
 let ⟨x,s,d,g,g',n⟩:=h.own; ⟨h.os,h.tape,h.output,x,Na p s,d,g,g',n⟩
theorem St.pd (h:St m As w)(p:Pd w w'):St m As w':=
 let ⟨x,s,d,g,g',n⟩:=h.own
 ⟨p.os.trans h.os,⟨p.tape.trans h.tape.1,h.tape.2⟩,p.output.trans h.output,x,s,d,fun k o e=>p.heap k o (fun q=>n.left k (q▸e)) (g k o e),fun k o e=>p.heap k o (fun q=>n.right d k (q▸e)) (g' k o e),n⟩
theorem Rj {i:Nat}(hi:As[i]? =some A):As.Perm (A::As.eraseIdx i):=by
 induction As generalizing i with
 |nil=>simp at hi
 |cons B As ih=>
  cases i with
  |zero=>simp at hi; subst hi; exact List.Perm.refl _
  |succ i=>
   simp at hi;exact((ih hi).cons B).trans (Ak8 A B _)
theorem AcA {i:Nat}(hi:As[i]? =some A)(A':Ow):(A'::As.eraseIdx i).Perm (As.set i A'):=by
 have hlt:=(AkR.1 hi).1;have h:(As.set i A')[i]? =some A':=by simp[hlt]
 have:=Rj h;rw[List.eraseIdx_set_eq]at this;exact this.symm
theorem St.take (h:St m As w){i:Nat}(hi:As[i]? =some A):
  ∃h1,A h1∧h1.agree w∧m.heap.disj h1∧∀(A':Ow) (h1':PH) (w':World),A' h1'→
   (∀k,h1' k≠none→h1 k≠none∨w.heap.size≤k)→h1'.agree w'→(∀k,k<w.heap.size→h1 k=none→w'.heap[k]? =w.heap[k]?)→
   w'.os=w.os→w'.tape=w.tape→w'.output=w.output→(Nd h1→Nd h1')→St m (As.set i A') w':=by
 obtain⟨x,s,d,g,g',nd⟩:=h.own;obtain⟨h1,h2,a,b,c,rfl⟩:=Na (Rj hi) s;obtain⟨g1,g2⟩:=(PH.agree_join c).1 g';obtain⟨d1,d2⟩:=PH.disj_join.1 d;refine⟨h1,a,g1,d1,fun A' h1' w' ha' hsub hag hsame ho ht hu hnd=> ?_⟩;have old: ∀(p:PH),p.agree w→p.disj h1→p.agree w':=fun p gp dp k o e=>by
  rw[hsame k (PH.lt_of_agree gp e) ((dp k).resolve_left (by simp[e]))]; exact gp k o e
 have dj: ∀(p:PH),p.agree w→p.disj h1→p.disj h1':=fun p gp dp k=>by
  cases e:p k with
  |none=>exact .inl rfl
  |some o=>
   refine .inr ?_;cases e':h1' k with
   |none=>rfl
   |some o'=>
    rcases hsub k (by simp[e'])with q|q
    ·exact absurd ((dp k).resolve_left (by simp[e])) q
    ·have:=PH.lt_of_agree gp e; omega
 have dm:=dj _ g d1;have dd:=dj _ g2 (PH.disj_symm c);refine⟨ho.trans h.os,⟨ht.trans h.tape.1,h.tape.2⟩,hu.trans h.output,h1'.join h2,Na (AcA hi A') ⟨h1',h2,ha',b,PH.disj_symm dd,rfl⟩,PH.disj_join.2 ⟨dm,d2⟩,old _ g d1,(PH.agree_join (PH.disj_symm dd)).2 ⟨hag,old _ g2 (PH.disj_symm c)⟩,nd.left.join ((hnd (nd.right d).left).join ((nd.right d).right c))⟩
theorem St.blk (h:St m As w){i b:Nat}{o:Obj}(hi:As[i]? =some (blk b o)):w.heap[b]? =some o:=by
 obtain⟨h1,a,g,_⟩:=h.take hi;cases a;exact PH.agree_one.1 g
theorem St.mem (h:St m As w){b:Nat}{o:Obj}(hb:m.heap b=some o):w.heap[b]? =some o:=
 let ⟨_,_,_,g,_⟩:=h.own; g b o hb
theorem St.nd (h:St m As w){i b:Nat}{o:Obj}(hi:As[i]? =some (Gw.blk b o)):o≠dfr:=by
 obtain⟨x,s,d,g,g',nd⟩:=h.own;obtain⟨h1,h2,a,_,c,rfl⟩:=Na (Rj hi) s;cases a;intro e;exact(nd.right d).left b (by simp[PH.one,e])
theorem St.put (h:St m As w){i b:Nat}{o:Obj}(hi:As[i]? =some (Gw.blk b o))(o':Obj)(w':World)(hn:w'.heap=w.heap.setIfInBounds b o')
  (h1:w'.os=w.os) (h2:w'.tape=w.tape) (h3:w'.output=w.output) (hd:o'≠dfr):St m (As.set i (Gw.blk b o')) w':=by
 obtain⟨p,a,g,_,back⟩:=h.take hi;cases a;have hb:=PH.agree_one.1 g;have hlt:=(AkM.1 hb).1;refine back _ (PH.one b o') w' rfl ?_ ?_ ?_ h1 h2 h3 (fun _=> .one hd)
 ·intro k hk;simp only[PH.one]at hk⊢;split at hk
  ·rename_i e; left; simp[e]
  ·exact absurd rfl hk
 ·rw[PH.agree_one,hn]; simp[hlt]
 ·intro k _ hk;rw[hn];simp only[PH.one]at hk;split at hk
  ·cases hk
  ·rename_i e; rw[Array.getElem?_setIfInBounds_ne (by omega)]
theorem St.push (h:St m As w)(o:Obj)(hd:o≠dfr):St m (Gw.blk w.heap.size o::As) (w.alloc o):=by
 obtain⟨x,s,d,g,g',nd⟩:=h.own;have keep: ∀(p:PH),p.agree w→p.agree (w.alloc o):=fun p gp k y e=>by
  show(w.heap.push o)[k]? =_;rw[Array.getElem?_push,Aky (by have:=PH.lt_of_agree gp e; omega)]; exact gp k y e
 have fr:=PH.disj_symm (PH.disj_fresh g' (AkC _) o);refine⟨h.os,h.tape,h.output,(PH.one w.heap.size o).join x,⟨_,x,rfl,s,fr,rfl⟩,PH.disj_join.2 ⟨PH.disj_fresh g (AkC _) o,d⟩,keep _ g,(PH.agree_join fr).2 ⟨PH.agree_one.2 ?_,keep _ g'⟩,nd.left.join ((Nd.one hd).join (nd.right d))⟩;show(w.heap.push o)[w.heap.size]? =_;simp
theorem St.keep (h:St m As w){i:Nat}(hi:As[i]? =some A): ∃h1 m',A h1∧m≤m'∧(∀k o,h1 k=some o→m'.heap k=some o)∧St m' (As.eraseIdx i) w:=by
 obtain⟨x,s,d,g,g',nd⟩:=h.own;obtain⟨h1,h2,a,b,c,rfl⟩:=Na (Rj hi) s;obtain⟨g1,g2⟩:=(PH.agree_join c).1 g';obtain⟨d1,d2⟩:=PH.disj_join.1 d;refine⟨h1,{m with heap:=m.heap.join h1},a,⟨rfl,rfl,rfl,fun k o e=>by simp[PH.join,e]⟩,fun k o e=> ?_,h.os,⟨h.tape.1,GB.up (m:=m) (M:={m with heap:=m.heap.join h1}) ⟨rfl,rfl,rfl,fun k o e=>by simp[PH.join,e]⟩ h.tape.2⟩,h.output,h2,b,PH.join_disj.2 ⟨d2,c⟩,(PH.agree_join d1).2 ⟨g,g1⟩,g2,by rw[PH.join_assoc]; exact nd⟩;rcases d1 k with e'|e'
 ·simp[PH.join,e,e']
 ·rw[e']at e; cases e
theorem St.drew (h:St m As w)(n:Nat):St m As {w with drawn:=n}:=⟨h.os,h.tape,h.output,h.own⟩
theorem St.drop (h:St m As w)(i:Nat): ∃m',m≤m'∧St m' (As.eraseIdx i) w:=by
 by_cases hi:i<As.length
 ·obtain⟨_,m',_,le,_,s⟩:=h.keep (i:=i) (A:=As[i]) (by simp[hi]);exact⟨m',le,s⟩
 ·exact⟨m,Mem.rfl' m,by rwa [List.eraseIdx_of_length_le (by omega)]⟩
theorem St.dropN (n:Nat): ∀{As:List Ow} {m:Mem},St m As w→∃m',m≤m'∧St m' (As.drop n) w:=by
 induction n with
 |zero=>exact fun {As m} h=>⟨m,Mem.rfl' m,by simpa using h⟩
 |succ n ih=>
  intro As m h;cases As with
  |nil=>exact⟨m,Mem.rfl' m,by simpa using h⟩
  |cons A As=>
   obtain⟨m1,l1,s1⟩:=h.drop 0;obtain⟨m2,l2,s2⟩:=ih (by simpa using s1);exact⟨m2,Mem.tr l1 l2,by simpa using s2⟩
end
abbrev Fr:=Nat→Value
def ev (f:Fr):Operand→Value
 | .tmp t=>f t
 | .const v=>v
 | .global g=> .pointer (some ⟨g,0,none⟩)
 | .func k=> .func (.func k) #[] #[]
def up (N:Nat)(f:Fr)(d:Nat)(v:Value):Fr:=fun t=>bif Nat.beq t d&&Nat.blt d N then v else f t
def upo (N:Nat)(f:Fr)(d:Option Nat)(v:Value):Fr:=match d with|some d=>up N f d v|none=>f
structure Sim (N:Nat)(a:Act)(f:Fr):Prop where
 size:a.tmps.size=N
 at_: ∀t,a.tmps.getD t undef=f t
abbrev DJ:=Exit→Fr→World→Prop
def mark (b:Nat):Deferred:={target:= .collected b,args:= #[]}
abbrev Dw:=World×List Deferred×Bool
structure Okd (D:Dw)(a:Act)(w:World):Prop where
 keep:Kd D.1 w
 marks: ∃E:List Nat,a.defers=E.map mark++D.2.1∧(D.2.2=true→E=[])∧E.Nodup∧∀b∈E,D.1.heap.size≤b∧w.heap[b]? =some dfr
theorem Okd.up {D:Dw}{a:Act}{w w':World}(h:Okd D a w)(k:Kd w w'):Okd D a w':=
 let ⟨E,e,q,n,l⟩:=h.marks; ⟨h.keep.tr k,E,e,q,n,fun b hb=>⟨(l b hb).1,k.same b (l b hb).2⟩⟩
theorem Okd.put {D:Dw}{a:Act}{w:World}(h:Okd D a w)(d:Option Nat)(v:Value):Okd D (a.put d v) w:=by
 cases d with
 |none=>exact h
 |some d=>exact⟨h.keep,h.marks⟩
theorem Okd.nil {a:Act}{w:World}(h:a.defers=[]):Okd (w,[],false) a w:=⟨Kd.rfl' w,[],h,fun _=>rfl,List.nodup_nil,fun b hb=>by cases hb⟩
theorem Okd.base {a:Act}{w w0:World}(k:Kd w0 w):Okd (w0,a.defers,true) a w:=⟨k,[],rfl,fun _=>rfl,List.nodup_nil,fun b hb=>by cases hb⟩
theorem Okd.just {D:Dw}{a:Act}{w:World}(h:Okd D a w)(e:D.2.2=true):a.defers=D.2.1:=by
 obtain⟨E,h1,h2,_⟩:=h.marks;rw[h1,h2 e]; rfl
def Zz (N:Nat)(D:Dw)(Q:DJ):Exit→Act→World→Prop:=fun e a w=> ∃f,(Sim N a f∧Okd D a w)∧Q e f w
theorem Sim.eval {N:Nat}{a:Act}{f:Fr}(h:Sim N a f):a.eval=ev f:=by
 funext x;cases x with
 |tmp t=>exact h.at_ t
 |_=>rfl
theorem Sim.put {N:Nat}{a:Act}{f:Fr}(h:Sim N a f)(d:Option Nat)(v:Value):Sim N (a.put d v) (upo N f d v):=by
 cases d with
 |none=>exact h
 |some d=>
  refine⟨by simp[Act.put,h.size],fun t=> ?_⟩;have ht:=h.at_ t;have hs:=h.size;simp only[Act.put,upo,up];by_cases e:t=d
  ·subst e;by_cases hlt:t<N
   ·have:(Nat.beq t t&&Nat.blt t N)=true:=by simp[Nat.blt_eq,hlt]
    rw[this]; simp[hs,hlt]
   ·have:(Nat.beq t t&&Nat.blt t N)=false:=by simp only[Nat.blt,Bool.and_eq_false_iff]; right; rw[←Bool.not_eq_true,Nat.ble_eq]; omega
    rw[this]; rw[←ht]; simp[hs,hlt]
  ·have:(Nat.beq t d&&Nat.blt d N)=false:=by simp[e]
   rw[this]; rw[←ht]; simp[Array.getElem?_setIfInBounds_ne (Ne.symm e)]
def FW (ρ:Option Nat):Fence:={fn:=fun _=>True,depth:=none,alive:=false,round:=ρ}
theorem Vs {ρ:Option Nat}{n:Nat}{P:Program}{k:FuncId}{args:Array Value}{w:World}{R:Ending→World→Prop}(h:Calls P k args w R):CallsIn (FW ρ) n P k args w R:=by
 have:=(callsIn_wide (n:=n)).2 h;exact⟨trivial,this.2⟩
theorem Kz {ρ:Option Nat}{n:Nat}{P:Program}{k:FuncId}{args:Array Value}{w:World}{R:Ending→World→Prop}(h:CallsIn (FW ρ) n P k args w R):Calls P k args w R:=
 (callsIn_wide (n:=n)).1 ⟨trivial,h.2⟩
def wpO (ρ:Option Nat)(P:Program)(ops:Array Oper)(Q:Exit→Act→World→Prop):List Oper→Act→World→Prop
 | [],a,w=>Q .normal a w
 |o::rest,a,w=>if Region.wanted o (yielded ops a.tmps)then o.uponIn (FW ρ) 0 P a (wpO ρ P ops Q rest) Q ((o.semAt ρ a.eval).run P w)else wpO ρ P ops Q rest (a.put o.dst undef) w
theorem Xk {ρ:Option Nat}{P:Program}{ops:Array Oper}{Q:Exit→Act→World→Prop}(l:List Oper): ∀k,(∀j,l[j]? =ops[k+j]?)→∀a w,wpO ρ P ops Q l a w→wpOpsIn (FW ρ) 0 P ops Q (List.range' k l.length) a w:=by
 induction l with
 |nil=>intro k _ a w h; simpa[wpOpsIn,wpO]using h
 |cons o l ih=>
  intro k h a w hw;have h0:ops[k]? =some o:=by simpa using (h 0).symm
  have ih':=ih (k+1) (fun j=>by have:=h (j+1); simpa[Alo,Nat.add_comm 1 j]using this);simp only[AkB,List.range'_succ,wpOpsIn,h0];unfold wpO at hw;split
  ·rename_i hy;rw[AkA hy]at hw;refine⟨fun _ _=>trivial,?_⟩;have hr:(FW ρ).round=ρ:=rfl;rw[hr];generalize (o.semAt ρ a.eval).run P w=r at*;cases r with
   |ok n w'=>
    cases n<;>simp only[Oper.uponIn]at hw⊢ <;>
     first
      |exact ih' _ _ hw
      |exact⟨hw.1,CallsIn.mono hw.2 (fun e w'' he=>by cases e<;>first|exact ih' _ _ he|exact he)⟩
      |exact⟨hw.1,RowsIn.mono hw.2 (fun _ _ he=>ih' _ _ he)⟩
      |exact⟨hw.1,RoundIn.mono hw.2 (fun e w'' he=>by cases e<;>first|exact ih' _ _ he|exact he)⟩
   |halt x w'=>cases x<;>simp only[Oper.uponIn]at hw⊢ <;>exact hw
  ·rename_i hy;rw[Aky hy]at hw;exact⟨fun _ _=>trivial,ih' _ _ hw⟩
def wpl (ρ:Option Nat)(P:Program)(N:Nat)(D:Dw)(ops:Array Oper)(l:List Oper)(Q:DJ)(f:Fr)(w:World):Prop:= ∀a,Sim N a f∧Okd D a w→wpO ρ P ops (Zz N D Q) l a w
def wpc (ρ:Option Nat)(P:Program)(N:Nat)(D:Dw)(c:Code)(Q:DJ)(f:Fr)(w:World):Prop:= ∀a,Sim N a f∧Okd D a w→c.wpIn (FW ρ) 0 P (Zz N D Q) a w
def Ft (P:Program)(k:FuncId)(args:Array Value)(w:World)(R:Value→World→Prop):Prop:=Calls P k args w fun e w'=> ∃v,e= .returned v∧Kd w w'∧R v w'
theorem Ft.mono {P:Program}{k:FuncId}{args:Array Value}{w:World}{R R':Value→World→Prop}(h:Ft P k args w R)
  (hr: ∀v w',R v w'→R' v w'):Ft P k args w R':=
 Calls.mono h fun _ _ ⟨v,e,k,r⟩=>⟨v,e,k,hr _ _ r⟩
def W5 (P:Program)(l:Nat)(fn:FuncId)(tmps:Array Value)(assign body:Code)(w:World)(R:Value→World→Prop):Prop:=RoundIn (FW none) 0 P l fn tmps assign body w fun e w'=> ∃v,e= .returned v∧Kd w w'∧R v w'
theorem W5.mono {P:Program}{l:Nat}{fn:FuncId}{tmps:Array Value}{assign body:Code}{w:World}{R R':Value→World→Prop}(h:W5 P l fn tmps assign body w R)
  (hr: ∀v w',R v w'→R' v w'):W5 P l fn tmps assign body w R':=
 RoundIn.mono h fun _ _ ⟨v,e,k,r⟩=>⟨v,e,k,hr _ _ r⟩
section
variable {ρ:Option Nat}{P:Program}{N:Nat}{D:Dw}{ops:Array Oper}{rest:List Oper}{o:Oper}{Q:DJ}{f:Fr}{w w':World}{v:Value}
def Ov (o:Oper):Prop:= ∀c,o.op≠ .defer c
theorem Co (h:Q .normal f w):wpl ρ P N D ops [] Q f w:=fun _ ha=>⟨f,ha,h⟩
theorem Li {Q:Exit→Act→World→Prop}{a:Act}(hg:o.guard=none)(hp:Ov o)(h:o.uponIn (FW ρ) 0 P a (wpO ρ P ops Q rest) Q ((execOp a.eval o).run P w)):wpO ρ P ops Q (o::rest) a w:=by
 unfold wpO;rw[AkA (by simp[Region.wanted,hg]),Oper.semAt_eq _ _ _ hp];exact h
theorem Aq (hg:o.guard=none)(hp:Ov o)(hr:(execOp (ev f) o).run P w= .ok (.value v) w')(h:wpl ρ P N D ops rest Q (upo N f o.dst v) w')
  (kd:Kd w w':=by exact Kd.rfl' _):
  wpl ρ P N D ops (o::rest) Q f w:=fun a ha=>by
 refine Li hg hp ?_;rw[ha.1.eval,hr];exact h _ ⟨ha.1.put _ _,(ha.2.up kd).put _ _⟩
theorem Lh (hg:o.guard=none)(hp:Ov o)(hr:(execOp (ev f) o).run P w= .ok .skip w')(h:wpl ρ P N D ops rest Q (upo N f o.dst undef) w')
  (kd:Kd w w':=by exact Kd.rfl' _):
  wpl ρ P N D ops (o::rest) Q f w:=fun a ha=>by
 refine Li hg hp ?_;rw[ha.1.eval,hr];exact h _ ⟨ha.1.put _ _,(ha.2.up kd).put _ _⟩
theorem Yz {k:FuncId}{args:Array Value}{R:Value→World→Prop}(hg:o.guard=none)(hp:Ov o)(hr:(execOp (ev f) o).run P w= .ok (.enter k args) w')
  (hc:Ft P k args w' R) (h: ∀v w2,R v w2→wpl ρ P N D ops rest Q (upo N f o.dst v) w2) (kd:Kd w w':=by exact Kd.rfl' _):
  wpl ρ P N D ops (o::rest) Q f w:=fun a ha=>by
 refine Li hg hp ?_;rw[ha.1.eval,hr];refine⟨(fun h=>by cases h),CallsIn.mono (Vs hc) ?_⟩;rintro _ w2 ⟨v,rfl,k,hR⟩;exact h v w2 hR _ ⟨ha.1.put _ _,(ha.2.up (kd.tr k)).put _ _⟩
theorem Abf {l:Nat}{fn:FuncId}{tmps:Array Value}{assign body:Code}{R:Value→World→Prop}(hg:o.guard=none)(hp:Ov o)(hr:(execOp (ev f) o).run P w= .ok (.round l fn tmps assign body) w')
  (hc:W5 P l fn tmps assign body w' R) (h: ∀v w2,R v w2→wpl ρ P N D ops rest Q (upo N f o.dst v) w2) (kd:Kd w w':=by exact Kd.rfl' _):
  wpl ρ P N D ops (o::rest) Q f w:=fun a ha=>by
 refine Li hg hp ?_;rw[ha.1.eval,hr];refine⟨(fun h=>by cases h),?_⟩;have hc':RoundIn (FW ρ) 0 P l fn tmps assign body w' (fun e w2=> ∃v,e= .returned v∧Kd w' w2∧R v w2):=hc;refine RoundIn.mono hc' ?_;rintro _ w2 ⟨v,rfl,k,hR⟩;exact h v w2 hR _ ⟨ha.1.put _ _,(ha.2.up (kd.tr k)).put _ _⟩
theorem Ti {a:Act}{j d:Nat}{b:Bool}(ha:Sim N a f)(hd:(ops[j]?).bind (·.dst)=some d)(hf:f d= .bool b):yielded ops a.tmps j=some b:=by
 have e:=ha.at_ d;rw[hf]at e;simp only[yielded,hd,Option.bind_some];simp only[Array.getD_eq_getD_getElem?]at e;cases ht:a.tmps[d]? with
 |none=>rw[ht]at e; simp[undef]at e
 |some x=>rw[ht]at e; simp at e; subst e; rfl
theorem Abe {j d:Nat}{b:Bool}(hg:o.guard=some (j,b))(hd:(ops[j]?).bind (·.dst)=some d)(hf:f d= .bool b)
  (h:wpl ρ P N D ops ({o with guard:=none}::rest) Q f w):wpl ρ P N D ops (o::rest) Q f w:=fun a ha=>by
 have h':=h a ha;have hy:=Ti ha.1 hd hf;unfold wpO at h'⊢;simp only[Region.wanted,hg,hy,beq_self_eq_true,if_true]at h'⊢;exact h'
theorem VD {j d:Nat}{b:Bool}(hg:o.guard=some (j,b))(hd:(ops[j]?).bind (·.dst)=some d)(hf:f d= .bool (!b))
  (h:wpl ρ P N D ops rest Q (upo N f o.dst undef) w):wpl ρ P N D ops (o::rest) Q f w:=fun a ha=>by
 have hy:=Ti ha.1 hd hf;unfold wpO;have:Region.wanted o (yielded ops a.tmps)=false:=by
  simp only[Region.wanted,hg,hy]; cases b<;>rfl
 rw[this];exact h _ ⟨ha.1.put _ _,ha.2.put _ _⟩
theorem Xg {j d:Nat}{b:Bool}(hg:o.guard=some (j,b))(hd:(ops[j]?).bind (·.dst)=some d)(hf:f d=undef)
  (h:wpl ρ P N D ops rest Q (upo N f o.dst undef) w):wpl ρ P N D ops (o::rest) Q f w:=fun a ha=>by
 have hy:yielded ops a.tmps j=none:=by
  have e:=ha.1.at_ d;rw[hf]at e;simp only[yielded,hd,Option.bind_some];simp only[Array.getD_eq_getD_getElem?]at e;cases ht:a.tmps[d]? with
  |none=>rfl
  |some x=>rw[ht]at e; simp at e; subst e; rfl
 unfold wpO;have:Region.wanted o (yielded ops a.tmps)=false:=by
  simp only[Region.wanted,hg,hy]; cases b<;>rfl
 rw[this];exact h _ ⟨ha.1.put _ _,ha.2.put _ _⟩
theorem AeJ {Q Q':Exit→Act→World→Prop}(hq: ∀e a w,Q e a w→Q' e a w): ∀(l:List Oper) (a:Act) (w:World),wpO ρ P ops Q l a w→wpO ρ P ops Q' l a w:=by
 intro l;induction l with
 |nil=>exact fun a w h=>hq _ _ _ h
 |cons o l ih=>
  intro a w h;unfold wpO at h⊢;split
  ·rename_i hw;rw[AkA hw]at h;generalize (o.semAt ρ a.eval).run P w=r at*;have lo:LetsOut Q→LetsOut Q':=fun⟨x,y,z⟩=>⟨x,y,hq _ _ _ z⟩;cases r with
   |ok n w'=>
    cases n<;>simp only[Oper.uponIn]at h⊢ <;>
     first
      |exact ih _ _ h
      |exact⟨h.1,CallsIn.mono h.2 (fun e w'' he=>by cases e<;>first|exact ih _ _ he|exact hq _ _ _ he|exact lo he)⟩
      |exact⟨h.1,RowsIn.mono h.2 (fun _ _ he=>ih _ _ he)⟩
      |exact⟨h.1,RoundIn.mono h.2 (fun e w'' he=>by cases e<;>first|exact ih _ _ he|exact hq _ _ _ he|exact lo he)⟩
   |halt x w'=>cases x<;>simp only[Oper.uponIn]at h⊢ <;>exact hq _ _ _ h
  ·rename_i hw; rw[Aky hw]at h; exact ih _ _ h
theorem TZ {Q':DJ}{l:List Oper}(hq: ∀e f w,Q e f w→Q' e f w)(h:wpl ρ P N D ops l Q f w):wpl ρ P N D ops l Q' f w:=
 fun a ha=>AeJ (fun _ _ _ ⟨f,s,q⟩=>⟨f,s,hq _ _ _ q⟩) l a w (h a ha)
def J2 (K:Fr→World→Prop)(Q:DJ):DJ
 | .normal,f,w=>K f w
 |e,f,w=>Q e f w
def NZ (id:Nat)(Q:DJ):DJ
 | .exit id',f,w=>bif Nat.beq id' id then Q .normal f w else Q (.exit id') f w
 |e,f,w=>Q e f w
theorem FI {c:Code}{Q':DJ}(hq: ∀e f w,Q e f w→Q' e f w)(h:wpc ρ P N D c Q f w):wpc ρ P N D c Q' f w:=
 fun a ha=>wpIn_mono (h a ha) fun _ _ _ ⟨f,s,q⟩=>⟨f,s,hq _ _ _ q⟩
theorem A9 {id:Nat}{l:List Oper}(h:wpl ρ P N D l.toArray l Q f w):wpc ρ P N D (.region id l.toArray false) Q f w:=
 fun a ha=>wpIn_region (by
  have:=Xk l 0 (ops:=l.toArray) (fun j=>by simp) a w (h a ha);rw[List.range_eq_range'];simpa using this)
theorem C5 {x y:Code}(h:wpc ρ P N D x (J2 (fun f w=>wpc ρ P N D y Q f w) Q) f w):wpc ρ P N D (.seq x y) Q f w:=fun a ha=>by
 refine wpIn_seq (wpIn_mono (h a ha) ?_);rintro e a' w' ⟨f',s,q⟩;cases e with
 |normal=>exact q a' s
 |_=>exact⟨f',s,q⟩
theorem NK (h:Q .normal f w):wpc ρ P N D .skip Q f w:=fun _ ha=>wpIn_skip ⟨f,ha,h⟩
theorem Abh {l:Nat}(h:Q .normal f w):wpc ρ P N D (.label l) Q f w:=fun _ ha=>wpIn_label ⟨f,ha,h⟩
theorem AeI {id:Nat}(h:Q (.exit id) f w):wpc ρ P N D (.exit id) Q f w:=fun _ ha=>wpIn_exit ⟨f,ha,h⟩
theorem Xj (h:Q .ret f w):wpc ρ P N D .ret Q f w:=fun _ ha=>wpIn_ret ⟨f,ha,h⟩
theorem Qu {c:Operand}{x y:Code}{t:Bool}(hc:ev f c= .bool t)(ht:t=true→wpc ρ P N D x Q f w)(hf:t=false→wpc ρ P N D y Q f w):
  wpc ρ P N D (.cond c x y) Q f w:=fun a ha=>by
 refine wpIn_cond_split (t:=t) (by rw[ha.1.eval]; exact hc) (fun e=>ht e a ha) (fun e=>hf e a ha)
theorem NJ {c:Operand}{x y:Code}(hc:ev f c= .bool true)(h:wpc ρ P N D x Q f w):wpc ρ P N D (.cond c x y) Q f w:=
 Qu hc (fun _=>h) (fun e=>by cases e)
theorem Ru {c:Operand}{x y:Code}(hc:ev f c= .bool false)(h:wpc ρ P N D y Q f w):wpc ρ P N D (.cond c x y) Q f w:=
 Qu hc (fun e=>by cases e) (fun _=>h)
theorem JQ {id:Nat}{c:Code}(h:wpc ρ P N D c (NZ id Q) f w):wpc ρ P N D (.block id c) Q f w:=fun a ha=>by
 refine wpIn_block (wpIn_mono (h a ha) ?_);rintro e a' w' ⟨f',s,q⟩;cases e with
 |exit id'=>
  simp only[Exit.inBlock];simp only[NZ]at q;by_cases e:id'=id
  ·subst e;rw[AkA rfl];simp at q;exact⟨f',s,q⟩
  ·rw[Aky e];have:Nat.beq id' id=false:=by rw[←Bool.not_eq_true,Nat.beq_eq]; exact e
   rw[this]at q;exact⟨f',s,q⟩
 |_=>exact⟨f',s,q⟩
theorem YA {c:Code}(I:Nat→Fr→World→Prop)(n:Nat)(h0:I n f w)
  (round: ∀n f w,I n f w→wpc ρ P N D c (J2 (fun f' w'=> ∃n',n'<n∧I n' f' w') Q) f w):wpc ρ P N D (.loop c) Q f w:=by
 intro a ha b k cs hro hb hr;have go: ∀n f w,I n f w→∀a,Sim N a f∧Okd D a w→∃e a' w',Zz N D Q e a' w'∧ArrivesIn (Machine.fenced P (FW ρ)) P (lone (b.atR a (.code c:: .inLoop c::k)) cs w) b k cs e a' w':=by
  intro n;induction n using Nat.strongRecOn with
  |_ n ih=>
   intro f w hI a ha;obtain⟨e,a1,w1,⟨f1,s1,hq⟩,harr⟩:=round n f w hI a ha b (.inLoop c::k) cs hro hb hr;cases e with
   |normal=>
    obtain⟨n',hlt,hI'⟩:=hq;obtain⟨e2,a2,w2,hq2,harr2⟩:=ih n' hlt f1 w1 hI' a1 s1;exact⟨e2,a2,w2,hq2,.of_steps (StepsIn.trans harr (.one (fenced_calm hb hr rfl) stepR_inLoop)) harr2⟩
   |exit id=>exact⟨_,a1,w1,⟨f1,s1,hq⟩,.pass (x:= .inLoop c) rfl (fun _ _=> .inl (by simp)) harr⟩
   |goto l=>exact⟨_,a1,w1,⟨f1,s1,hq⟩,.pass (x:= .inLoop c) rfl (fun _ _=> .inl (by simp)) harr⟩
   |ret=>exact⟨_,a1,w1,⟨f1,s1,hq⟩,.pass (x:= .inLoop c) rfl (fun _ _=> .inl (by simp)) harr⟩
   |panic ch=>exact⟨_,a1,w1,⟨f1,s1,hq⟩,.pass (x:= .inLoop c) rfl (fun _ _=> .inl (by simp)) harr⟩
   |outgrown=>exact⟨_,a1,w1,⟨f1,s1,hq⟩,.pass (x:= .inLoop c) rfl (fun _ _=> .inl (by simp)) harr⟩
 obtain⟨e,a',w',hq,harr⟩:=go n f w h0 a ha;exact⟨e,a',w',hq,.of_steps (.one (fenced_calm hb hr rfl) stepR_loop) harr⟩
def f0 (args:List Value):Fr:=fun t=>args.getD t undef
def Q4 (P:Program)(N:Nat)(fn:Func)(R:Value→World→Prop):DJ
 | .normal,f,w| .ret,f,w=> ∀w',Pd w w'→∃v,(∀a,Sim N a f→(results fn a.tmps).run P w'= .ok v w')∧R v w'
 |_,_,_=>False
theorem QN {fn:Func}{tmps:Array Value}{R:Value→World→Prop}{w0:World}: ∀(E:List Nat) (w:World),Kd w0 w→E.Nodup→(∀b∈E,w0.heap.size≤b∧w.heap[b]? =some dfr)→
  (∀w',Pd w w'→∃v,(results fn tmps).run P w'= .ok v w'∧R v w')→
  LeavesInM (FW none) 0 P fn tmps (fun e w'=> ∃v,e= .returned v∧Kd w0 w'∧R v w') (E.map mark) .returning w:=by
 intro E;induction E with
 |nil=>
  intro w hk _ _ h;obtain⟨v,hr,hR⟩:=h w (Pd.rfl' w);exact⟨v,hr,v,rfl,hk,hR⟩
 |cons b E ih=>
  intro w hk hn hl h;obtain⟨hb1,hb2⟩:=hl b (by simp);have hlt:=(AkM.1 hb2).1;have hpd:Pd w (w.putObj b (.deferred none)):=⟨rfl,rfl,rfl,fun k o ho e=>by
   by_cases q:k=b
   ·subst q; rw[hb2]at e; cases e; exact absurd rfl ho
   ·rw[World.putObj_heap_other q]; exact e⟩
  refine⟨by simp,.inl ⟨b,w.putObj b (.deferred none),rfl,run_takeDeferred hb2,?_⟩⟩;refine ih _ ⟨by simpa using hk.size,fun k e=> ?_⟩ (List.nodup_cons.1 hn).2 (fun c hc=>⟨(hl c (by simp[hc])).1,?_⟩) (fun w' p=>h w' (hpd.tr p))
  ·have:=(AkM.1 e).1;rw[World.putObj_heap_other (by omega)]; exact hk.same k e
  ·have:c≠b:=fun q=>(List.nodup_cons.1 hn).1 (q▸hc);rw[World.putObj_heap_other this]; exact(hl c (by simp[hc])).2
theorem ZW {k:FuncId}{fn:Func}{c:Code}{args:List Value}{R:Value→World→Prop}(hf:P.funcs[k]? =some fn)(hb:fn.body=some c)(hN:fn.ntmps=N)
  (hle:args.length≤N) (h:wpc none P N (w,[],false) c (Q4 P N fn R) (f0 args) w):Ft P k args.toArray w R:=by
 refine Kz (ρ:=none) (n:=0) (callsIn_of_wp_marks hf hb trivial ?_);have hs:Sim N {tmps:=args.toArray++Array.replicate (fn.ntmps-args.toArray.size) undef,defers:=[]} (f0 args):=by
  refine⟨by simp[hN]; omega,fun t=> ?_⟩;simp only[f0,Array.getD_eq_getD_getElem?,List.getD_eq_getElem?_getD,Array.getElem?_append];split
  ·simp
  ·rename_i h1;simp at h1;rw[List.getElem?_eq_none h1];rw[Array.getElem?_replicate];split<;>rfl
 refine wpIn_mono (h _ ⟨hs,Okd.nil rfl⟩) ?_;rintro e a w' ⟨f',⟨s,ok⟩,q⟩;obtain⟨E,hE,-,hn,hl⟩:=ok.marks;cases e with
 |normal=>
  show LeavesInM _ _ _ _ _ _ a.defers _ _;rw[hE,AkX];exact QN E w' ok.keep hn hl (fun w'' p=>let ⟨v,hr,hR⟩:=q w'' p; ⟨v,hr a s,hR⟩)
 |ret=>
  show LeavesInM _ _ _ _ _ _ a.defers _ _;rw[hE,AkX];exact QN E w' ok.keep hn hl (fun w'' p=>let ⟨v,hr,hR⟩:=q w'' p; ⟨v,hr a s,hR⟩)
 |exit id=>exact q.elim
 |goto l=>exact q.elim
 |panic ch=>exact q.elim
 |outgrown=>exact q.elim
end
abbrev vI (n:Int):Value:= .int .i64 n
abbrev vU (x:UInt64):Value:= .int .u64 (x.toNat:Int)
abbrev vW (x:UInt32):Value:= .int .u32 (x.toNat:Int)
abbrev vB (x:UInt8):Value:= .int .u8 (x.toNat:Int)
abbrev vR (n:Int):Value:= .int .i32 n
abbrev vb (b:Bool):Value:= .bool b
abbrev vS (s:ByteArray):Value:= .string s
def w64 (n:Int):Int:=(n+9223372036854775808)%18446744073709551616-9223372036854775808
theorem BC {n:Int}(h1: -9223372036854775808≤n)(h2:n≤9223372036854775807):w64 n=n:=by unfold w64; omega
theorem Hh (n:Int):IntKind.i64.wrap n=w64 n:=by
 simp only[IntKind.wrap,IntKind.bits,IntKind.signed,w64];simp only[Ala,AkH,ge_iff_le];split<;>omega
theorem NI (n:Int):IntKind.u64.wrap n=n%18446744073709551616:=by
 simp[IntKind.wrap,IntKind.bits,IntKind.signed]
theorem TX (n:Int):IntKind.u32.wrap n=n%4294967296:=by
 simp[IntKind.wrap,IntKind.bits,IntKind.signed]
theorem PR (n:Int):IntKind.u8.wrap n=n%256:=by
 simp[IntKind.wrap,IntKind.bits,IntKind.signed]
def toU (n:Int):UInt64:=UInt64.ofNat (n%18446744073709551616).toNat
def toW (n:Int):UInt32:=UInt32.ofNat (n%4294967296).toNat
def toB (n:Int):UInt8:=UInt8.ofNat (n%256).toNat
theorem XF (n:Int):((toU n).toNat:Int)=n%18446744073709551616:=by
 simp[toU,UInt64.toNat_ofNat']; omega
theorem Ain (n:Int):((toW n).toNat:Int)=n%4294967296:=by
 simp[toW,UInt32.toNat_ofNat']; omega
theorem M8 (n:Int):((toB n).toNat:Int)=n%256:=by
 simp[toB,UInt8.toNat_ofNat']; omega
theorem Aic (n:Int):IntKind.u64.wrap n=((toU n).toNat:Int):=by rw[NI,XF]
theorem wrapW (n:Int):IntKind.u32.wrap n=((toW n).toNat:Int):=by rw[TX,Ain]
theorem Aid (n:Int):IntKind.u8.wrap n=((toB n).toNat:Int):=by rw[PR,M8]
def NY (n:Int)(k:Nat):Int:=w64 (n*2^ (min k 64))
def BE (n:Int)(k:Nat):Int:=n.fdiv (2^ (min k 64))
def JL (x:UInt64)(k:Nat):UInt64:=toU (x.toNat*2^ (min k 64))
def Fu (x:UInt64)(k:Nat):UInt64:=UInt64.ofNat (x.toNat/2^ (min k 64))
def shrW (x:UInt32)(k:Nat):UInt32:=UInt32.ofNat (x.toNat/2^ (min k 32))
def Ae3 (x:UInt8)(k:Nat):UInt8:=UInt8.ofNat (x.toNat/2^ (min k 8))
def Akl (a b:Int):Int:=w64 (BitVec.ofInt 64 a&&&BitVec.ofInt 64 b).toNat
def AaD (a b:Int):Int:=w64 (BitVec.ofInt 64 a|||BitVec.ofInt 64 b).toNat
def Aib (a b:Int):Int:=w64 (BitVec.ofInt 64 a^^^BitVec.ofInt 64 b).toNat
theorem bv64 (x:UInt64):BitVec.ofInt 64 (x.toNat:Int)=x.toBitVec:=by
 apply BitVec.eq_of_toNat_eq; simp
theorem bv32 (x:UInt32):BitVec.ofInt 32 (x.toNat:Int)=x.toBitVec:=by
 apply BitVec.eq_of_toNat_eq; simp
theorem bv8 (x:UInt8):BitVec.ofInt 8 (x.toNat:Int)=x.toBitVec:=by
 apply BitVec.eq_of_toNat_eq; simp
theorem TY (n:Nat)(h:n<18446744073709551616):IntKind.u64.wrap (n:Int)=(n:Int):=by rw[NI]; omega
theorem AeH (n:Nat)(h:n<4294967296):IntKind.u32.wrap (n:Int)=(n:Int):=by rw[TX]; omega
theorem Ra (n:Nat)(h:n<256):IntKind.u8.wrap (n:Int)=(n:Int):=by rw[PR]; omega
section
variable {ρ:Option Nat}{P:Program}{N:Nat}{D:Dw}{ops:Array Oper}{rest:List Oper}{Q:DJ}{f:Fr}{w w':World}{v:Value}
variable {dst:Option Nat}{ty t t':TypeId}{pos:String}{af:Array Edge}{x y c a b:Operand}
theorem s_mv (h:wpl ρ P N D ops rest Q (upo N f dst (ev f x)) w):wpl ρ P N D ops (⟨dst,.move x,ty,pos,af,none⟩::rest) Q f w:=Aq rfl (fun _ e=>by cases e) rfl h
theorem s_as (h:wpl ρ P N D ops rest Q (upo N f dst (ev f x)) w):wpl ρ P N D ops (⟨dst,.assign x,ty,pos,af,none⟩::rest) Q f w:=Aq rfl (fun _ e=>by cases e) rfl h
theorem Ls (hx:ev f x=v)(h:wpl ρ P N D ops rest Q (upo N f dst v) w):wpl ρ P N D ops (⟨dst,.move x,ty,pos,af,none⟩::rest) Q f w:=s_mv (hx▸h)
theorem We (hx:ev f x=v)(h:wpl ρ P N D ops rest Q (upo N f dst v) w):wpl ρ P N D ops (⟨dst,.assign x,ty,pos,af,none⟩::rest) Q f w:=s_as (hx▸h)
theorem RV (hc:ev f c= .bool true)(ha:ev f a=v)(h:wpl ρ P N D ops rest Q (upo N f dst v) w):wpl ρ P N D ops (⟨dst,.pick c a b,ty,pos,af,none⟩::rest) Q f w:=
 Aq (v:=v) (w':=w) rfl (fun _ e=>by cases e) (by simp[execOp,hc,ha,asBool]) h
theorem RW (hc:ev f c= .bool false)(hb:ev f b=v)(h:wpl ρ P N D ops rest Q (upo N f dst v) w):wpl ρ P N D ops (⟨dst,.pick c a b,ty,pos,af,none⟩::rest) Q f w:=
 Aq (v:=v) (w':=w) rfl (fun _ e=>by cases e) (by simp[execOp,hc,hb,asBool]) h
theorem s_not {p:Bool}(hx:ev f x= .bool p)(h:wpl ρ P N D ops rest Q (upo N f dst (.bool (!p))) w):wpl ρ P N D ops (⟨dst,.unOp .not t x,ty,pos,af,none⟩::rest) Q f w:=
 Aq (v:= .bool (!p)) (w':=w) rfl (fun _ e=>by cases e) (by simp[execOp,hx,Op.unary]) h
theorem Hg {op:BinOp}{k:IntKind}{m n:Int}(hx:ev f x= .int k m)(hy:ev f y= .int k n)(hr:(binOp op t (.int k m) (.int k n)).run P w= .ok v w)
  (h:wpl ρ P N D ops rest Q (upo N f dst v) w):wpl ρ P N D ops (⟨dst,.binOp op t x y t',ty,pos,af,none⟩::rest) Q f w:=
 Aq (v:=v) (w':=w) rfl (fun _ e=>by cases e) (by
  simp only[execOp,hx,hy];have hg:(eqGuard op t x y (.int k m) (.int k n)).run P w= .ok () w:=by
   cases op<;>simp[eqGuard]
  simp[hg,hr]) h
theorem s_addI {m n:Int}(hx:ev f x=vI m)(hy:ev f y=vI n)(h:wpl ρ P N D ops rest Q (upo N f dst (vI (w64 (m+n)))) w):
 wpl ρ P N D ops (⟨dst,.binOp .add t x y t',ty,pos,af,none⟩::rest) Q f w:=Hg hx hy (by simp[binOp,Op.intArith,Hh]) h
theorem Wa {m n:Int}(hx:ev f x=vI m)(hy:ev f y=vI n)(h:wpl ρ P N D ops rest Q (upo N f dst (vI (w64 (m-n)))) w):
 wpl ρ P N D ops (⟨dst,.binOp .sub t x y t',ty,pos,af,none⟩::rest) Q f w:=Hg hx hy (by simp[binOp,Op.intArith,Hh]) h
theorem s_mulI {m n:Int}(hx:ev f x=vI m)(hy:ev f y=vI n)(h:wpl ρ P N D ops rest Q (upo N f dst (vI (w64 (m*n)))) w):
 wpl ρ P N D ops (⟨dst,.binOp .mul t x y t',ty,pos,af,none⟩::rest) Q f w:=Hg hx hy (by simp[binOp,Op.intArith,Hh]) h
theorem s_quoI {m n:Int}(hx:ev f x=vI m)(hy:ev f y=vI n)(hn:n≠0)(h:wpl ρ P N D ops rest Q (upo N f dst (vI (w64 (m.tdiv n)))) w):
 wpl ρ P N D ops (⟨dst,.binOp .quo t x y t',ty,pos,af,none⟩::rest) Q f w:=Hg hx hy (by simp[binOp,Op.intDiv,Hh,hn]) h
theorem s_remI {m n:Int}(hx:ev f x=vI m)(hy:ev f y=vI n)(hn:n≠0)(h:wpl ρ P N D ops rest Q (upo N f dst (vI (m.tmod n))) w):
 wpl ρ P N D ops (⟨dst,.binOp .rem t x y t',ty,pos,af,none⟩::rest) Q f w:=Hg hx hy (by simp[binOp,Op.intDiv,hn]) h
theorem s_andI {m n:Int}(hx:ev f x=vI m)(hy:ev f y=vI n)(h:wpl ρ P N D ops rest Q (upo N f dst (vI (Akl m n))) w):
 wpl ρ P N D ops (⟨dst,.binOp .and t x y t',ty,pos,af,none⟩::rest) Q f w:=Hg hx hy (by simp only[binOp,Op.intBits,ne_eq,not_true_eq_false,if_false,IntKind.bits,Hh,Akl,vI]; rfl) h
theorem s_orI {m n:Int}(hx:ev f x=vI m)(hy:ev f y=vI n)(h:wpl ρ P N D ops rest Q (upo N f dst (vI (AaD m n))) w):
 wpl ρ P N D ops (⟨dst,.binOp .or t x y t',ty,pos,af,none⟩::rest) Q f w:=Hg hx hy (by simp only[binOp,Op.intBits,ne_eq,not_true_eq_false,if_false,IntKind.bits,Hh,AaD,vI]; rfl) h
theorem s_xorI {m n:Int}(hx:ev f x=vI m)(hy:ev f y=vI n)(h:wpl ρ P N D ops rest Q (upo N f dst (vI (Aib m n))) w):
 wpl ρ P N D ops (⟨dst,.binOp .xor t x y t',ty,pos,af,none⟩::rest) Q f w:=Hg hx hy (by simp only[binOp,Op.intBits,ne_eq,not_true_eq_false,if_false,IntKind.bits,Hh,Aib,vI]; rfl) h
theorem s_eql {k:IntKind}{m n:Int}(hx:ev f x= .int k m)(hy:ev f y= .int k n)(h:wpl ρ P N D ops rest Q (upo N f dst (.bool (m==n))) w):
 wpl ρ P N D ops (⟨dst,.binOp .eql t x y t',ty,pos,af,none⟩::rest) Q f w:=Hg hx hy (by simp[binOp,Op.intCmp]) h
theorem s_neq {k:IntKind}{m n:Int}(hx:ev f x= .int k m)(hy:ev f y= .int k n)(h:wpl ρ P N D ops rest Q (upo N f dst (.bool (m !=n))) w):
 wpl ρ P N D ops (⟨dst,.binOp .neq t x y t',ty,pos,af,none⟩::rest) Q f w:=Hg hx hy (by simp[binOp,Op.intCmp]) h
theorem Aiy {k:IntKind}{m n:Int}(hx:ev f x= .int k m)(hy:ev f y= .int k n)(h:wpl ρ P N D ops rest Q (upo N f dst (.bool (decide (m<n)))) w):
 wpl ρ P N D ops (⟨dst,.binOp .lss t x y t',ty,pos,af,none⟩::rest) Q f w:=Hg hx hy (by simp[binOp,Op.intCmp]) h
theorem s_leq {k:IntKind}{m n:Int}(hx:ev f x= .int k m)(hy:ev f y= .int k n)(h:wpl ρ P N D ops rest Q (upo N f dst (.bool (decide (m≤n)))) w):
 wpl ρ P N D ops (⟨dst,.binOp .leq t x y t',ty,pos,af,none⟩::rest) Q f w:=Hg hx hy (by simp[binOp,Op.intCmp]) h
theorem Aiz {k:IntKind}{m n:Int}(hx:ev f x= .int k m)(hy:ev f y= .int k n)(h:wpl ρ P N D ops rest Q (upo N f dst (.bool (decide (m>n)))) w):
 wpl ρ P N D ops (⟨dst,.binOp .gtr t x y t',ty,pos,af,none⟩::rest) Q f w:=Hg hx hy (by simp[binOp,Op.intCmp]) h
theorem s_geq {k:IntKind}{m n:Int}(hx:ev f x= .int k m)(hy:ev f y= .int k n)(h:wpl ρ P N D ops rest Q (upo N f dst (.bool (decide (m≥n)))) w):
 wpl ρ P N D ops (⟨dst,.binOp .geq t x y t',ty,pos,af,none⟩::rest) Q f w:=Hg hx hy (by simp[binOp,Op.intCmp]) h
theorem s_addU {m n:UInt64}(hx:ev f x=vU m)(hy:ev f y=vU n)(h:wpl ρ P N D ops rest Q (upo N f dst (vU (m+n))) w):
  wpl ρ P N D ops (⟨dst,.binOp .add t x y t',ty,pos,af,none⟩::rest) Q f w:=
 Hg hx hy (by simp only[binOp,Op.intArith,ne_eq,not_true_eq_false,if_false,AkK,NI,vU,UInt64.toNat_add]; rfl) h
theorem s_subU {m n:UInt64}(hx:ev f x=vU m)(hy:ev f y=vU n)(h:wpl ρ P N D ops rest Q (upo N f dst (vU (m-n))) w):
  wpl ρ P N D ops (⟨dst,.binOp .sub t x y t',ty,pos,af,none⟩::rest) Q f w:=
 Hg hx hy (by
  simp only[binOp,Op.intArith,ne_eq,not_true_eq_false,if_false,AkK,NI,vU,UInt64.toNat_sub];have:=m.toNat_lt; have:=n.toNat_lt;congr 2; omega) h
theorem s_mulU {m n:UInt64}(hx:ev f x=vU m)(hy:ev f y=vU n)(h:wpl ρ P N D ops rest Q (upo N f dst (vU (m*n))) w):
  wpl ρ P N D ops (⟨dst,.binOp .mul t x y t',ty,pos,af,none⟩::rest) Q f w:=
 Hg hx hy (by simp only[binOp,Op.intArith,ne_eq,not_true_eq_false,if_false,AkK,NI,vU,UInt64.toNat_mul]; rfl) h
theorem s_quoU {m n:UInt64}(hx:ev f x=vU m)(hy:ev f y=vU n)(hn:n≠0)(h:wpl ρ P N D ops rest Q (upo N f dst (vU (m/n))) w):
  wpl ρ P N D ops (⟨dst,.binOp .quo t x y t',ty,pos,af,none⟩::rest) Q f w:=
 Hg hx hy (by
  have h0: ¬((n.toNat:Int)=0):=by
   intro e; apply hn; rw[←UInt64.toNat_inj]; simpa using e
  simp only[binOp,Op.intDiv,ne_eq,not_true_eq_false,if_false,AkK,NI,vU,UInt64.toNat_div,h0];have:=m.toNat_lt;rw[←Int.ofNat_tdiv];have hq:m.toNat/n.toNat≤m.toNat:=Nat.div_le_self _ _;generalize m.toNat/n.toNat=q at*;congr 2; omega) h
theorem s_remU {m n:UInt64}(hx:ev f x=vU m)(hy:ev f y=vU n)(hn:n≠0)(h:wpl ρ P N D ops rest Q (upo N f dst (vU (m%n))) w):
  wpl ρ P N D ops (⟨dst,.binOp .rem t x y t',ty,pos,af,none⟩::rest) Q f w:=
 Hg hx hy (by
  have h0: ¬((n.toNat:Int)=0):=by
   intro e; apply hn; rw[←UInt64.toNat_inj]; simpa using e
  simp only[binOp,Op.intDiv,ne_eq,not_true_eq_false,if_false,AkK,vU,UInt64.toNat_mod,h0];rfl) h
theorem s_andU {m n:UInt64}(hx:ev f x=vU m)(hy:ev f y=vU n)(h:wpl ρ P N D ops rest Q (upo N f dst (vU (m&&&n))) w):
  wpl ρ P N D ops (⟨dst,.binOp .and t x y t',ty,pos,af,none⟩::rest) Q f w:=
 Hg hx hy (by
  simp only[binOp,Op.intBits,ne_eq,not_true_eq_false,if_false,IntKind.bits,vU,vW,bv64,←UInt64.toBitVec_and,AkK];rw[TY _ (by have:=(m&&&n).toBitVec.isLt; exact this)]; rfl) h
theorem s_orU {m n:UInt64}(hx:ev f x=vU m)(hy:ev f y=vU n)(h:wpl ρ P N D ops rest Q (upo N f dst (vU (m|||n))) w):
  wpl ρ P N D ops (⟨dst,.binOp .or t x y t',ty,pos,af,none⟩::rest) Q f w:=
 Hg hx hy (by
  simp only[binOp,Op.intBits,ne_eq,not_true_eq_false,if_false,IntKind.bits,vU,vW,bv64,←UInt64.toBitVec_or,AkK];rw[TY _ (by have:=(m|||n).toBitVec.isLt; exact this)]; rfl) h
theorem s_xorU {m n:UInt64}(hx:ev f x=vU m)(hy:ev f y=vU n)(h:wpl ρ P N D ops rest Q (upo N f dst (vU (m^^^n))) w):
  wpl ρ P N D ops (⟨dst,.binOp .xor t x y t',ty,pos,af,none⟩::rest) Q f w:=
 Hg hx hy (by
  simp only[binOp,Op.intBits,ne_eq,not_true_eq_false,if_false,IntKind.bits,vU,vW,bv64,←UInt64.toBitVec_xor,AkK];rw[TY _ (by have:=(m^^^n).toBitVec.isLt; exact this)]; rfl) h
theorem s_andW {m n:UInt32}(hx:ev f x=vW m)(hy:ev f y=vW n)(h:wpl ρ P N D ops rest Q (upo N f dst (vW (m&&&n))) w):
  wpl ρ P N D ops (⟨dst,.binOp .and t x y t',ty,pos,af,none⟩::rest) Q f w:=
 Hg hx hy (by
  simp only[binOp,Op.intBits,ne_eq,not_true_eq_false,if_false,IntKind.bits,vU,vW,bv32,←UInt32.toBitVec_and,AkK];rw[AeH _ (by have:=(m&&&n).toBitVec.isLt; exact this)]; rfl) h
theorem s_negB {n:UInt8}(hx:ev f x=vB n)(h:wpl ρ P N D ops rest Q (upo N f dst (vB (toB (-(n.toNat:Int))))) w):
  wpl ρ P N D ops (⟨dst,.unOp .neg t x,ty,pos,af,none⟩::rest) Q f w:=
 Aq (v:=vB (toB (-(n.toNat:Int)))) (w':=w) rfl (fun _ e=>by cases e) (by simp[execOp,hx,Op.unary,Op.intArith,Aid]) h
theorem s_negI {n:Int}(hx:ev f x=vI n)(h:wpl ρ P N D ops rest Q (upo N f dst (vI (w64 (-n)))) w):
  wpl ρ P N D ops (⟨dst,.unOp .neg t x,ty,pos,af,none⟩::rest) Q f w:=
 Aq (v:=vI (w64 (-n))) (w':=w) rfl (fun _ e=>by cases e) (by simp[execOp,hx,Op.unary,Op.intArith,Hh]) h
theorem Ou {op:BinOp}{k yk:IntKind}{m n:Int}(hx:ev f x= .int k m)(hy:ev f y= .int yk n)(hop:op= .shl∨op= .shr)(hr:(Op.shift op k m yk n).run P w= .ok v w)
  (h:wpl ρ P N D ops rest Q (upo N f dst v) w):wpl ρ P N D ops (⟨dst,.binOp op t x y t',ty,pos,af,none⟩::rest) Q f w:=
 Aq (v:=v) (w':=w) rfl (fun _ e=>by cases e) (by
  simp only[execOp,hx,hy];have hg:(eqGuard op t x y (.int k m) (.int yk n)).run P w= .ok () w:=by
   rcases hop with rfl|rfl<;>simp[eqGuard]
  rcases hop with rfl|rfl<;>simp[hg,hr,binOp]) h
theorem s_shlI {m n:Int}{yk:IntKind}(hx:ev f x=vI m)(hy:ev f y= .int yk n)(hn:0≤n)(h:wpl ρ P N D ops rest Q (upo N f dst (vI (NY m n.toNat))) w):
  wpl ρ P N D ops (⟨dst,.binOp .shl t x y t',ty,pos,af,none⟩::rest) Q f w:=
 Ou hx hy (.inl rfl) (by simp[Op.shift,Int.not_lt.2 hn,IntKind.bits,Hh,NY]) h
theorem s_shrI {m n:Int}{yk:IntKind}(hx:ev f x=vI m)(hy:ev f y= .int yk n)(hn:0≤n)(h:wpl ρ P N D ops rest Q (upo N f dst (vI (BE m n.toNat))) w):
  wpl ρ P N D ops (⟨dst,.binOp .shr t x y t',ty,pos,af,none⟩::rest) Q f w:=
 Ou hx hy (.inr rfl) (by simp[Op.shift,Int.not_lt.2 hn,IntKind.bits,BE]) h
theorem s_shlU {m:UInt64}{n:Int}{yk:IntKind}(hx:ev f x=vU m)(hy:ev f y= .int yk n)(hn:0≤n)(h:wpl ρ P N D ops rest Q (upo N f dst (vU (JL m n.toNat))) w):
  wpl ρ P N D ops (⟨dst,.binOp .shl t x y t',ty,pos,af,none⟩::rest) Q f w:=
 Ou hx hy (.inl rfl) (by simp[Op.shift,Int.not_lt.2 hn,IntKind.bits,Aic,JL]) h
theorem Vj (a b:Nat):((a:Int).fdiv (b:Int))=((a/b:Nat):Int):=by
 rw[Int.fdiv_eq_ediv_of_nonneg _ (by omega)]; rfl
theorem s_shrU {m:UInt64}{n:Int}{yk:IntKind}(hx:ev f x=vU m)(hy:ev f y= .int yk n)(hn:0≤n)(h:wpl ρ P N D ops rest Q (upo N f dst (vU (Fu m n.toNat))) w):
  wpl ρ P N D ops (⟨dst,.binOp .shr t x y t',ty,pos,af,none⟩::rest) Q f w:=
 Ou hx hy (.inr rfl) (by
  have e:((2:Int)^ (min n.toNat 64))=((2^ (min n.toNat 64):Nat):Int):=by simp
  have l:m.toNat/2^ (min n.toNat 64)<18446744073709551616:=Ali (Nat.div_le_self _ _) m.toNat_lt;simp only[Op.shift,Int.not_lt.2 hn,IntKind.bits,if_false,AkK,e,Vj,Fu,vU,UInt64.toNat_ofNat',Ak0 l]) h
theorem s_shrW {m:UInt32}{n:Int}{yk:IntKind}(hx:ev f x=vW m)(hy:ev f y= .int yk n)(hn:0≤n)(h:wpl ρ P N D ops rest Q (upo N f dst (vW (shrW m n.toNat))) w):
  wpl ρ P N D ops (⟨dst,.binOp .shr t x y t',ty,pos,af,none⟩::rest) Q f w:=
 Ou hx hy (.inr rfl) (by
  have e:((2:Int)^ (min n.toNat 32))=((2^ (min n.toNat 32):Nat):Int):=by simp
  have l:m.toNat/2^ (min n.toNat 32)<4294967296:=Ali (Nat.div_le_self _ _) m.toNat_lt;simp only[Op.shift,Int.not_lt.2 hn,IntKind.bits,if_false,AkK,e,Vj,shrW,vW,UInt32.toNat_ofNat',Ak0 l]) h
theorem s_shrB {m:UInt8}{n:Int}{yk:IntKind}(hx:ev f x=vB m)(hy:ev f y= .int yk n)(hn:0≤n)(h:wpl ρ P N D ops rest Q (upo N f dst (vB (Ae3 m n.toNat))) w):
  wpl ρ P N D ops (⟨dst,.binOp .shr t x y t',ty,pos,af,none⟩::rest) Q f w:=
 Ou hx hy (.inr rfl) (by
  have e:((2:Int)^ (min n.toNat 8))=((2^ (min n.toNat 8):Nat):Int):=by simp
  have l:m.toNat/2^ (min n.toNat 8)<256:=Ali (Nat.div_le_self _ _) m.toNat_lt;simp only[Op.shift,Int.not_lt.2 hn,IntKind.bits,if_false,AkK,e,Vj,Ae3,vB,UInt8.toNat_ofNat',Ak0 l]) h
theorem Wd {k:IntKind}{n:Int}{j:IntKind}{d1:TypeDesc}(hx:ev f x= .int j n)(h1:P.underlying t=some d1)(h2:P.underlying t'=some (.int k))(h:wpl ρ P N D ops rest Q (upo N f dst (.int k (k.wrap n))) w):
  wpl ρ P N D ops (⟨dst,.convert t t' x,ty,pos,af,none⟩::rest) Q f w:=
 Aq (v:= .int k (k.wrap n)) (w':=w) rfl (fun _ e=>by cases e) (by
  simp only[execOp,hx];cases d1<;>simp[convert,AkD h1,AkD h2,Conv.intToInt]) h
theorem AiF {n:Int}{j:IntKind}{d1:TypeDesc}(hx:ev f x= .int j n)(h1:P.underlying t=some d1)(h2:P.underlying t'=some (.int .i64))(h:wpl ρ P N D ops rest Q (upo N f dst (vI (w64 n))) w):
 wpl ρ P N D ops (⟨dst,.convert t t' x,ty,pos,af,none⟩::rest) Q f w:=Wd hx h1 h2 (by rw[Hh]; exact h)
theorem AiE {n:Int}{j:IntKind}{d1:TypeDesc}(hx:ev f x= .int j n)(h1:P.underlying t=some d1)(h2:P.underlying t'=some (.int .u64))(h:wpl ρ P N D ops rest Q (upo N f dst (vU (toU n))) w):
 wpl ρ P N D ops (⟨dst,.convert t t' x,ty,pos,af,none⟩::rest) Q f w:=Wd hx h1 h2 (by rw[Aic]; exact h)
theorem AiD {n:Int}{j:IntKind}{d1:TypeDesc}(hx:ev f x= .int j n)(h1:P.underlying t=some d1)(h2:P.underlying t'=some (.int .u32))(h:wpl ρ P N D ops rest Q (upo N f dst (vW (toW n))) w):
 wpl ρ P N D ops (⟨dst,.convert t t' x,ty,pos,af,none⟩::rest) Q f w:=Wd hx h1 h2 (by rw[wrapW]; exact h)
theorem AiG {n:Int}{j:IntKind}{d1:TypeDesc}(hx:ev f x= .int j n)(h1:P.underlying t=some d1)(h2:P.underlying t'=some (.int .u8))(h:wpl ρ P N D ops rest Q (upo N f dst (vB (toB n))) w):
 wpl ρ P N D ops (⟨dst,.convert t t' x,ty,pos,af,none⟩::rest) Q f w:=Wd hx h1 h2 (by rw[Aid]; exact h)
theorem s_ext {i:Nat}{vs:Array Value}(hx:ev f x= .tuple vs)(hv:vs[i]? =some v)(h:wpl ρ P N D ops rest Q (upo N f dst v) w):
  wpl ρ P N D ops (⟨dst,.extract x i,ty,pos,af,none⟩::rest) Q f w:=
 Aq (v:=v) (w':=w) rfl (fun _ e=>by cases e) (by simp[execOp,hx,Instr.extract,hv]) h
theorem s_func {fn:Fn}{first cap:Array Operand}(h:wpl ρ P N D ops rest Q (upo N f dst (.func fn (first.map (ev f)) (cap.map (ev f)))) w):
  wpl ρ P N D ops (⟨dst,.makeFunc fn first cap,ty,pos,af,none⟩::rest) Q f w:=
 Aq (w':=w) rfl (fun _ e=>by cases e) (by simp[execOp,Instr.makeFunc]) h
end
def cel (l:List Value)(e:TypeId):Obj:= .cells l.toArray e (0,0)
abbrev pt (b off:Nat):Value:= .pointer (some ⟨b,off,none⟩)
abbrev bx (b:Nat)(l:List Value)(e:TypeId):Ow:=blk b (cel l e)
theorem Eg (b off n:Nat):(⟨b,off,none⟩:Addr).add n=⟨b,off+n,none⟩:=by
 unfold Addr.add; split<;>simp_all
class GoT (α:Type) where
 sz:Nat
 rep:Mem→List Value→α→Prop
 len: ∀{m cs x},rep m cs x→cs.length=sz
 up: ∀{m m' cs x},m≤m'→rep m cs x→rep m' cs x
 one: ∀{m cs x},rep m cs x→∀v∈cs,v.oneCell'=true
instance:GoT Int where
 sz:=1
 rep _ cs n:=cs=[vI n]
 len h:=by rw[h]; rfl
 up _ h:=h
 one h v hv:=by rw[h]at hv; simp at hv; rw[hv]; rfl
instance:GoT UInt64 where
 sz:=1
 rep _ cs n:=cs=[vU n]
 len h:=by rw[h]; rfl
 up _ h:=h
 one h v hv:=by rw[h]at hv; simp at hv; rw[hv]; rfl
instance:GoT UInt8 where
 sz:=1
 rep _ cs n:=cs=[vB n]
 len h:=by rw[h]; rfl
 up _ h:=h
 one h v hv:=by rw[h]at hv; simp at hv; rw[hv]; rfl
instance:GoT Bool where
 sz:=1
 rep _ cs n:=cs=[vb n]
 len h:=by rw[h]; rfl
 up _ h:=h
 one h v hv:=by rw[h]at hv; simp at hv; rw[hv]; rfl
instance:GoT ByteArray where
 sz:=1
 rep _ cs n:=cs=[vS n]
 len h:=by rw[h]; rfl
 up _ h:=h
 one h v hv:=by rw[h]at hv; simp at hv; rw[hv]; rfl
instance {α β:Type} [GoT α] [GoT β]:GoT (α×β) where
 sz:=GoT.sz α+GoT.sz β
 rep m cs x:= ∃a b,cs=a++b∧GoT.rep m a x.1∧GoT.rep m b x.2
 len:=by rintro m cs x ⟨a,b,rfl,h1,h2⟩; rw[Akz,GoT.len h1,GoT.len h2]
 up:=by rintro m m' cs x l ⟨a,b,rfl,h1,h2⟩; exact⟨a,b,rfl,GoT.up l h1,GoT.up l h2⟩
 one:=by
  rintro m cs x ⟨a,b,rfl,h1,h2⟩ v hv;rcases AkS.1 hv with h|h
  ·exact GoT.one h1 v h
  ·exact GoT.one h2 v h
def PtC (m:Mem)(p:Value)(cs:List Value):Prop:= ∃b off l e fr,p=pt b off∧m.heap b=some (.cells l e fr)∧∀i x,cs[i]? =some x→l[off+i]? =some x
theorem PtC.up {m m':Mem}{p:Value}{cs:List Value}(h:PtC m p cs)(l:m≤m'):PtC m' p cs:=
 let ⟨b,off,a,e,fr,h1,h2,h3⟩:=h; ⟨b,off,a,e,fr,h1,l.heap _ _ h2,h3⟩
def SlC (m:Mem)(sz:Nat)(v:Value)(cs:List Value)(n:Nat):Prop:=cs.length=n*sz∧n≤9223372036854775807∧((n=0∧∃a c,v= .slice a 0 c)∨∃b off cap l e fr,v= .slice (some ⟨b,off,none⟩) n cap∧(n≤cap∧cap≤9223372036854775807)∧m.heap b=some (.cells l e fr)∧∀i x,cs[i]? =some x→l[off+i]? =some x)
theorem SlC.up {m m':Mem}{sz:Nat}{v:Value}{cs:List Value}{n:Nat}(h:SlC m sz v cs n)(l:m≤m'):SlC m' sz v cs n:=by
 obtain⟨hl,hb,h|⟨b,off,cap,a,e,fr,h1,h2,h3,h4⟩⟩:=h
 ·exact⟨hl,hb,.inl h⟩
 ·exact⟨hl,hb,.inr ⟨b,off,cap,a,e,fr,h1,h2,l.heap _ _ h3,h4⟩⟩
theorem SlC.val {m:Mem}{sz:Nat}{v:Value}{cs:List Value}{n:Nat}(h:SlC m sz v cs n): ∃a c,v= .slice a n c:=by
 obtain⟨_,_,⟨rfl,a,c,rfl⟩|⟨b,off,cap,a,e,fr,rfl,_⟩⟩:=h
 ·exact⟨a,c,rfl⟩
 ·exact⟨_,cap,rfl⟩
theorem SlC.one {m:Mem}{sz:Nat}{v:Value}{cs:List Value}{n:Nat}(h:SlC m sz v cs n):v.oneCell'=true:=by
 obtain⟨a,c,rfl⟩:=h.val; rfl
def DU {α:Type} [GoT α](m:Mem):List Value→List α→Prop
 |cs,[]=>cs=[]
 |cs,x::xs=> ∃c d,cs=c++d∧GoT.rep m c x∧DU m d xs
section
variable {α:Type} [GoT α]{m m':Mem}
theorem DU.up {cs:List Value}{xs:List α}(l:m≤m')(h:DU m cs xs):DU m' cs xs:=by
 induction xs generalizing cs with
 |nil=>exact h
 |cons x xs ih=>obtain⟨c,d,e,h1,h2⟩:=h; exact⟨c,d,e,GoT.up l h1,ih h2⟩
theorem DU.nil:DU (α:=α) m [] []:=rfl
theorem DU.cons {c d:List Value}{x:α}{xs:List α}(h:GoT.rep m c x)(k:DU m d xs):DU m (c++d) (x::xs):=⟨c,d,rfl,h,k⟩
theorem DU.append {c d:List Value}{xs ys:List α}(h:DU m c xs)(k:DU m d ys):DU m (c++d) (xs++ys):=by
 induction xs generalizing c with
 |nil=>cases h; exact k
 |cons x xs ih=>obtain⟨a,b,rfl,h1,h2⟩:=h; exact⟨a,b++d,by simp,h1,ih h2⟩
theorem DU.length {cs:List Value}{xs:List α}(h:DU m cs xs):cs.length=xs.length*GoT.sz α:=by
 induction xs generalizing cs with
 |nil=>cases h; simp
 |cons x xs ih=>
  obtain⟨a,b,rfl,h1,h2⟩:=h;rw[Akz,GoT.len h1,ih h2,AkB,Nat.succ_mul,Nat.add_comm]
theorem DU.one {cs:List Value}{xs:List α}(h:DU m cs xs): ∀v∈cs,v.oneCell'=true:=by
 induction xs generalizing cs with
 |nil=>cases h; simp
 |cons x xs ih=>
  obtain⟨a,b,rfl,h1,h2⟩:=h;intro v hv;rcases AkS.1 hv with k|k
  ·exact GoT.one h1 v k
  ·exact ih h2 v k
theorem DU.drop {cs:List Value}{xs:List α}(h:DU m cs xs)(n:Nat):DU m (cs.drop (n*GoT.sz α)) (xs.drop n):=by
 induction n generalizing cs xs with
 |zero=>simpa using h
 |succ n ih=>
  cases xs with
  |nil=>cases h; simp[DU]
  |cons x xs=>
   obtain⟨a,b,rfl,h1,h2⟩:=h;have:=ih h2;rw[Nat.succ_mul,Nat.add_comm,←All,List.drop_left' (GoT.len h1)];exact this
theorem DU.take {cs:List Value}{xs:List α}(h:DU m cs xs)(n:Nat):DU m (cs.take (n*GoT.sz α)) (xs.take n):=by
 induction n generalizing cs xs with
 |zero=>simp[DU]
 |succ n ih=>
  cases xs with
  |nil=>cases h; simp[DU]
  |cons x xs=>
   obtain⟨a,b,rfl,h1,h2⟩:=h;refine⟨a,b.take (n*GoT.sz α),?_,h1,ih h2⟩;rw[Nat.succ_mul,Nat.add_comm,←GoT.len h1,List.take_length_add_append,GoT.len h1]
theorem DU.get {cs:List Value}{xs:List α}(h:DU m cs xs){i:Nat}{x:α}(hi:xs[i]? =some x):
  GoT.rep m ((cs.drop (i*GoT.sz α)).take (GoT.sz α)) x:=by
 have hd:=h.drop i;have hlt:=(AkR.1 hi).1;rw[List.drop_eq_getElem_cons hlt]at hd;obtain⟨a,b,e,h1,_⟩:=hd;rw[e,List.take_left' (GoT.len h1),(AkR.1 hi).2.symm];exact h1
end
def SlR {α:Type} [GoT α](m:Mem)(v:Value)(xs:List α):Prop:= ∃cs,SlC m (GoT.sz α) v cs xs.length∧DU m cs xs
theorem SlR.up {α:Type} [GoT α]{m m':Mem}{v:Value}{xs:List α}(h:SlR m v xs)(l:m≤m'):SlR m' v xs:=
 let ⟨cs,h1,h2⟩:=h; ⟨cs,h1.up l,h2.up l⟩
theorem SlR.nil {α:Type} [GoT α]{m:Mem}{a:Option Addr}{c:Nat}:SlR (α:=α) m (.slice a 0 c) []:=
 ⟨[],⟨by simp,by simp,.inl ⟨rfl,a,c,rfl⟩⟩,rfl⟩
theorem SlR.le {α:Type} [GoT α]{m:Mem}{v:Value}{xs:List α}(h:SlR m v xs):xs.length≤9223372036854775807:=
 let ⟨_,h1,_⟩:=h; h1.2.1
theorem SlR.val {α:Type} [GoT α]{m:Mem}{v:Value}{xs:List α}(h:SlR m v xs): ∃a c,v= .slice a xs.length c:=
 let ⟨_,h1,_⟩:=h; h1.val
instance {α:Type} [GoT α]:GoT (List α) where
 sz:=1
 rep m cs xs:= ∃v,cs=[v]∧SlR m v xs
 len:=by rintro m cs x ⟨v,rfl,_⟩; rfl
 up:=by rintro m m' cs x l ⟨v,rfl,h⟩; exact⟨v,rfl,h.up l⟩
 one:=by
  rintro m cs x ⟨v,rfl,h⟩ u hu;simp at hu; subst hu;obtain⟨cs,h1,_⟩:=h; exact h1.one
def pk (agg:Bool)(cs:List Value):Value:=bif agg then .agg cs.toArray else cs.headD undef
def idx {α:Type}(xs:List α)(i:Int):Option α:=if 0≤i then xs[i.toNat]? else none
def cut {α:Type}(xs:List α)(lo hi:Int):Option (List α):=if 0≤lo∧lo≤hi∧hi≤xs.length then some ((xs.drop lo.toNat).take (hi.toNat-lo.toNat))else none
def Ab {α β:Type}(x:Option α)(k:α→Option β):Option β:=match x with|some a=>k a|none=>none
@[simp] theorem Aa {α β:Type}(a:α)(k:α→Option β):Ab (some a) k=k a:=rfl
@[simp] theorem obind_none {α β:Type}(k:α→Option β):Ab none k=none:=rfl
theorem Ac {α β:Type}{x:Option α}{k:α→Option β}{r:β}(h:Ab x k=some r): ∃a,x=some a∧k a=some r:=by
 cases x with
 |none=>cases h
 |some a=>exact⟨a,rfl,h⟩
theorem BY {β:Type}{c:Prop} [Decidable c]{x:Option β}{r:β}(h:(if c then x else none)=some r):c∧x=some r:=by
 split at h
 ·rename_i hc; exact⟨hc,h⟩
 ·cases h
theorem Qm {w:World}{b off:Nat}{l:Array Value}{e:TypeId}{fr:Nat×Nat}{x:Value}(h:w.heap[b]? =some (.cells l e fr))(hx:l[off]? =some x):w.cell? ⟨b,off,none⟩=some x:=by
 simp[World.cell?,h,hx]
theorem Gg {P:Program}{w:World}{b off:Nat}{l:Array Value}{e:TypeId}{fr:Nat×Nat}(hb:w.heap[b]? =some (.cells l e fr))(cs:List Value):
  ∀(i:Nat) (acc:Array Value),(∀j x,cs[j]? =some x→l[off+i+j]? =some x)→(loadCellsFrom ⟨b,off,none⟩ i cs.length acc).run P w= .ok (acc++cs.toArray) w:=by
 induction cs with
 |nil=>intro i acc _; simp[loadCellsFrom]
 |cons c cs ih=>
  intro i acc h;have h0:w.cell? ⟨b,off+i,none⟩=some c:=Qm hb (by simpa using h 0 c rfl);have ih':=ih (i+1) (acc.push c) (fun j x hx=>by have:=h (j+1) x (by simpa using hx); rw[←this]; congr 1; omega);simp only[AkB,loadCellsFrom,Eg,AkJ,load,Sem.run,h0,AkF,ih'];simp
theorem LX {P:Program}{w:World}{b off:Nat}{l:Array Value}{e:TypeId}{fr:Nat×Nat}{t:TypeId}{agg:Bool}(hb:w.heap[b]? =some (.cells l e fr))(cs:List Value)(hc: ∀j x,cs[j]? =some x→l[off+j]? =some x)
  (ha: ∀w,(isAgg t).run P w= .ok agg w) (hs: ∀w,(sizeOf t).run P w= .ok cs.length w) (h1:agg=false→cs.length=1):(loadVar t ⟨b,off,none⟩).run P w= .ok (pk agg cs) w:=by
 cases agg
 ·match cs,h1 rfl with
  | [c],_=>
   have h0:w.cell? ⟨b,off,none⟩=some c:=Qm hb (by simpa using hc 0 c rfl);simp[loadVar,ha,load,Sem.run,h0,pk]
 ·have:=Gg (P:=P) hb cs 0 #[] (by simpa using hc);simp[loadVar,ha,hs,loadCells,this,pk]
def frOk (fr:Nat×Nat)(n:Nat):Prop:=fr.1=fr.2∨n≤fr.1
theorem frOk.no {fr:Nat×Nat}{n k:Nat}(h:frOk fr n)(hk:k<n):(decide (fr.1≤k)&&decide (k<fr.2))=false:=by
 rw[←Bool.not_eq_true,Aks,AkH,AkH];rcases h with h|h<;>omega
theorem Hs {P:Program}{w:World}{b off:Nat}{e:TypeId}{fr:Nat×Nat}(cs:List Value)(h1: ∀v∈cs,v.oneCell'=true):
  ∀(l:List Value) (i:Nat),off+i+cs.length≤l.length→frOk fr l.length→w.heap[b]? =some (.cells l.toArray e fr)→
   (storeCells ⟨b,off,none⟩ cs i).run P w= .ok () {w with heap:=w.heap.setIfInBounds b (.cells (l.take (off+i)++cs++l.drop (off+i+cs.length)).toArray e fr)}:=by
 induction cs generalizing w with
 |nil=>
  intro l i hl _ hb;have:w.heap.setIfInBounds b (.cells l.toArray e fr)=w.heap:=by
   apply Array.ext_getElem?;intro k;rw[Array.getElem?_setIfInBounds];split
   ·rename_i h; subst h; rw[hb]; rw[AkA (AkM.1 hb).1]
   ·rfl
  simp only[storeCells,AkX,AkY,Nat.add_zero,List.take_append_drop,this];rfl
 |cons c cs ih=>
  intro l i hl hfr hb;simp only[AkB]at hl;have hc:c.oneCell'=true:=h1 c (by simp);have hlt:off+i<l.length:=by omega
  have h0:w.cell? ⟨b,off+i,none⟩=some l[off+i]:=Qm hb (by simp[hlt]);have hf:w.frozen? ⟨b,off+i,none⟩=false:=by
   have:=hfr.no hlt;simp only[World.frozen?,hb]; exact this
  have hw:w.setCell ⟨b,off+i,none⟩ c={w with heap:=w.heap.setIfInBounds b (.cells (l.set (off+i) c).toArray e fr)}:=by
   simp only[World.setCell];congr 1;apply Array.ext_getElem?;intro k;rw[Array.getElem?_modify,Array.getElem?_setIfInBounds];split
   ·rename_i h; subst h;rw[hb,AkA (AkM.1 hb).1];simp
   ·rfl
  have hst:(store ⟨b,off+i,none⟩ c).run P w= .ok () (w.setCell ⟨b,off+i,none⟩ c):=by
   unfold store;cases c<;>first|(simp[Value.oneCell']at hc; done)|simp[Sem.run,h0,hf]
  have hb':(w.setCell ⟨b,off+i,none⟩ c).heap[b]? =some (.cells (l.set (off+i) c).toArray e fr):=by
   rw[hw]; simp[(AkM.1 hb).1]
  have ih':=ih (w:=w.setCell ⟨b,off+i,none⟩ c) (fun v hv=>h1 v (by simp[hv])) (l.set (off+i) c) (i+1) (by simp; omega) (by simpa using hfr) hb';simp only[storeCells,Eg,AkJ,hst,AkF,ih'];rw[hw];congr 2;apply Array.ext_getElem?;intro k;simp only[Array.getElem?_setIfInBounds,Array.size_setIfInBounds];split
  ·rename_i h; subst h;split
   ·congr 3;rw[show off+(i+1)=(off+i)+1 from by omega];rw[List.take_set,List.take_succ_eq_append_getElem hlt,List.drop_set_of_lt (by omega)];rw[List.set_append_right _ _ (by simp; omega)];simp[Nat.min_eq_left (Nat.le_of_lt hlt)];congr 1; omega
   ·rfl
  ·rfl
theorem Ta {P:Program}{w:World}{b off:Nat}{e:TypeId}(cs:List Value)(h1: ∀v∈cs,v.oneCell'=true)
  (l:List Value) (i:Nat) (hl:off+i+cs.length≤l.length) (hb:w.heap[b]? =some (cel l e)):
   (storeCells ⟨b,off,none⟩ cs i).run P w= .ok () {w with heap:=w.heap.setIfInBounds b (cel (l.take (off+i)++cs++l.drop (off+i+cs.length)) e)}:=
 Hs cs h1 l i hl (.inl rfl) hb
section
variable {ρ:Option Nat}{P:Program}{N:Nat}{D:Dw}{ops:Array Oper}{rest:List Oper}{Q:DJ}{f:Fr}{w w':World}{v:Value}
variable {dst:Option Nat}{ty t t':TypeId}{pos:String}{af:Array Edge}{x y c a b:Operand}{m:Mem}{As:List Ow}
theorem AiI {e:TypeId}{z:Value}(hS:St m As w)(hz: ∀w,(zeroValue e).run P w= .ok z w)
  (h: ∀b w',St m (bx b z.cells.toList e::As) w'→wpl ρ P N D ops rest Q (upo N f dst (pt b 0)) w'):
  wpl ρ P N D ops (⟨dst,.alloc e,ty,pos,af,none⟩::rest) Q f w:=
 Aq (v:=pt w.heap.size 0) (w':=w.alloc (cel z.cells.toList e)) rfl (fun _ e=>by cases e) (by
  simp only[execOp,Instr.alloc,newVar,newRow,newObj,AkJ,hz,AkF,Sem.run,AkK];rfl) (h _ _ (hS.push _ CI)) (Kd.push _ _)
theorem s_box {e:TypeId}{u:Value}(hS:St m As w)(hx:ev f x=u)
  (h: ∀b w',St m (bx b u.cells.toList e::As) w'→wpl ρ P N D ops rest Q (upo N f dst (pt b 0)) w'):
  wpl ρ P N D ops (⟨dst,.box e x,ty,pos,af,none⟩::rest) Q f w:=
 Aq (v:=pt w.heap.size 0) (w':=w.alloc (cel u.cells.toList e)) rfl (fun _ e=>by cases e) (by
  simp only[execOp,hx,Instr.box,newVar,newRow,newObj,AkJ,AkF,Sem.run,AkK];rfl) (h _ _ (hS.push _ CI)) (Kd.push _ _)
theorem s_ld {i b off:Nat}{l cs:List Value}{e:TypeId}{agg:Bool}(hS:St m As w)(hx:ev f x=pt b off)(hi:As[i]? =some (bx b l e))
  (ha: ∀w,(isAgg t).run P w= .ok agg w) (hs: ∀w,(sizeOf t).run P w= .ok cs.length w) (hc:(l.drop off).take cs.length=cs) (h1:agg=false→cs.length=1)
  (h:wpl ρ P N D ops rest Q (upo N f dst (pk agg cs)) w):
  wpl ρ P N D ops (⟨dst,.load t x,ty,pos,af,none⟩::rest) Q f w:=
 Aq (v:=pk agg cs) (w':=w) rfl (fun _ e=>by cases e) (by
  have hl:=LX (P:=P) (off:=off) (t:=t) (hS.blk hi) cs (fun j x hx=>by
   rw[←hc]at hx;simp only[List.getElem?_take,List.getElem?_drop]at hx;split at hx
   ·simpa using hx
   ·cases hx) ha hs h1
  simp[execOp,hx,Instr.loadAt,Instr.sureAddr,hl]) h
theorem s_ldM {cs:List Value}{p:Value}{d:List Value}{agg:Bool}(hS:St m As w)(hx:ev f x=p)(hp:PtC m p d)(hc:d.take cs.length=cs)
  (ha: ∀w,(isAgg t).run P w= .ok agg w) (hs: ∀w,(sizeOf t).run P w= .ok cs.length w) (h1:agg=false→cs.length=1)
  (h:wpl ρ P N D ops rest Q (upo N f dst (pk agg cs)) w):
  wpl ρ P N D ops (⟨dst,.load t x,ty,pos,af,none⟩::rest) Q f w:=by
 obtain⟨b,off,l,e,fr,rfl,hb,hcc⟩:=hp;refine Aq (v:=pk agg cs) (w':=w) rfl (fun _ e=>by cases e) ?_ h;have hl:=LX (P:=P) (off:=off) (t:=t) (hS.mem hb) cs (fun j x hx=>by
  rw[←hc]at hx;simp only[List.getElem?_take]at hx;split at hx
  ·exact hcc _ _ hx
  ·cases hx) ha hs h1
 simp[execOp,hx,Instr.loadAt,Instr.sureAddr,hl]
theorem s_st {i b off:Nat}{l:List Value}{e:TypeId}{u:Value}(hS:St m As w)(hx:ev f x=pt b off)(hy:ev f y=u)(hi:As[i]? =some (bx b l e))
  (hs: ∀w,(sizeOf t).run P w= .ok u.cells.size w) (h1: ∀c∈u.cells.toList,c.oneCell'=true) (hl:off+u.cells.size≤l.length)
  (h: ∀w',St m (As.set i (bx b (l.take off++u.cells.toList++l.drop (off+u.cells.size)) e)) w'→wpl ρ P N D ops rest Q (upo N f dst undef) w'):
  wpl ρ P N D ops (⟨dst,.store t x y,ty,pos,af,none⟩::rest) Q f w:=by
 have hst:=Ta (P:=P) (off:=off) u.cells.toList h1 l 0 (by simpa using hl) (hS.blk hi);simp only[Nat.add_zero,Array.length_toList]at hst;refine Lh (w':={w with heap:=w.heap.setIfInBounds b (cel (l.take off++u.cells.toList++l.drop (off+u.cells.size)) e)}) rfl (fun _ e=>by cases e) ?_ (h _ (hS.put hi _ _ rfl rfl rfl rfl CI)) (Kd.set (hS.blk hi) CI rfl);simp[execOp,hx,hy,Instr.storeAt,Instr.sureAddr,storeVar,hs,hst]
theorem Wc {n cap:Nat}{ao:Option Addr}{e:TypeId}(hx:ev f x= .slice ao n cap)(hu:P.underlying t=some (.slice e))(h:wpl ρ P N D ops rest Q (upo N f dst (vI n)) w):
  wpl ρ P N D ops (⟨dst,.call {callee:= .builtin .len,args:= #[x],argTypes:= #[t]},ty,pos,af,none⟩::rest) Q f w:=
 Aq (v:=vI n) (w':=w) rfl (fun _ e=>by cases e) (by simp[execOp,resolve,invoke,builtin,Builtin.len_,hx,AkD hu,goInt]) h
theorem AiA {b off o:Nat}{fs:Array Field}{fd:Field}{n i:Nat}(hx:ev f x=pt b off)(hu:P.underlying t=some (.struct fs))(hf:fs[i]? =some fd)(ho:fd.offset=o)
  (hs: ∀w,(sizeOf fd.type).run P w= .ok (n+1) w) (h:wpl ρ P N D ops rest Q (upo N f dst (pt b (off+o))) w):
  wpl ρ P N D ops (⟨dst,.fieldAddr t x i,ty,pos,af,none⟩::rest) Q f w:=
 Aq (v:=pt b (off+o)) (w':=w) rfl (fun _ e=>by cases e) (by
  subst ho;simp[execOp,hx,Instr.fieldAt,Instr.sureAddr,AkD hu,hf,fieldPlace,hs,Eg]) h
theorem Ahb {b off n sz:Nat}{e:TypeId}{k:IntKind}{i:Int}(hx:ev f x=pt b off)(hi:ev f y= .int k i)(hu:P.underlying t=some (.array n e))(hs: ∀w,(sizeOf e).run P w= .ok sz w)
  (h0:0≤i) (hn:i<n) (h:wpl ρ P N D ops rest Q (upo N f dst (pt b (off+i.toNat*sz))) w):
  wpl ρ P N D ops (⟨dst,.indexAddr t x y,ty,pos,af,none⟩::rest) Q f w:=
 Aq (v:=pt b (off+i.toNat*sz)) (w':=w) rfl (fun _ e=>by cases e) (by
  simp only[execOp,hx,hi,Instr.indexAt,asIntOf,AkJ,AkK,AkF,AkD hu,Instr.sureAddr];simp[h0,hn,hs,Eg]) h
theorem s_idx {α:Type} [GoT α]{xs:List α}{q:α}{e:TypeId}{k:IntKind}{i:Int}(hx:ev f x=v)(hi:ev f y= .int k i)(hv:SlR m v xs)(hq:idx xs i=some q)(hu:P.underlying t=some (.slice e))
  (hs: ∀w,(sizeOf e).run P w= .ok (GoT.sz α) w) (h: ∀p cs,PtC m p cs→GoT.rep m cs q→wpl ρ P N D ops rest Q (upo N f dst p) w):
  wpl ρ P N D ops (⟨dst,.indexAddr t x y,ty,pos,af,none⟩::rest) Q f w:=by
 obtain⟨h0,hq⟩:=BY hq;have hlt:i.toNat<xs.length:=(AkR.1 hq).1;obtain⟨cs,⟨hl,_,⟨hn,_⟩|⟨b,off,cap,l,e',fr,rfl,hcap,hb,hcc⟩⟩,hr⟩:=hv
 ·omega
 ·refine Aq (v:=pt b (off+i.toNat*GoT.sz α)) (w':=w) rfl (fun _ e=>by cases e) ?_ (h _ ((cs.drop (i.toNat*GoT.sz α)).take (GoT.sz α)) ⟨b,_,l,e',fr,rfl,hb,fun j x hx=> ?_⟩ (hr.get hq))
  ·simp only[execOp,hx,hi,Instr.indexAt,asIntOf,AkJ,AkK,AkF,AkD hu];have:i<xs.length:=by omega
   simp[h0,this,hs,Eg]
  ·simp only[List.getElem?_take,List.getElem?_drop]at hx;split at hx
   ·rw[Alo]; exact hcc _ _ hx
   ·cases hx
theorem s_fldM {p:Value}{d:List Value}{o:Nat}{fs:Array Field}{fd:Field}{n i:Nat}(hx:ev f x=p)(hp:PtC m p d)(hu:P.underlying t=some (.struct fs))(hf:fs[i]? =some fd)(ho:fd.offset=o)
  (hs: ∀w,(sizeOf fd.type).run P w= .ok (n+1) w) (h: ∀p',PtC m p' (d.drop o)→wpl ρ P N D ops rest Q (upo N f dst p') w):
  wpl ρ P N D ops (⟨dst,.fieldAddr t x i,ty,pos,af,none⟩::rest) Q f w:=by
 obtain⟨b,off,l,e,fr,rfl,hb,hcc⟩:=hp;refine AiA hx hu hf ho hs (h _ ⟨b,off+o,l,e,fr,rfl,hb,fun j x hx=> ?_⟩);simp only[List.getElem?_drop]at hx;rw[Alo]; exact hcc _ _ hx
theorem P4 {xv u:Value}{lo hi mx:Option Operand}{e:TypeId}(hx:ev f x=xv)(hu:P.underlying t=some (.slice e))
  (hr:(Instr.slice t xv (lo.map (ev f)) (hi.map (ev f)) (mx.map (ev f))).run P w= .ok u w) (h:wpl ρ P N D ops rest Q (upo N f dst u) w):
  wpl ρ P N D ops (⟨dst,.slice t x lo hi mx,ty,pos,af,none⟩::rest) Q f w:=
 Aq (v:=u) (w':=w) rfl (fun _ e=>by cases e) (by simp[execOp,hx,Instr.sliceAt,AkD hu,hr]) h
theorem Lt {e:TypeId}{ao:Option Addr}{len cap sz:Nat}{lo hi mx:Option Value}{l h M:Nat}(hu:P.underlying t=some (.slice e))(hs: ∀w,(sizeOf e).run P w= .ok sz w)
  (hlo:(lo=none∧l=0)∨∃k,lo=some (.int k l)) (hhi:(hi=none∧h=len)∨∃k,hi=some (.int k h)) (hm:(mx=none∧M=cap)∨(∃k,mx=some (.int k M))∧hi≠none) (h1:l≤h) (h2:h≤M) (h3:M≤cap):
  (Instr.slice t (.slice ao len cap) lo hi mx).run P w= .ok (.slice (if M=l then ao else ao.map (·.add (l*sz))) (h-l) (M-l)) w:=by
 have hb:(Instr.sliceBounds true len cap lo hi mx).run P w= .ok (l,h,M) w:=by
  unfold Instr.sliceBounds;have sb: ∀(k:IntKind) (n y:Nat) (c:BoundsCode),n≤y→(Instr.sliceBound (.int k n) y c).run P w= .ok n w:=by
   intro k n y c hle;have h1:(0:Int)≤(n:Int):=by omega
   have h2:(n:Int)≤(y:Int):=by omega
   simp[Instr.sliceBound,asIntOf,h2]
  rcases hm with ⟨rfl,rfl⟩|⟨⟨k3,rfl⟩,hne⟩
  ·rcases hhi with ⟨rfl,rfl⟩|⟨k2,rfl⟩<;>rcases hlo with ⟨rfl,rfl⟩|⟨k1,rfl⟩<;>simp[sb _ _ _ _ h1,sb _ _ _ _ h2]
  ·rcases hhi with ⟨rfl,rfl⟩|⟨k2,rfl⟩
   ·exact absurd rfl hne
   ·rcases hlo with ⟨rfl,rfl⟩|⟨k1,rfl⟩<;>simp[sb _ _ _ _ h1,sb _ _ _ _ h2,sb _ _ _ _ h3]
 simp[Instr.slice,AkD hu,hb,hs]
theorem s_cut {α:Type} [GoT α]{xs ys:List α}{lo hi mx:Option Operand}{e:TypeId}{l h:Int}(hx:ev f x=v)(hv:SlR m v xs)(hu:P.underlying t=some (.slice e))(hs: ∀w,(sizeOf e).run P w= .ok (GoT.sz α) w)
  (hlo:(lo=none∧l=0)∨∃k,lo.map (ev f)=some (.int k l)) (hhi:(hi=none∧h=xs.length)∨∃k,hi.map (ev f)=some (.int k h)) (hm:mx=none∨hi≠none∧∃k,mx.map (ev f)=some (.int k h)) (hq:cut xs l h=some ys)
  (hh: ∀v',SlR m v' ys→wpl ρ P N D ops rest Q (upo N f dst v') w):
  wpl ρ P N D ops (⟨dst,.slice t x lo hi mx,ty,pos,af,none⟩::rest) Q f w:=by
 obtain⟨⟨h0,h1,h2⟩,hq⟩:=BY hq;obtain⟨l,rfl⟩:=Int.eq_ofNat_of_zero_le h0;obtain⟨h,rfl⟩:=Int.eq_ofNat_of_zero_le (Int.le_trans h0 h1);have h1:l≤h:=by omega
 have h2:h≤xs.length:=by omega
 simp only[Alg,Akv]at hq;obtain⟨cs,hc,hr⟩:=hv;have hlo':(lo.map (ev f)=none∧l=0)∨∃k,lo.map (ev f)=some (.int k l):=by
  rcases hlo with ⟨rfl,e⟩|e
  ·exact .inl ⟨rfl,by omega⟩
  ·exact .inr e
 have hhi':(hi.map (ev f)=none∧h=xs.length)∨∃k,hi.map (ev f)=some (.int k h):=by
  rcases hhi with ⟨rfl,e⟩|e
  ·exact .inl ⟨rfl,by omega⟩
  ·exact .inr e
 have hlen:ys.length=h-l:=by rw[←hq]; simp; omega
 have hbd:=hc.2.1;have hcs:((cs.drop (l*GoT.sz α)).take ((h-l)*GoT.sz α)).length=ys.length*GoT.sz α:=by
  have hn:(h-l)*GoT.sz α≤xs.length*GoT.sz α-l*GoT.sz α:=by rw[←Nat.sub_mul]; exact Nat.mul_le_mul_right _ (by omega)
  rw[Ak7,Aln,hr.length,hlen,Nat.min_eq_left hn]
 have hrep:DU m ((cs.drop (l*GoT.sz α)).take ((h-l)*GoT.sz α)) ys:=hq▸(hr.drop l).take (h-l);have key: ∀(ao:Option Addr) (cap:Nat),v= .slice ao xs.length cap→xs.length≤cap→(xs.length=0∨∃b off a e fr,ao=some ⟨b,off,none⟩∧cap≤9223372036854775807∧m.heap b=some (.cells a e fr)∧∀i x,cs[i]? =some x→a[off+i]? =some x)→
   wpl ρ P N D ops (⟨dst,.slice t x lo hi mx,ty,pos,af,none⟩::rest) Q f w:=by
  intro ao cap hv hle hao;subst hv;have go: ∀M,(mx.map (ev f)=none∧M=cap)∨(∃k,mx.map (ev f)=some (.int k M))∧hi.map (ev f)≠none→h≤M→M≤cap→
    wpl ρ P N D ops (⟨dst,.slice t x lo hi mx,ty,pos,af,none⟩::rest) Q f w:=by
   intro M hM hhM hMc;have hrun:=Lt (P:=P) (w:=w) (ao:=ao) (len:=xs.length) (cap:=cap) hu hs hlo' hhi' hM h1 hhM hMc;refine P4 hx hu hrun (hh _ ⟨_,⟨hcs,by omega,?_⟩,hrep⟩);by_cases hz:h-l=0
   ·exact .inl ⟨by omega,_,_,by rw[hz]⟩
   ·rcases hao with hao|⟨b,off,a,e',fr,rfl,hcp,hb,hcc⟩
    ·omega
    ·refine .inr ⟨b,off+l*GoT.sz α,M-l,a,e',fr,?_,⟨by omega,by omega⟩,hb,fun i x hx=> ?_⟩
     ·rw[Aky (by omega),hlen]; simp[Eg]
     ·simp only[List.getElem?_take,List.getElem?_drop]at hx;split at hx
      ·rw[Alo]; exact hcc _ _ hx
      ·cases hx
  rcases hm with rfl|⟨hne,k,hk⟩
  ·exact go cap (.inl ⟨rfl,rfl⟩) (by omega) (AkC _)
  ·exact go h (.inr ⟨⟨k,hk⟩,by cases hi<;>simp_all⟩) (AkC _) (by omega)
 obtain⟨hl,hbd,⟨hn,a,cap,rfl⟩|⟨b,off,cap,a,e',fr,rfl,hcap,hb,hcc⟩⟩:=hc
 ·exact key a cap (by rw[hn]) (by omega) (.inl hn)
 ·exact key _ cap rfl hcap.1 (.inr ⟨b,off,a,e',fr,rfl,hcap.2,hb,hcc⟩)
end
def row (sz:Nat)(v:Value)(cs:List Value)(n:Nat):Ow:=fun h=>(v= .slice none 0 0∧cs=[]∧n=0∧h=PH.emp)∨∃b cap l e fr,v= .slice (some ⟨b,0,none⟩) n cap∧h=PH.one b (.cells l e fr)∧cs.length=n*sz∧l.toList.take (n*sz)=cs∧l.size=cap*sz∧n≤cap∧cap≤maxLen∧frOk fr l.size∧(fr.1=fr.2∨sz=1)
theorem row.nil {sz:Nat}:row sz (.slice none 0 0) [] 0 PH.emp:= .inl ⟨rfl,rfl,rfl,rfl⟩
section
variable {P:Program}{w:World}{m:Mem}{As:List Ow}
theorem St.take' {A:Ow}(h:St m As w){i:Nat}(hi:As[i]? =some A): ∃h1,A h1∧h1.agree w:=let ⟨h1,a,g,_⟩:=h.take hi; ⟨h1,a,g⟩
theorem St.rowVal {i sz n:Nat}{v:Value}{cs:List Value}(h:St m As w)(hi:As[i]? =some (row sz v cs n)):(∃a c,v= .slice a n c)∧cs.length=n*sz:=by
 obtain⟨h1,⟨rfl,rfl,rfl,_⟩|⟨b,cap,l,e,fr,rfl,_,hc,_⟩,_⟩:=h.take' hi
 ·exact⟨⟨_,_,rfl⟩,by simp⟩
 ·exact⟨⟨_,_,rfl⟩,hc⟩
theorem St.rowNil (h:St m As w)(sz:Nat):St m (row sz (.slice none 0 0) [] 0::As) w:=by
 obtain⟨x,s,d,g,g',nd⟩:=h.own;exact⟨h.os,h.tape,h.output,x,⟨PH.emp,x,row.nil,s,fun _=> .inl rfl,(PH.emp_join x).symm⟩,d,g,g',nd⟩
theorem St.rowKeep {i sz n:Nat}{v:Value}{cs:List Value}(h:St m As w)(hi:As[i]? =some (row sz v cs n)): ∃m',m≤m'∧SlC m' sz v cs n∧St m' (As.eraseIdx i) w:=by
 obtain⟨h1,m',ha,le,hk,s⟩:=h.keep hi;refine⟨m',le,?_,s⟩;rcases ha with ⟨rfl,rfl,rfl,_⟩|⟨b,cap,l,e,fr,rfl,rfl,hc,ht,hl,hn,hcm,_⟩
 ·exact⟨by simp,by simp,.inl ⟨rfl,_,_,rfl⟩⟩
 ·refine⟨hc,by simp only[maxLen]at hcm; omega,.inr ⟨b,0,cap,l,e,fr,rfl,⟨hn,by simp only[maxLen]at hcm; omega⟩,hk _ _ (by simp[PH.one]),fun j x hx=> ?_⟩⟩;rw[←ht,List.getElem?_take]at hx;split at hx
  ·simpa using hx
  ·cases hx
theorem St.rowKeepT {α:Type} [GoT α]{i n:Nat}{v:Value}{cs:List Value}{xs:List α}(h:St m As w)(hi:As[i]? =some (row (GoT.sz α) v cs n))(hr:DU m cs xs)(hn:n=xs.length):
  ∃m',m≤m'∧SlR m' v xs∧St m' (As.eraseIdx i) w:=by
 subst hn;obtain⟨m',le,hc,s⟩:=h.rowKeep hi;exact⟨m',le,⟨cs,hc,hr.up le⟩,s⟩
theorem St.bxKeep {i b:Nat}{l:List Value}{e:TypeId}(h:St m As w)(hi:As[i]? =some (bx b l e)): ∃m',m≤m'∧PtC m' (pt b 0) l∧St m' (As.eraseIdx i) w:=by
 obtain⟨h1,m',ha,le,hk,s⟩:=h.keep hi;cases ha;exact⟨m',le,⟨b,0,l.toArray,e,(0,0),rfl,hk _ _ (by simp[PH.one,cel]),fun j x hx=>by simpa using hx⟩,s⟩
theorem St.bxRow {i b sz n:Nat}{l:List Value}{e:TypeId}(h:St m As w)(hi:As[i]? =some (bx b l e))(hl:l.length=n*sz)(hn:n≤maxLen):St m (As.set i (row sz (.slice (some ⟨b,0,none⟩) n n) l n)) w:=by
 obtain⟨h1,ha,hg,_,back⟩:=h.take hi;refine back _ h1 w (.inr ⟨b,n,l.toArray,e,(0,0),rfl,ha,hl,?_,by simpa using hl,AkC _,hn,.inl rfl,.inl rfl⟩) (fun k hk=> .inl hk) hg (fun _ _ _=>rfl) rfl rfl rfl id;rw[←hl]; simp
theorem Kv (w:World)(o:Obj):(w.alloc o).heap[w.heap.size]? =some o:=by show(w.heap.push o)[_]? =_; simp
theorem Vf (w:World)(o:Obj){k:Nat}(h:k<w.heap.size):(w.alloc o).heap[k]? =w.heap[k]? :=by
 show(w.heap.push o)[k]? =_; rw[Array.getElem?_push,Aky (by omega)]
theorem Ab1 {i sz n k bytes:Nat}{v z src:Value}{cs ds:List Value}{t t2 ty e:TypeId}{d2:TypeDesc}{ti:TypeInfo}
  (ht:P.underlying t=some (.slice e)) (h2:P.underlying t2=some d2) (hd:(∃e2,d2= .slice e2)∨d2= .string) (hi:P.info? e=some ti) (hz:ti.zero=some z) (hsz:ti.size=sz) (hby:ti.bytes=bytes) (hzs:z.cells.size=sz)
  (hlen: ∀w,(Builtin.lenOf src).run P w= .ok k w) (hf: ∀j,(Builtin.firstCells sz k src).run P {w with drawn:=j}= .ok ds.toArray {w with drawn:=j}) (hds:ds.length=k*sz) (h1: ∀u∈ds,u.oneCell'=true)
  (hb:(n+k)*bytes≤140737488355328) (h63:n+k≤140737488355328) (hS:St m As w) (hA:As[i]? =some (row sz v cs n)):
  ∃v' w',(Builtin.append_ #[t,t2] ty #[v,src]).run P w= .ok v' w'∧St m (As.set i (row sz v' (cs++ds) (n+k))) w'∧Kd w w':=by
 subst hsz hby;obtain⟨p,ha,hg,_,back⟩:=hS.take hA;have hf0:(Builtin.firstCells ti.size k src).run P w= .ok ds.toArray w:=hf w.drawn;have hf1:(Builtin.firstCells ti.size k src).run P w.drew= .ok ds.toArray w.drew:=hf _;have hun: ∀w,(underlying t).run P w= .ok (.slice e) w:=fun w=>AkD ht w;have hu2: ∀w,(underlying t2).run P w= .ok d2 w:=fun w=>AkD h2 w;have grow: ∀(base:Option Addr) (cap:Nat),v= .slice base n cap→cap<n+k→cs.length=n*ti.size→(Builtin.firstCells ti.size n v).run P w.drew= .ok cs.toArray w.drew→
   ∃v' w',(Builtin.append_ #[t,t2] ty #[v,src]).run P w= .ok v' w'∧St m (As.set i (row ti.size v' (cs++ds) (n+k))) w'∧Kd w w':=by
  intro base cap hv hcap hcl hfo;subst hv;have hfit:=growslice_fits hcap hb;have hn: ¬(n+k≤cap):=by omega
  have h63': ¬(9223372036854775807<((n:Int)+(k:Int))):=by omega
  have h48': ¬(281474976710656<Builtin.nextslicecap (n+k) cap*ti.bytes):=by omega
  have hge:=grownCap_ge w (n+k) cap e;have hcm:grownCap w (n+k) cap e≤maxLen:=grownCap_le_maxLen w (n+k) cap e (by simp only[maxLen]; omega);refine⟨.slice (some ⟨w.heap.size,0,none⟩) (n+k) (grownCap w (n+k) cap e),w.drew.alloc (.cells (cs.toArray++ds.toArray++Builtin.zeroCells z.cells (grownCap w (n+k) cap e-(n+k))) e),?_,?_⟩
  ·rcases hd with ⟨e2,rfl⟩|rfl<;>simp[Builtin.append_,hun,hu2,sizeOf,typeInfo,zeroValue,hi,hz,hlen,hn,h63',h48',Question.forced,hfo,hf1,newRow,grownCap]
   all_goals (congr 2; apply Array.ext'; simp)
  ·refine⟨?_,(Kd.push w.drew _).size,(Kd.push w.drew _).same⟩;refine back _ (PH.one w.heap.size (.cells (cs.toArray++ds.toArray++Builtin.zeroCells z.cells (grownCap w (n+k) cap e-(n+k))) e (0,0))) _ (.inr ⟨w.heap.size,_,_,e,(0,0),rfl,rfl,?_,?_,?_,hge,hcm,.inl rfl,.inl rfl⟩) ?_ ?_ ?_ rfl rfl rfl (fun _=> .one CI)
   ·rw[Akz,hcl,hds,Nat.add_mul]
   ·have e1:(n+k)*ti.size=(cs++ds).length:=by rw[Akz,hcl,hds,Nat.add_mul]
    have e2:(cs.toArray++ds.toArray++Builtin.zeroCells z.cells (grownCap w (n+k) cap e-(n+k))).toList=(cs++ds)++(Builtin.zeroCells z.cells (grownCap w (n+k) cap e-(n+k))).toList:=by simp
    rw[e1,e2]; exact List.take_left
   ·simp only[Array.size_append,List.size_toArray,size_zeroCells,hzs,hcl,hds,←Nat.add_mul];congr 1; omega
   ·intro q hq; simp only[PH.one]at hq; split at hq
    ·rename_i hq; right; omega
    ·exact absurd rfl hq
   ·rw[PH.agree_one]; exact Kv w.drew _
   ·intro q hq _; exact Vf w.drew _ hq
 rcases ha with ⟨rfl,rfl,rfl,rfl⟩|⟨b,cap,l,e',fr,rfl,rfl,hc,htk,hl,hn,hcm,hfr⟩
 ·by_cases hk:k=0
  ·subst hk;have:ds=[]:=List.eq_nil_of_length_eq_zero (by simpa using hds);subst this;refine⟨.slice none 0 0,w,?_,?_⟩
   ·rcases hd with ⟨e2,rfl⟩|rfl<;>simp[Builtin.append_,hun,hu2,sizeOf,typeInfo,hi,hlen,hf0]
   ·exact⟨back _ PH.emp w (.inl ⟨rfl,by simp,rfl,rfl⟩) (fun _ h=>absurd rfl h) (PH.agree_emp w) (fun _ _ _=>rfl) rfl rfl rfl (fun _=> .emp),Kd.rfl' w⟩
  ·exact grow none 0 rfl (by omega) (by simp) (by simp[Builtin.firstCells])
 ·have hbw:w.heap[b]? =some (.cells l e' fr):=PH.agree_one.1 hg;have hfo: ∀w',w'.heap=w.heap→(Builtin.firstCells ti.size n (.slice (some ⟨b,0,none⟩) n cap)).run P w'= .ok cs.toArray w':=by
   intro w' hw';have hb':w'.heap[b]? =some (.cells l e' fr):=by rw[hw']; exact hbw
   have:=Gg (P:=P) (off:=0) hb' cs 0 #[] (fun j x hx=>by
    rw[←htk,List.getElem?_take]at hx;split at hx
    ·simpa using hx
    ·cases hx)
   simp only[Builtin.firstCells,loadCells,←hc,this];simp
  by_cases hroom:n+k≤cap
  ·have hfit:n*ti.size+ds.length≤l.size:=by rw[hds,hl,←Nat.add_mul]; exact Nat.mul_le_mul_right _ hroom
   have hst:=Hs (P:=P) (off:=n*ti.size) (e:=e') (fr:=fr) ds h1 l.toList 0 (by simpa using hfit) (by simpa using hfr.1) (by simpa using hbw);simp only[Nat.add_zero]at hst;refine⟨.slice (some ⟨b,0,none⟩) (n+k) cap,{w with heap:=w.heap.setIfInBounds b (.cells (l.toList.take (n*ti.size)++ds++l.toList.drop (n*ti.size+ds.length)).toArray e' fr)},?_,?_⟩
   ·rcases hd with ⟨e2,rfl⟩|rfl<;>simp[Builtin.append_,hun,hu2,sizeOf,typeInfo,hi,hlen,hroom,hf0,Eg,hst]
   ·have hlt:=(AkM.1 hbw).1;refine⟨?_,Kd.set hbw CI rfl⟩;refine back _ (PH.one b (.cells (l.toList.take (n*ti.size)++ds++l.toList.drop (n*ti.size+ds.length)).toArray e' fr)) _ (.inr ⟨b,cap,_,e',fr,rfl,rfl,?_,?_,?_,hroom,hcm,?_⟩) ?_ ?_ ?_ rfl rfl rfl (fun _=> .one CI)
    ·rw[Akz,hc,hds,Nat.add_mul]
    ·have e1:(n+k)*ti.size=(cs++ds).length:=by rw[Akz,hc,hds,Nat.add_mul]
     simp only[htk,e1]; exact List.take_left
    ·simp only[List.size_toArray,Akz,Ak7,Aln,Array.length_toList]; omega
    ·have e1:(l.toList.take (n*ti.size)++ds++l.toList.drop (n*ti.size+ds.length)).toArray.size=l.size:=by
      simp only[List.size_toArray,Akz,Ak7,Aln,Array.length_toList]; omega
     rw[e1]; exact hfr
    ·intro q hq; left; simp only[PH.one]at hq⊢;by_cases e:q=b
     ·rw[AkA e]; simp
     ·rw[Aky e]at hq; exact absurd rfl hq
    ·rw[PH.agree_one]; simp[hlt]
    ·intro q _ hq; simp only[PH.one]at hq;split at hq
     ·cases hq
     ·rename_i hne; rw[Array.getElem?_setIfInBounds_ne (by omega)]
  ·exact grow _ cap rfl (by omega) hc (hfo w.drew rfl)
theorem Ht {sz n:Nat}{v:Value}{cs:List Value}(hS:St m As w)(hv:SlC m sz v cs n)(j:Nat):(Builtin.firstCells sz n v).run P {w with drawn:=j}= .ok cs.toArray {w with drawn:=j}:=by
 obtain⟨hl,_,⟨rfl,a,c,rfl⟩|⟨b,off,cap,l,e,fr,rfl,hn,hb,hc⟩⟩:=hv
 ·have:cs=[]:=List.eq_nil_of_length_eq_zero (by simpa using hl);subst this;cases a<;>simp[Builtin.firstCells,loadCells,loadCellsFrom]
 ·have hb':({w with drawn:=j}:World).heap[b]? =some (.cells l e fr):=hS.mem hb;have:=Gg (P:=P) (off:=off) hb' cs 0 #[] (by simpa using hc);simp only[Builtin.firstCells,loadCells,←hl,this];simp
theorem Wg {n c:Nat}{a:Option Addr}(w:World):(Builtin.lenOf (.slice a n c)).run P w= .ok n w:=by simp[Builtin.lenOf]
end
def app {α:Type}(bytes:Nat)(xs ys:List α):Option (List α):=if(xs.length+ys.length)*bytes≤140737488355328∧xs.length+ys.length≤140737488355328 then some (xs++ys)else none
section
variable {ρ:Option Nat}{P:Program}{N:Nat}{D:Dw}{ops:Array Oper}{rest:List Oper}{Q:DJ}{f:Fr}{w w':World}{v:Value}
variable {dst:Option Nat}{ty t t' t2:TypeId}{pos:String}{af:Array Edge}{x y c a b:Operand}{m:Mem}{As:List Ow}
theorem s_app {α:Type} [GoT α]{i n bytes:Nat}{z u:Value}{cs:List Value}{xs ys zs:List α}{e:TypeId}{ti:TypeInfo}(hS:St m As w)(hx:ev f x=v)(hA:As[i]? =some (row (GoT.sz α) v cs n))(hr:DU m cs xs)(hn:n=xs.length)
  (hy:ev f y=u) (hv:SlR m u ys) (hq:app bytes xs ys=some zs)
  (ht:P.underlying t=some (.slice e)) (hi:P.info? e=some ti) (hz:ti.zero=some z) (hsz:ti.size=GoT.sz α) (hby:ti.bytes=bytes) (hzs:z.cells.size=GoT.sz α)
  (h: ∀v' cs' w',St m (As.set i (row (GoT.sz α) v' cs' zs.length)) w'→DU m cs' zs→wpl ρ P N D ops rest Q (upo N f dst v') w'):
  wpl ρ P N D ops (⟨dst,.call {callee:= .builtin .append,args:= #[x,y],argTypes:= #[t,t]},ty,pos,af,none⟩::rest) Q f w:=by
 subst hn;obtain⟨⟨hb,h63⟩,hq⟩:=BY hq;cases hq;obtain⟨ds,hc,hr2⟩:=hv;obtain⟨a,c,rfl⟩:=hc.val;obtain⟨v',w',hrun,hS',kd⟩:=Ab1 (P:=P) (ty:=ty) (t2:=t) ht ht (.inl ⟨_,rfl⟩) hi hz hsz hby hzs (src:= .slice a ys.length c) (fun w=>Wg w) (fun j=>Ht hS hc j) hc.1 hr2.one hb h63 hS hA;refine Aq (v:=v') (w':=w') rfl (fun _ e=>by cases e) ?_ (h v' _ w' (by simpa using hS') (hr.append hr2)) kd;simp[execOp,resolve,invoke,builtin,hx,hy,hrun]
theorem s_appS {i n bytes:Nat}{z:Value}{s:ByteArray}{cs:List Value}{xs zs:List UInt8}{e:TypeId}{ti:TypeInfo}(hS:St m As w)(hx:ev f x=v)(hA:As[i]? =some (row 1 v cs n))(hr:DU m cs xs)(hn:n=xs.length)
  (hy:ev f y= .string s) (hq:app bytes xs s.data.toList=some zs)
  (ht:P.underlying t=some (.slice e)) (ht2:P.underlying t2=some .string) (hi:P.info? e=some ti) (hz:ti.zero=some z) (hsz:ti.size=1) (hby:ti.bytes=bytes) (hzs:z.cells.size=1)
  (h: ∀v' cs' w',St m (As.set i (row 1 v' cs' zs.length)) w'→DU m cs' zs→wpl ρ P N D ops rest Q (upo N f dst v') w'):
  wpl ρ P N D ops (⟨dst,.call {callee:= .builtin .append,args:= #[x,y],argTypes:= #[t,t2]},ty,pos,af,none⟩::rest) Q f w:=by
 subst hn;obtain⟨⟨hb,h63⟩,hq⟩:=BY hq;cases hq;have rb: ∀l:List UInt8,DU m (l.map vB) l:=by
  intro l;induction l with
  |nil=>rfl
  |cons c l ih=>exact⟨[vB c],l.map vB,rfl,rfl,ih⟩
 have hsl:s.data.toList.length=s.size:=by simp
 obtain⟨v',w',hrun,hS',kd⟩:=Ab1 (P:=P) (ty:=ty) (t2:=t2) (ds:=s.data.toList.map vB) ht ht2 (.inr rfl) hi hz hsz hby hzs (src:= .string s) (k:=s.size) (fun w=>by simp[Builtin.lenOf])
  (fun j=>by
   have:(Array.map (fun b:UInt8=>Value.int IntKind.u8 (b.toNat:Int)) s.data).extract 0 s.size=Array.map (fun b:UInt8=>Value.int IntKind.u8 (b.toNat:Int)) s.data:=by
    have hs:s.size=(Array.map (fun b:UInt8=>Value.int IntKind.u8 (b.toNat:Int)) s.data).size:=by rw[Array.size_map]; rfl
    rw[hs,Array.extract_size]
   have e:Array.map (fun b:UInt8=>Value.int IntKind.u8 (b.toNat:Int)) s.data=(s.data.toList.map vB).toArray:=by
    apply Array.ext_getElem?; intro i; simp
   simp[Builtin.firstCells,this,e])
  (by simp) (rb _).one (by rw[hsl]at hb; exact hb) (by rw[hsl]at h63; exact h63) hS hA
 refine Aq (v:=v') (w':=w') rfl (fun _ e=>by cases e) ?_ (h v' _ w' (by simpa using hS') (hr.append (rb _))) kd;simp[execOp,resolve,invoke,builtin,hx,hy,hrun]
theorem WN (cs:List Value): ∀(pre zs post:List Value),zs.length=cs.length→
  (cs.zipIdx).foldl (fun(a:Array Value) (p:Value×Nat)=>a.setIfInBounds (pre.length+p.2) p.1) (pre++zs++post).toArray=(pre++cs++post).toArray:=by
 suffices H: ∀(cs pre zs post:List Value) (k:Nat),zs.length=cs.length→(cs.zipIdx k).foldl (fun(a:Array Value) (p:Value×Nat)=>a.setIfInBounds (pre.length+(p.2-k)) p.1) (pre++zs++post).toArray=(pre++cs++post).toArray by
  intro pre zs post h; simpa using H cs pre zs post 0 h
 intro cs;induction cs with
 |nil=>intro pre zs post k h; have:zs=[]:=List.eq_nil_of_length_eq_zero h; subst this; simp
 |cons c cs ih=>
  intro pre zs post k h;match zs,h with
  |z::zs,h=>
   simp only[List.zipIdx_cons,List.foldl_cons,Nat.sub_self,Nat.add_zero];have e:(pre++z::zs++post).toArray.setIfInBounds pre.length c=((pre++[c])++zs++post).toArray:=by simp
   rw[e];have:=ih (pre++[c]) zs post (k+1) (by simpa using h);simp only[Akw,List.singleton_append]at this⊢;rw[←this];have fe: ∀(L:List (Value×Nat)) (a:Array Value),(∀p∈L,k<p.2)→L.foldl (fun(a:Array Value) (p:Value×Nat)=>a.setIfInBounds (pre.length+(p.2-k)) p.1) a=L.foldl (fun(a:Array Value) (p:Value×Nat)=>a.setIfInBounds ((pre++[c]).length+(p.2-(k+1))) p.1) a:=by
    intro L;induction L with
    |nil=>intro a _; rfl
    |cons q L ihL=>
     intro a hq;have hk:=hq q (by simp);simp only[List.foldl_cons];rw[ihL _ (fun p hp=>hq p (by simp[hp]))];congr 2;simp; omega
   apply fe;intro p hp;have:=(List.mem_zipIdx hp).1;omega
theorem Agp (sz:Nat)(vs:List Value)(hv: ∀v∈vs,v.cells.size=sz): ∀(pre zs:List Value) (k:Nat),pre.length=k*sz→zs.length=vs.length*sz→
  Instr.fill (fun i=>some (i*sz,sz)) (pre++zs).toArray (vs.zipIdx k|>.map fun p=>(p.2,p.1))=some (pre++vs.flatMap fun v=>v.cells.toList).toArray:=by
 induction vs with
 |nil=>intro pre zs k h1 h2; have:zs=[]:=List.eq_nil_of_length_eq_zero (by simpa using h2); subst this; simp[Instr.fill]
 |cons v vs ih=>
  intro pre zs k h1 h2;have hvs:=hv v (by simp);simp only[AkB,Nat.succ_mul]at h2;have hz:zs=zs.take sz++zs.drop sz:=by simp
  have hlt:(zs.take sz).length=v.cells.toList.length:=by simp[hvs]; omega
  simp only[List.zipIdx_cons,AkZ,Instr.fill];rw[Aky (by simp[hvs,h1]; omega)];have fs:=WN v.cells.toList pre (zs.take sz) (zs.drop sz) hlt;rw[Akw,←hz]at fs;have e:v.cells.zipIdx.foldl (fun(cs:Array Value) (p:Value×Nat)=>cs.setIfInBounds (k*sz+p.2) p.1) (pre++zs).toArray=(pre++v.cells.toList++zs.drop sz).toArray:=by
   rw[←fs,←h1];rw[←Array.foldl_toList];congr 1;simp
  rw[e];have:=ih (fun u hu=>hv u (by simp[hu])) (pre++v.cells.toList) (zs.drop sz) (k+1) (by simp[h1,hvs,Nat.succ_mul]) (by simp; omega);rw[this];simp
theorem Tb {e:TypeId}{sz n:Nat}{z:Value}{vs:List Value}(ht:P.underlying t=some (.slice e))(hs: ∀w,(sizeOf e).run P w= .ok sz w)(hz: ∀w,(zeroValue e).run P w= .ok z w)(hv: ∀v∈vs,v.cells.size=sz)(hn:n=vs.length)(hb:n*sz≤16777216):
  (Instr.buildSlice t n ((vs.zipIdx 0).map fun p=>(p.2,p.1)).toArray).run P w= .ok (.slice (some ⟨w.heap.size,0,none⟩) n n) (w.alloc (.cells (vs.flatMap fun v=>v.cells.toList).toArray e)):=by
 have hb': ¬(16777216<n*sz):=by omega
 have key: ∀zz:Array Value,Instr.fill (fun i=>some (i*sz,sz)) ((Array.range (n*sz)).map (zz[· %zz.size]!)) ((vs.zipIdx 0).map fun p=>(p.2,p.1))=some (vs.flatMap fun v=>v.cells.toList).toArray:=by
  intro zz;have:=Agp sz vs hv [] ((Array.range (n*sz)).map (zz[· %zz.size]!)).toList 0 (by simp) (by simp[hn]);rw[Ak2,Array.toArray_toList,Ak2]at this;exact this
 have hb2: ¬(n*sz>2^24):=by omega
 by_cases h0:n*sz=0
 ·have k0:=key #[];have hb0: ¬(0>2^24):=by omega
  simp only[Instr.buildSlice,AkJ,AkD ht,AkF,hs,hb0,if_false,h0,if_true,AkK]at k0⊢;rw[k0];simp[newRow]
 ·have k0:=key z.cells;simp only[Instr.buildSlice,AkJ,AkD ht,AkF,hs,hb2,if_false,h0,AkK,hz];rw[k0];simp[newRow]
theorem s_litO {e:TypeId}{sz n:Nat}{z:Value}{parts:List Operand}{vs:List Value}(hS:St m As w)(ht:P.underlying t=some (.slice e))(hs: ∀w,(sizeOf e).run P w= .ok sz w)(hz: ∀w,(zeroValue e).run P w= .ok z w)
  (hp:parts.map (ev f)=vs) (hv: ∀v∈vs,v.cells.size=sz) (hn:n=vs.length) (hb:n*sz≤16777216) (h0:1≤sz)
  (h: ∀v w',St m (row sz v (vs.flatMap fun v=>v.cells.toList) n::As) w'→wpl ρ P N D ops rest Q (upo N f dst v) w'):
  wpl ρ P N D ops (⟨dst,.buildSlice t n ((parts.zipIdx 0).map fun p=>(p.2,p.1)).toArray,ty,pos,af,none⟩::rest) Q f w:=by
 have hr:=Tb (P:=P) (w:=w) ht hs hz hv hn hb;have hm:(((parts.zipIdx 0).map fun p=>(p.2,p.1)).toArray.map fun(i,x)=>(i,ev f x))=((vs.zipIdx 0).map fun p=>(p.2,p.1)).toArray:=by
  subst hp;simp only[List.map_toArray,List.map_map];congr 1;have: ∀(l:List Operand) (k:Nat),(l.zipIdx k).map ((fun(x:Nat×Operand)=>match x with|(i,x)=>(i,ev f x))∘fun p=>(p.2,p.1))=((l.map (ev f)).zipIdx k).map fun p=>(p.2,p.1):=by
   intro l;induction l with
   |nil=>intro k; rfl
   |cons x l ih=>intro k; simp[ih]
  exact this parts 0
 have hfl:(vs.flatMap fun v=>v.cells.toList).length=n*sz:=by
  subst hn;clear h hm hp hr hb;induction vs with
  |nil=>simp
  |cons v vs ih=>simp[ih (fun u hu=>hv u (by simp[hu])),hv v (by simp),Nat.succ_mul,Nat.add_comm]
 refine Aq (v:= .slice (some ⟨w.heap.size,0,none⟩) n n) (w':=w.alloc (.cells (vs.flatMap fun v=>v.cells.toList).toArray e)) rfl (fun _ e=>by cases e) ?_ (h _ _ ?_) (Kd.push _ _)
 ·simp only[execOp,hm,AkJ,hr,AkF,AkK]
 ·have hS':=(hS.push (.cells (vs.flatMap fun v=>v.cells.toList).toArray e) CI).take (i:=0) rfl;obtain⟨h1,ha,hg,_,back⟩:=hS';cases ha;refine back _ _ _ (.inr ⟨w.heap.size,n,_,e,(0,0),rfl,rfl,hfl,?_,?_,AkC _,?_,.inl rfl,.inl rfl⟩) (fun k hk=> .inl hk) hg (fun _ _ _=>rfl) rfl rfl rfl id
  ·rw[←hfl]; exact List.take_length
  ·simpa using hfl
  ·have:n*1≤n*sz:=Nat.mul_le_mul_left _ h0;simp only[maxLen]; omega
end
def Zq (t:Nat):List Nat→Bool
 | []=>false
 |d::ds=>bif Nat.beq t d then true else Zq t ds
def hv (f:Fr)(ds:List Nat)(u:Fr):Fr:=fun t=>bif Zq t ds then u t else f t
def ups (N:Nat)(f:Fr):List (Nat×Value)→Fr
 | []=>f
 |p::L=>up N (ups N f L) p.1 p.2
def Aa5 (f:Fr):List (Nat×Value)→Prop
 | []=>True
 |p::L=>f p.1=p.2∧Aa5 f L
def Out (ds:List Nat)(F f:Fr):Prop:= ∀t,Zq t ds=false→F t=f t
theorem Out.refl {ds:List Nat}{f:Fr}:Out ds f f:=fun _ _=>rfl
theorem Out.trans {ds:List Nat}{a b c:Fr}(h:Out ds a b)(k:Out ds b c):Out ds a c:=fun t e=>(h t e).trans (k t e)
theorem Out.up {ds:List Nat}{F f:Fr}{N d:Nat}{v:Value}(h:Out ds F f)(hd:Zq d ds=true):Out ds (up N F d v) f:=fun t e=>by
 have:Nat.beq t d=false:=by
  rw[←Bool.not_eq_true,Nat.beq_eq];rintro rfl;rw[hd]at e; cases e
 simp only[Gw.up,this,Bool.false_and,cond_false];exact h t e
theorem Out.uq {ds:List Nat}{F f:Fr}{N d:Nat}{v:Value}(h:Out ds F f)(hd:Zq d ds=true):Out ds (upo N F (some d) v) f:=Out.up h hd
theorem Out.none {ds:List Nat}{F f:Fr}{N:Nat}{v:Value}(h:Out ds F f):Out ds (upo N F none v) f:=h
def subs:List Nat→List Nat→Bool
 | [],_=>true
 |a::as,bs=>Zq a bs&&subs as bs
theorem AfQ {as bs:List Nat}(h:subs as bs=true){t:Nat}(ht:Zq t as=true):Zq t bs=true:=by
 induction as with
 |nil=>simp[Zq]at ht
 |cons a as ih=>
  simp only[subs,Aks]at h;simp only[Zq]at ht;cases e:Nat.beq t a with
  |true=>rw[Nat.beq_eq]at e; subst e; exact h.1
  |false=>rw[e]at ht; exact ih h.2 ht
theorem Out.hv {ds as:List Nat}{F f u:Fr}(h:Out ds F f)(hs:subs as ds=true):Out ds (hv F as u) f:=fun t e=>by
 have:Zq t as=false:=by
  cases k:Zq t as with
  |false=>rfl
  |true=>rw[AfQ hs k]at e; cases e
 simp only[Gw.hv,this,cond_false];exact h t e
theorem Out.ups0 {ds:List Nat}{F f:Fr}{N:Nat}(h:Out ds F f):Out ds (ups N F []) f:=h
theorem Out.upsC {ds:List Nat}{F f:Fr}{N d:Nat}{v:Value}{L:List (Nat×Value)}(h:Out ds (ups N F L) f)(hd:Zq d ds=true):Out ds (ups N F ((d,v)::L)) f:=Out.up h hd
theorem Aik {N d:Nat}{f:Fr}{v:Value}(h:f d=v):up N f d v=f:=by
 funext t;simp only[up];cases e:Nat.beq t d&&Nat.blt d N with
 |false=>rfl
 |true=>simp only[Aks,Nat.beq_eq]at e; rw[e.1,cond_true,h]
theorem Agk {N:Nat}{ds:List Nat}{F f:Fr}{L:List (Nat×Value)}(ho:Out ds F f)(ha:Aa5 F L): ∃u,F=ups N (hv f ds u) L:=by
 refine⟨F,?_⟩;have h1:hv f ds F=F:=by
  funext t;simp only[hv];cases e:Zq t ds with
  |true=>rfl
  |false=>exact(ho t e).symm
 rw[h1];induction L with
 |nil=>rfl
 |cons p L ih=>simp only[ups]; rw[←ih ha.2]; exact(Aik ha.1).symm
section
variable {ρ:Option Nat}{P:Program}{N:Nat}{D:Dw}{ops:Array Oper}{rest:List Oper}{Q:DJ}{f:Fr}{w w':World}{v:Value}{K:Fr→World→Prop}
theorem nrm (h:K f w):J2 K Q .normal f w:=h
theorem thE {id:Nat}(h:Q (.exit id) f w):J2 K Q (.exit id) f w:=h
theorem thR (h:Q .ret f w):J2 K Q .ret f w:=h
theorem nrmB {id:Nat}(h:Q .normal f w):NZ id Q .normal f w:=h
theorem blR {id:Nat}(h:Q .ret f w):NZ id Q .ret f w:=h
theorem exB {id:Nat}(h:Q .normal f w):NZ id Q (.exit id) f w:=by simp only[NZ,Nat.beq_refl,cond_true]; exact h
theorem exN {id id':Nat}(hne:Nat.beq id' id=false)(h:Q (.exit id') f w):NZ id Q (.exit id') f w:=by simp only[NZ,hne,cond_false]; exact h
theorem Rb {c:Code}(ds:List Nat)(R:Fr→World→Prop)(h:wpc ρ P N D c (J2 (fun f' w'=>Out ds f' f∧R f' w') Q) f w)
  (hk: ∀f' w',Out ds f' f→R f' w'→K f' w'):wpc ρ P N D c (J2 K Q) f w:=
 FI (fun e f w q=>by cases e<;>first|exact hk _ _ q.1 q.2|exact q) h
end
def iter {σ τ:Type}(step:σ→Option (σ⊕τ)):Nat→σ→Option τ
 |0,_=>none
 |n+1,s=>Ab (step s) fun r=>match r with| .inl s'=>iter step n s'| .inr t=>some t
def EV:Nat:=18446744073709551616
def D1 {α σ τ:Type}(body:Int→α→σ→Option (σ⊕τ)):List α→Int→σ→Option (σ⊕τ)
 | [],_,s=>some (.inl s)
 |x::xs,i,s=>Ab (body i x s) fun r=>match r with| .inl s'=>D1 body xs (i+1) s'| .inr t=>some (.inr t)
def Es {σ τ:Type}(body:Int→σ→Option (σ⊕τ)):Nat→Int→σ→Option (σ⊕τ)
 |0,_,s=>some (.inl s)
 |n+1,i,s=>Ab (body i s) fun r=>match r with| .inl s'=>Es body n (i+1) s'| .inr t=>some (.inr t)
def bnd {α β:Type}(a:α)(k:α→β):β:=k a
theorem Ah1 {α β:Type}{a:α}{k:α→β}{r:β}(h:bnd a k=r): ∃x,x=a∧k x=r:=⟨a,rfl,h⟩
theorem Ade {σ τ:Type}{step:σ→Option (σ⊕τ)}{s:σ}{t:τ}(h:iter step 0 s=some t):False:=by cases h
theorem WB {σ τ:Type}{step:σ→Option (σ⊕τ)}{n:Nat}{s:σ}{t:τ}(h:iter step (n+1) s=some t): ∃r,step s=some r∧((∃s',r= .inl s'∧iter step n s'=some t)∨r= .inr t):=by
 obtain⟨r,h1,h2⟩:=Ac h;refine⟨r,h1,?_⟩;cases r with
 |inl s'=>exact .inl ⟨s',rfl,h2⟩
 |inr t'=>exact .inr (by cases h2; rfl)
theorem Adf {σ τ:Type}{step:σ→Option (σ⊕τ)}{n m:Nat}{s:σ}{t:τ}(h:iter step n s=some t)(hle:n≤m):iter step m s=some t:=by
 induction n generalizing m s with
 |zero=>cases h
 |succ n ih=>
  obtain⟨m,rfl⟩: ∃k,m=k+1:=⟨m-1,by omega⟩;obtain⟨r,h1,⟨s',rfl,h2⟩|rfl⟩:=WB h
  ·simp only[iter,h1,Aa]; exact ih h2 (by omega)
  ·simp only[iter,h1,Aa]
theorem WT {α:Type}{xs:List α}{i:Nat}(hi:i<xs.length): ∃x,xs[i]? =some x∧xs.drop i=x::xs.drop (i+1):=
 ⟨xs[i],by simp[hi],List.drop_eq_getElem_cons hi⟩
theorem Mm {α:Type}{xs:List α}{i:Nat}{x:α}(h:xs[i]? =some x):idx xs (i:Int)=some x:=by
 simp[idx,h]
theorem Agu {α σ τ:Type}{body:Int→α→σ→Option (σ⊕τ)}{xs:List α}{i:Nat}{s:σ}{t:σ⊕τ}(h:D1 body (xs.drop i) i s=some t)(hi:i<xs.length):
  ∃x y,idx xs (i:Int)=some x∧body i x s=some y∧((∃s',y= .inl s'∧D1 body (xs.drop (i+1)) ((i+1:Nat):Int) s'=some t)∨∃q,y= .inr q∧t= .inr q):=by
 obtain⟨x,hx,hd⟩:=WT hi;rw[hd]at h;obtain⟨y,h1,h2⟩:=Ac h;refine⟨x,y,Mm hx,h1,?_⟩;cases y with
 |inl s'=>exact .inl ⟨s',rfl,h2⟩
 |inr q=>exact .inr ⟨q,rfl,by cases h2; rfl⟩
theorem AdG {α σ τ:Type}{body:Int→α→σ→Option (σ⊕τ)}{xs:List α}{i:Nat}{s:σ}{t:σ⊕τ}(h:D1 body (xs.drop i) i s=some t)(hi: ¬i<xs.length):t= .inl s:=by
 rw[Ak6 (by omega)]at h;cases h; rfl
theorem Agv {σ τ:Type}{body:Int→σ→Option (σ⊕τ)}{n i:Nat}{s:σ}{t:σ⊕τ}(h:Es body (n-i) i s=some t)(hi:i<n):
  ∃y,body i s=some y∧((∃s',y= .inl s'∧Es body (n-(i+1)) ((i+1:Nat):Int) s'=some t)∨∃q,y= .inr q∧t= .inr q):=by
 obtain⟨k,hk⟩: ∃k,n-i=k+1:=⟨n-i-1,by omega⟩;rw[hk]at h;obtain⟨y,h1,h2⟩:=Ac h;refine⟨y,h1,?_⟩;cases y with
 |inl s'=>exact .inl ⟨s',rfl,by rw[show n-(i+1)=k from by omega]; exact h2⟩
 |inr q=>exact .inr ⟨q,rfl,by cases h2; rfl⟩
theorem AdH {σ τ:Type}{body:Int→σ→Option (σ⊕τ)}{n i:Nat}{s:σ}{t:σ⊕τ}(h:Es body (n-i) i s=some t)(hi: ¬i<n):t= .inl s:=by
 rw[show n-i=0 from by omega]at h;cases h; rfl
theorem YE {i n:Nat}(hi:i<n)(hn:n≤9223372036854775807):w64 ((i:Int)+1)=((i+1:Nat):Int):=by rw[BC (by omega) (by omega)]; rfl
section
variable {ρ:Option Nat}{P:Program}{N:Nat}{D:Dw}{ops:Array Oper}{rest:List Oper}{Q:DJ}{f:Fr}{w w':World}{v:Value}
variable {dst:Option Nat}{ty t t' t2:TypeId}{pos:String}{af:Array Edge}{x y c a b:Operand}{m:Mem}{As:List Ow}
theorem s_call {k:FuncId}{xs:List Operand}{ats:Array TypeId}{vs:List Value}{R:Value→World→Prop}(hk: ∀(args:Array Value) w,(callFunc k args).run P w= .ok (.enter k args) w)(hc:Ft P k vs.toArray w R)(hx:xs.map (ev f)=vs)
  (h: ∀v w2,R v w2→wpl ρ P N D ops rest Q (upo N f dst v) w2):
  wpl ρ P N D ops (⟨dst,.call {callee:= .value (.func k),args:=xs.toArray,argTypes:=ats},ty,pos,af,none⟩::rest) Q f w:=
 Yz rfl (fun _ e=>by cases e) (w':=w) (k:=k) (args:=vs.toArray) (by
  subst hx;simp[execOp,resolve,invoke,ev,Deferred.ofValue,hk]) hc h
def Qt (P:Program)(g:Value)(vs:List Value)(w:World)(R:Value→World→Prop):Prop:=(∃k fst caps,g= .func (.func k) fst caps∧(∀(args:Array Value) w,(callFunc k args).run P w= .ok (.enter k args) w)∧Ft P k (fst++vs.toArray++caps) w R)∨∃l fn tmps assign body,g= .func (.yield l) #[] #[]∧(Instr.yield l vs.toArray).run P w= .ok (.round l fn tmps assign body) w∧W5 P l fn tmps assign body w R
theorem Qt.mono {g:Value}{vs:List Value}{R R':Value→World→Prop}(h:Qt P g vs w R)(hr: ∀v w',R v w'→R' v w'):Qt P g vs w R':=by
 rcases h with ⟨k,fst,caps,h1,h2,h3⟩|⟨l,fn,tmps,assign,body,h1,h2,h3⟩
 ·exact .inl ⟨k,fst,caps,h1,h2,h3.mono hr⟩
 ·exact .inr ⟨l,fn,tmps,assign,body,h1,h2,h3.mono hr⟩
theorem UJ {g:Value}{xs:List Operand}{ats:Array TypeId}{vs:List Value}{R:Value→World→Prop}(hg:ev f x=g)(hc:Qt P g vs w R)(hx:xs.map (ev f)=vs)
  (h: ∀v w2,R v w2→wpl ρ P N D ops rest Q (upo N f dst v) w2):
  wpl ρ P N D ops (⟨dst,.call {callee:= .value x,args:=xs.toArray,argTypes:=ats},ty,pos,af,none⟩::rest) Q f w:=by
 subst hx;rcases hc with ⟨k,fst,caps,rfl,h2,h3⟩|⟨l,fn,tmps,assign,body,rfl,h2,h3⟩
 ·refine Yz rfl (fun _ e=>by cases e) (w':=w) ?_ h3 h;simp[execOp,resolve,invoke,hg,Deferred.ofValue,h2]
 ·refine Abf rfl (fun _ e=>by cases e) (w':=w) ?_ h3 h;have:xs.toArray.map (ev f)=(xs.map (ev f)).toArray:=by simp
  simp only[execOp,resolve,hg,Deferred.ofValue,invoke,AkJ,AkK,AkF,Array.empty_append,this,h2]
theorem XS {rs:List ResultVar}{vs:List Value}{w:World}{tmps:Array Value}
  (h: ∀(i:Nat) (r:ResultVar) (u:Value),rs[i]? =some r→vs[i]? =some u→(match r with| .tmp t=>tmps.getD t undef=u| .cell a t=> ∃ad,tmps.getD a undef= .pointer (some ad)∧(loadVar t ad).run P w= .ok u w)) (hl:rs.length=vs.length):
  (rs.mapM (m:=Sem) fun(r:ResultVar)=>match r with| .tmp t=>pure (tmps.getD t undef)| .cell a t=>do loadVar t (←asAddr (tmps.getD a undef))).run P w= .ok vs w:=by
 induction rs generalizing vs with
 |nil=>have:vs=[]:=List.eq_nil_of_length_eq_zero hl.symm; subst this; simp
 |cons r rs ih=>
  match vs,hl with
  |u::vs,hl=>
   have h0:=h 0 r u rfl rfl;have ih':=ih (vs:=vs) (fun i r u h1 h2=>h (i+1) r u (by simpa using h1) (by simpa using h2)) (by simpa using hl);rw[List.mapM_cons];cases r with
   |tmp t=>
    have e0:tmps.getD t undef=u:=h0;simp only[AkJ,AkK,AkF,e0,ih']
   |cell a t=>
    obtain⟨ad,e1,e2⟩:=h0;have e3:(asAddr (tmps.getD a undef)).run P w= .ok ad w:=by rw[e1]; rfl
    simp only[AkJ,AkK,AkF,e3,e2,ih']
def Vw (P:Program)(w:World)(f:Fr):List ResultVar→List Value→Prop
 | [],[]=>True
 | .tmp t::rs,u::vs=>f t=u∧Vw P w f rs vs
 | .cell a t::rs,u::vs=>(∃ad,f a= .pointer (some ad)∧(loadVar t ad).run P w= .ok u w)∧Vw P w f rs vs
 |_,_=>False
theorem Vw.len {rs:List ResultVar}{vs:List Value}(h:Vw P w f rs vs):rs.length=vs.length:=by
 induction rs generalizing vs with
 |nil=>cases vs with
  |nil=>rfl
  |cons u vs=>exact h.elim
 |cons r rs ih=>
  cases vs with
  |nil=>cases r<;>exact h.elim
  |cons u vs=>cases r<;>(simp; exact ih h.2)
theorem Vw.get {rs:List ResultVar}{vs:List Value}(h:Vw P w f rs vs): ∀(i:Nat) (r:ResultVar) (u:Value),rs[i]? =some r→vs[i]? =some u→(match r with| .tmp t=>f t=u| .cell a t=> ∃ad,f a= .pointer (some ad)∧(loadVar t ad).run P w= .ok u w):=by
 induction rs generalizing vs with
 |nil=>intro i r u h1; simp at h1
 |cons q rs ih=>
  cases vs with
  |nil=>cases q<;>exact h.elim
  |cons u vs=>
   intro i r u' h1 h2;cases i with
   |zero=>simp at h1 h2; subst h1; subst h2; cases q<;>exact h.1
   |succ i=>simp at h1 h2; cases q<;>exact ih h.2 i r u' h1 h2
def tup (vs:List Value):Value:=match vs with| [v]=>v|vs=> .tuple vs.toArray
theorem AbY {fn:Func}{rs:List ResultVar}{vs:List Value}(hr:fn.results=rs.toArray)(h:Vw P w f rs vs){a:Act}(ha:Sim N a f):(results fn a.tmps).run P w= .ok (tup vs) w:=by
 have hm:=XS (P:=P) (w:=w) (tmps:=a.tmps) (rs:=rs) (vs:=vs) (fun i r u h1 h2=>by
  have:=h.get i r u h1 h2;cases r with
  |tmp t=>exact(ha.at_ t).trans this
  |cell q t=>obtain⟨ad,e1,e2⟩:=this; exact⟨ad,(ha.at_ q).trans e1,e2⟩) h.len
 have:(fn.results.mapM (m:=Sem) fun(r:ResultVar)=>match r with| .tmp t=>pure (a.tmps.getD t undef)| .cell q t=>do loadVar t (←asAddr (a.tmps.getD q undef))).run P w= .ok vs.toArray w:=by
  rw[hr,List.mapM_toArray];simp only[AkJ,map_eq_pure_bind];rw[hm];simp
 have e:(results fn a.tmps).run P w=(Result.ok vs.toArray w).andThen fun vs w'=>(pure (if h:vs.size=1 then vs[0]else .tuple vs):Sem Value).run P w':=by
  rw[←this]; exact Sem.run_bind' P _ _ w
 rw[e];match vs with
 | []=>simp[tup]
 | [v]=>simp[tup]
 |a::b::l=>simp[tup]
def outE (P:Program)(N:Nat)(fn:Func)(R:Value→World→Prop)(f:Fr)(w:World):Prop:= ∃v,(∀a,Sim N a f→(results fn a.tmps).run P w= .ok v w)∧R v w
theorem Ai4 {fn:Func}{R:Value→World→Prop}(h: ∀w',Pd w w'→outE P N fn R f w'):Q4 P N fn R .ret f w:=h
theorem outNw {fn:Func}{R:Value→World→Prop}(h: ∀w',Pd w w'→outE P N fn R f w'):Q4 P N fn R .normal f w:=h
theorem outR {fn:Func}{R:Value→World→Prop}{rs:List ResultVar}(vs:List Value)(hr:fn.results=rs.toArray)(h:Vw P w f rs vs)(hR:R (tup vs) w):outE P N fn R f w:=
 ⟨tup vs,fun _ ha=>AbY hr h ha,hR⟩
theorem AiK {i b off:Nat}{l cs:List Value}{e:TypeId}{agg:Bool}{a:Nat}(hS:St m As w)(hx:f a=pt b off)(hi:As[i]? =some (bx b l e))
  (ha: ∀w,(isAgg t).run P w= .ok agg w) (hs: ∀w,(sizeOf t).run P w= .ok cs.length w) (hc:(l.drop off).take cs.length=cs) (h1:agg=false→cs.length=1):
  ∃ad,f a= .pointer (some ad)∧(loadVar t ad).run P w= .ok (pk agg cs) w:=
 ⟨_,hx,LX (P:=P) (off:=off) (t:=t) (hS.blk hi) cs (fun j x hx=>by
   rw[←hc]at hx;simp only[List.getElem?_take,List.getElem?_drop]at hx;split at hx
   ·simpa using hx
   ·cases hx) ha hs h1⟩
theorem s_lenO {i sz n:Nat}{cs:List Value}{e:TypeId}(hS:St m As w)(hx:ev f x=v)(hA:As[i]? =some (row sz v cs n))(hu:P.underlying t=some (.slice e))(h:wpl ρ P N D ops rest Q (upo N f dst (vI n)) w):
  wpl ρ P N D ops (⟨dst,.call {callee:= .builtin .len,args:= #[x],argTypes:= #[t]},ty,pos,af,none⟩::rest) Q f w:=by
 obtain⟨⟨a,c,rfl⟩,_⟩:=hS.rowVal hA;exact Wc hx hu h
def PtO (v p:Value)(off:Nat):Prop:= ∃b n c,v= .slice (some ⟨b,0,none⟩) n c∧p=pt b off
theorem s_idxO {i sz n:Nat}{cs:List Value}{e:TypeId}{k:IntKind}{j:Int}(hS:St m As w)(hx:ev f x=v)(hj:ev f y= .int k j)(hA:As[i]? =some (row sz v cs n))(h0:0≤j)(hn:j<n)(hu:P.underlying t=some (.slice e))
  (hs: ∀w,(sizeOf e).run P w= .ok sz w) (h: ∀p,PtO v p (j.toNat*sz)→wpl ρ P N D ops rest Q (upo N f dst p) w):
  wpl ρ P N D ops (⟨dst,.indexAddr t x y,ty,pos,af,none⟩::rest) Q f w:=by
 obtain⟨h1,⟨rfl,_,rfl,_⟩|⟨b,cap,l,e',fr,rfl,_⟩,_⟩:=hS.take' hA
 ·omega
 ·refine Aq (v:=pt b (j.toNat*sz)) (w':=w) rfl (fun _ e=>by cases e) ?_ (h _ ⟨b,_,_,rfl,rfl⟩);simp only[execOp,hx,hj,Instr.indexAt,asIntOf,AkJ,AkK,AkF,AkD hu];simp[h0,hn,hs,Eg]
theorem s_ldO {i sz n off:Nat}{cs d:List Value}{p:Value}{agg:Bool}(hS:St m As w)(hx:ev f x=p)(hp:PtO v p off)(hA:As[i]? =some (row sz v cs n))(hc:(cs.drop off).take d.length=d)
  (ha: ∀w,(isAgg t).run P w= .ok agg w) (hs: ∀w,(sizeOf t).run P w= .ok d.length w) (h1:agg=false→d.length=1)
  (h:wpl ρ P N D ops rest Q (upo N f dst (pk agg d)) w):
  wpl ρ P N D ops (⟨dst,.load t x,ty,pos,af,none⟩::rest) Q f w:=by
 obtain⟨b,n',c',rfl,rfl⟩:=hp;obtain⟨q,⟨h0,_⟩|⟨b',cap,l,e',fr,h0,rfl,hcl,htk,_⟩,hg⟩:=hS.take' hA
 ·cases h0
 ·cases h0;have hb:=PH.agree_one.1 hg;refine Aq (v:=pk agg d) (w':=w) rfl (fun _ e=>by cases e) ?_ h;have hl:=LX (P:=P) (off:=off) (t:=t) hb d (fun j x hx=>by
   rw[←hc]at hx;simp only[List.getElem?_take,List.getElem?_drop]at hx;split at hx
   ·rw[←htk,List.getElem?_take]at hx;split at hx
    ·simpa using hx
    ·cases hx
   ·cases hx) ha hs h1
  simp[execOp,hx,Instr.loadAt,Instr.sureAddr,hl]
theorem s_stO {i sz n off:Nat}{cs:List Value}{p u:Value}(hS:St m As w)(hx:ev f x=p)(hy:ev f y=u)(hp:PtO v p off)(hA:As[i]? =some (row sz v cs n))
  (hs: ∀w,(sizeOf t).run P w= .ok u.cells.size w) (h1: ∀c∈u.cells.toList,c.oneCell'=true) (hl:off+u.cells.size≤cs.length)
  (h: ∀w',St m (As.set i (row sz v (cs.take off++u.cells.toList++cs.drop (off+u.cells.size)) n)) w'→wpl ρ P N D ops rest Q (upo N f dst undef) w'):
  wpl ρ P N D ops (⟨dst,.store t x y,ty,pos,af,none⟩::rest) Q f w:=by
 obtain⟨b,n',c',rfl,rfl⟩:=hp;obtain⟨q,ha,hg,_,back⟩:=hS.take hA;rcases ha with ⟨h0,_⟩|⟨b',cap,l,e',fr,h0,rfl,hcl,htk,hls,hnc,hcm,hfr⟩
 ·cases h0
 ·cases h0;have hb:=PH.agree_one.1 hg;have hlt:=(AkM.1 hb).1;have hle:cs.length≤l.size:=by rw[hcl,hls]; exact Nat.mul_le_mul_right _ hnc
  have hst:=Hs (P:=P) (off:=off) (e:=e') (fr:=fr) u.cells.toList h1 l.toList 0 (by simpa using Nat.le_trans hl hle) (by simpa using hfr.1) (by simpa using hb);simp only[Nat.add_zero,Array.length_toList]at hst;have hsize:(l.toList.take off++u.cells.toList++l.toList.drop (off+u.cells.size)).toArray.size=l.size:=by
   simp only[List.size_toArray,Akz,Ak7,Aln,Array.length_toList]; omega
  refine Lh (w':={w with heap:=w.heap.setIfInBounds b (.cells (l.toList.take off++u.cells.toList++l.toList.drop (off+u.cells.size)).toArray e' fr)}) rfl (fun _ e=>by cases e) ?_ (h _ ?_) (Kd.set hb CI rfl)
  ·simp[execOp,hx,hy,Instr.storeAt,Instr.sureAddr,storeVar,hs,hst]
  ·refine back _ (PH.one b (.cells (l.toList.take off++u.cells.toList++l.toList.drop (off+u.cells.size)).toArray e' fr)) _ (.inr ⟨b,_,_,e',fr,rfl,rfl,?_,?_,hsize.trans hls,hnc,hcm,by rw[hsize]; exact hfr⟩) ?_ ?_ ?_ rfl rfl rfl (fun _=> .one CI)
   ·rw[←hcl]; simp only[Akz,Ak7,Aln,Array.length_toList]; omega
   ·simp only[←htk];apply List.ext_getElem?;intro j;have hcl':n*sz≤l.toList.length:=by simp; omega
    have hl':off+u.cells.size≤n*sz:=by omega
    simp only[List.getElem?_take,List.getElem?_append,Akz,Ak7,Aln,Array.length_toList,List.getElem?_drop,Array.getElem?_toList];repeat' split
    all_goals first
     |rfl
     |(exfalso; omega)
     |(congr 1; omega)
   ·intro k hk; left; simp only[PH.one]at hk⊢;by_cases e:k=b
    ·rw[AkA e]; simp
    ·rw[Aky e]at hk; exact absurd rfl hk
   ·rw[PH.agree_one]; simp[hlt]
   ·intro k _ hk; simp only[PH.one]at hk;split at hk
    ·cases hk
    ·rename_i hne; rw[Array.getElem?_setIfInBounds_ne (by omega)]
theorem AbX {i sz n:Nat}{cs:List Value}{lo:Option Operand}{hi:Operand}{e:TypeId}{k:IntKind}{j:Int}(hS:St m As w)(hx:ev f x=v)(hA:As[i]? =some (row sz v cs n))(hu:P.underlying t=some (.slice e))(hs: ∀w,(sizeOf e).run P w= .ok sz w)
  (hlo:lo=none) (hj:ev f hi= .int k j) (h0:0≤j) (hn:j≤n)
  (h: ∀v',St m (As.set i (row sz v' (cs.take (j.toNat*sz)) j.toNat)) w→wpl ρ P N D ops rest Q (upo N f dst v') w):
  wpl ρ P N D ops (⟨dst,.slice t x lo (some hi) none,ty,pos,af,none⟩::rest) Q f w:=by
 obtain⟨j,rfl⟩:=Int.eq_ofNat_of_zero_le h0;subst hlo;simp only[Alg]at h;obtain⟨q,ha,hg,_,back⟩:=hS.take hA;rcases ha with ⟨rfl,rfl,rfl,rfl⟩|⟨b,cap,l,e',fr,rfl,rfl,hcl,htk,hls,hnc,hcm,hfr⟩
 ·have hj0:j=0:=by omega
  subst hj0;have hrun:=Lt (P:=P) (w:=w) (t:=t) (ao:=none) (len:=0) (cap:=0) (lo:=none) (hi:=some (.int k ((0:Nat):Int))) (mx:=none) hu hs (.inl ⟨rfl,rfl⟩) (.inr ⟨k,rfl⟩) (.inl ⟨rfl,rfl⟩) (AkC 0) (AkC 0) (AkC 0);refine P4 hx hu (u:= .slice none 0 0) ?_ (h _ (back _ PH.emp w (.inl ⟨rfl,by simp,rfl,rfl⟩) (fun _ h=>absurd rfl h) (PH.agree_emp w) (fun _ _ _=>rfl) rfl rfl rfl (fun _=> .emp)));simp only[Option.map_none,AkL,hj];simpa using hrun
 ·have hrun:=Lt (P:=P) (w:=w) (t:=t) (ao:=some ⟨b,0,none⟩) (len:=n) (cap:=cap) (lo:=none) (hi:=some (.int k (j:Int))) (mx:=none) hu hs (.inl ⟨rfl,rfl⟩) (.inr ⟨k,rfl⟩) (.inl ⟨rfl,rfl⟩) (Als j) (by omega) (AkC _);refine P4 hx hu (u:= .slice (some ⟨b,0,none⟩) j cap) ?_ (h _ (back _ (PH.one b (.cells l e' fr)) w (.inr ⟨b,cap,l,e',fr,rfl,rfl,?_,?_,hls,by omega,hcm,hfr⟩) (fun k hk=> .inl hk) hg (fun _ _ _=>rfl) rfl rfl rfl (fun _=> .one CI)))
  ·simp only[Option.map_none,AkL,hj];simpa[Eg]using hrun
  ·rw[Ak7,hcl,Nat.min_eq_left (Nat.mul_le_mul_right _ (by omega))]
  ·rw[←htk,List.take_take,Nat.min_eq_left (Nat.mul_le_mul_right _ (by omega))]
end
def OneL:List Value→Prop
 | []=>True
 |c::cs=>c.oneCell'=true∧OneL cs
theorem OneL.all {cs:List Value}(h:OneL cs): ∀c∈cs,c.oneCell'=true:=by
 induction cs with
 |nil=>intro c hc; cases hc
 |cons a cs ih=>
  intro c hc;rcases Ak1.1 hc with rfl|hc
  ·exact h.1
  ·exact ih h.2 c hc
theorem SlR.one {α:Type} [GoT α]{m:Mem}{v:Value}{xs:List α}(h:SlR m v xs):v.oneCell'=true:=let ⟨_,h1,_⟩:=h; h1.one
theorem ifT {β:Type}{b:Bool}{x y:Option β}{r:β}(h:b=true)(hm:(if b=true then x else y)=some r):x=some r:=by rw[AkA h]at hm; exact hm
theorem ifF {β:Type}{b:Bool}{x y:Option β}{r:β}(h:b=false)(hm:(if b=true then x else y)=some r):y=some r:=by rw[Aky (by rw[h]; exact Bool.false_ne_true)]at hm; exact hm
section
variable {ρ:Option Nat}{P:Program}{N:Nat}{D:Dw}{ops:Array Oper}{rest:List Oper}{Q:DJ}{f:Fr}{w w':World}{v:Value}
variable {dst:Option Nat}{ty t t' t2:TypeId}{pos:String}{af:Array Edge}{x y c a b:Operand}{m:Mem}{As:List Ow}
theorem St.drop1 {A:Ow}(h:St m (A::As) w): ∃m',m≤m'∧St m' As w:=h.drop 0
end
def Q5 (m n:Int):Int:=if n<m then n else m
def maxI (m n:Int):Int:=if n>m then n else m
def minU (m n:UInt64):UInt64:=if n<m then n else m
def P9 (m n:UInt64):UInt64:=if n>m then n else m
def G3 (p q:UInt64×UInt64):Bool:=p.1==q.1&&p.2==q.2
def Et {α σ:Type}(body:Int→α→σ→Option σ):List α→Int→σ→Option σ
 | [],_,s=>some s
 |x::xs,i,s=>Ab (body i x s) fun s'=>Et body xs (i+1) s'
def Cg {σ:Type}(body:Int→σ→Option σ):Nat→Int→σ→Option σ
 |0,_,s=>some s
 |n+1,i,s=>Ab (body i s) fun s'=>Cg body n (i+1) s'
theorem Agy {α σ:Type}{body:Int→α→σ→Option σ}{xs:List α}{i:Nat}{s t:σ}(h:Et body (xs.drop i) i s=some t)(hi:i<xs.length):
  ∃x s',idx xs (i:Int)=some x∧body i x s=some s'∧Et body (xs.drop (i+1)) ((i+1:Nat):Int) s'=some t:=by
 obtain⟨x,hx,hd⟩:=WT hi;rw[hd]at h;obtain⟨y,h1,h2⟩:=Ac h;exact⟨x,y,Mm hx,h1,h2⟩
theorem AdJ {α σ:Type}{body:Int→α→σ→Option σ}{xs:List α}{i:Nat}{s t:σ}(h:Et body (xs.drop i) i s=some t)(hi: ¬i<xs.length):t=s:=by
 rw[Ak6 (by omega)]at h;cases h; rfl
theorem AdI {σ:Type}{body:Int→σ→Option σ}{n i:Nat}{s t:σ}(h:Cg body (n-i) i s=some t)(hi:i<n):
  ∃s',body i s=some s'∧Cg body (n-(i+1)) ((i+1:Nat):Int) s'=some t:=by
 obtain⟨k,hk⟩: ∃k,n-i=k+1:=⟨n-i-1,by omega⟩;rw[hk]at h;obtain⟨y,h1,h2⟩:=Ac h;exact⟨y,h1,by rw[show n-(i+1)=k from by omega]; exact h2⟩
theorem AaN {σ:Type}{body:Int→σ→Option σ}{n i:Nat}{s t:σ}(h:Cg body (n-i) i s=some t)(hi: ¬i<n):t=s:=by
 rw[show n-i=0 from by omega]at h;cases h; rfl
section
variable {ρ:Option Nat}{P:Program}{N:Nat}{D:Dw}{ops:Array Oper}{rest:List Oper}{Q:DJ}{f:Fr}{w w':World}{v:Value}
variable {dst:Option Nat}{ty t t' t2:TypeId}{pos:String}{af:Array Edge}{x y c a b:Operand}{m:Mem}{As:List Ow}
theorem s_nilc {b off:Nat}(hx:ev f x=pt b off)(h:wpl ρ P N D ops rest Q (upo N f dst (pt b off)) w):wpl ρ P N D ops (⟨dst,.nilCheck x,ty,pos,af,none⟩::rest) Q f w:=
 Aq (v:=pt b off) (w':=w) rfl (fun _ e=>by cases e) (by simp[execOp,hx]) h
theorem s_minI {m n:Int}(hx:ev f x=vI m)(hy:ev f y=vI n){ats:Array TypeId}(h:wpl ρ P N D ops rest Q (upo N f dst (vI (Q5 m n))) w):
  wpl ρ P N D ops (⟨dst,.call {callee:= .builtin .min,args:= #[x,y],argTypes:=ats},ty,pos,af,none⟩::rest) Q f w:=
 Aq (v:=vI (Q5 m n)) (w':=w) rfl (fun _ e=>by cases e) (by simp[execOp,resolve,invoke,builtin,hx,hy,Builtin.min_,Builtin.min2,Q5]) h
theorem s_maxI {m n:Int}(hx:ev f x=vI m)(hy:ev f y=vI n){ats:Array TypeId}(h:wpl ρ P N D ops rest Q (upo N f dst (vI (maxI m n))) w):
  wpl ρ P N D ops (⟨dst,.call {callee:= .builtin .max,args:= #[x,y],argTypes:=ats},ty,pos,af,none⟩::rest) Q f w:=
 Aq (v:=vI (maxI m n)) (w':=w) rfl (fun _ e=>by cases e) (by simp[execOp,resolve,invoke,builtin,hx,hy,Builtin.max_,Builtin.max2,maxI]) h
theorem ltU {m n:UInt64}:((n.toNat:Int)<(m.toNat:Int))↔n<m:=by rw[UInt64.lt_iff_toNat_lt]; omega
theorem s_minU {m n:UInt64}(hx:ev f x=vU m)(hy:ev f y=vU n){ats:Array TypeId}(h:wpl ρ P N D ops rest Q (upo N f dst (vU (minU m n))) w):
  wpl ρ P N D ops (⟨dst,.call {callee:= .builtin .min,args:= #[x,y],argTypes:=ats},ty,pos,af,none⟩::rest) Q f w:=
 Aq (v:=vU (minU m n)) (w':=w) rfl (fun _ e=>by cases e) (by
  simp only[execOp,resolve,invoke,builtin,List.map_toArray,AkZ,List.map_nil,hx,hy,AkJ,AkK,AkF,Builtin.min_,List.foldlM_cons,List.foldlM_nil,Builtin.min2,minU,ltU];split<;>rfl) h
theorem s_maxU {m n:UInt64}(hx:ev f x=vU m)(hy:ev f y=vU n){ats:Array TypeId}(h:wpl ρ P N D ops rest Q (upo N f dst (vU (P9 m n))) w):
  wpl ρ P N D ops (⟨dst,.call {callee:= .builtin .max,args:= #[x,y],argTypes:=ats},ty,pos,af,none⟩::rest) Q f w:=
 Aq (v:=vU (P9 m n)) (w':=w) rfl (fun _ e=>by cases e) (by
  simp only[execOp,resolve,invoke,builtin,List.map_toArray,AkZ,List.map_nil,hx,hy,AkJ,AkK,AkF,Builtin.max_,List.foldlM_cons,List.foldlM_nil,Builtin.max2,P9,gt_iff_lt,ltU];split<;>rfl) h
theorem Xi {r:Bool}{vx vy:Value}(hx:ev f x=vx)(hy:ev f y=vy)(hg:(eqGuard .eql t x y vx vy).run P w= .ok () w)(he:(binOp .eql t vx vy).run P w= .ok (.bool r) w)
  (h:wpl ρ P N D ops rest Q (upo N f dst (.bool r)) w):wpl ρ P N D ops (⟨dst,.binOp .eql t x y t',ty,pos,af,none⟩::rest) Q f w:=
 Aq (v:= .bool r) (w':=w) rfl (fun _ e=>by cases e) (by simp only[execOp,hx,hy,AkJ,hg,AkF,he,AkK]) h
theorem Xh {r:Bool}{vx vy:Value}(hx:ev f x=vx)(hy:ev f y=vy)(hg:(eqGuard .neq t x y vx vy).run P w= .ok () w)(he:(binOp .neq t vx vy).run P w= .ok (.bool r) w)
  (h:wpl ρ P N D ops rest Q (upo N f dst (.bool r)) w):wpl ρ P N D ops (⟨dst,.binOp .neq t x y t',ty,pos,af,none⟩::rest) Q f w:=
 Aq (v:= .bool r) (w':=w) rfl (fun _ e=>by cases e) (by simp only[execOp,hx,hy,AkJ,hg,AkF,he,AkK]) h
theorem eqlb_d (d:Nat){p q:Bool}(hu:P.underlying t=some .bool):(Op.equalIn (d+1) t (.bool p) (.bool q)).run P w= .ok (p==q) w:=by
 simp[Op.equalIn,AkD hu]
theorem eqlb {p q:Bool}(hu:P.underlying t=some .bool):(Op.equal t (.bool p) (.bool q)).run P w= .ok (p==q) w:=eqlb_d 9999 hu
theorem s_eqlb {p q:Bool}(hu:P.underlying t=some .bool)(hx:ev f x= .bool p)(hy:ev f y= .bool q)(h:wpl ρ P N D ops rest Q (upo N f dst (.bool (p==q))) w):
  wpl ρ P N D ops (⟨dst,.binOp .eql t x y t',ty,pos,af,none⟩::rest) Q f w:=
 Xi hx hy (by simp[eqGuard]) (by simp only[binOp,AkJ,eqlb hu,AkF,AkK]) h
theorem s_neqb {p q:Bool}(hu:P.underlying t=some .bool)(hx:ev f x= .bool p)(hy:ev f y= .bool q)(h:wpl ρ P N D ops rest Q (upo N f dst (.bool (p !=q))) w):
  wpl ρ P N D ops (⟨dst,.binOp .neq t x y t',ty,pos,af,none⟩::rest) Q f w:=
 Xh hx hy (by simp[eqGuard]) (by simp only[binOp,AkJ,eqlb hu,AkF,AkK]; rfl) h
end
def Gb (ops:Array Oper)(L:Nat→Bool)(i:Nat):Bool:=((ops[i]?).map (·.after.all fun e=> !Region.binds .any e||L e.on)).getD false
def Adi (ops:Array Oper)(i j:Nat):Bool:=((ops[i]?).map (·.after.toList.any fun e=>Region.binds .any e&&Nat.beq e.on j)).getD false
def LS (L:Nat→Bool)(i:Nat):Nat→Bool:=fun j=>bif Nat.beq j i then true else L j
def AaW (k:Nat):List Oper→Bool
 | []=>true
 |o::l=>(o.after.toList.all fun e=> !Region.binds .any e||Nat.blt e.on k)&&AaW (k+1) l
theorem dep {ops:Array Oper}{L:Nat→Bool}{i j:Nat}(h:Gb ops L i=true)(hd:Adi ops i j=true):L j=true:=by
 unfold Gb at h; unfold Adi at hd;cases e:ops[i]? with
 |none=>rw[e]at h; cases h
 |some o=>
  rw[e]at h hd;simp only[AkL,Option.getD_some]at h hd;rw[List.any_eq_true]at hd;obtain⟨x,hx,hb⟩:=hd;rw[Array.all_eq_true_iff_forall_mem]at h;have:=h x (by simpa using hx);simp only[Aks,Nat.beq_eq]at hb;rw[hb.1,Alp,Alx,hb.2]at this;exact this
theorem beq_ne {a b:Nat}(h:a≠b):Nat.beq a b=false:=by
 cases e:Nat.beq a b with
 |false=>rfl
 |true=>exact absurd (Aku e) h
theorem IL {L:Nat→Bool}{i:Nat}:LS L i i=true:=by simp[LS]
theorem P3 {L:Nat→Bool}{i j:Nat}(h:L j=true):LS L i j=true:=by simp[LS,h]
theorem Gv {L:Nat→Bool}{i j:Nat}(h:Nat.beq j i=false):LS L i j=L j:=by simp[LS,h]
theorem Su {ops:Array Oper}{L L':Nat→Bool}{i:Nat}(hl: ∀j,L j=true→L' j=true)(h:Gb ops L i=true):Gb ops L' i=true:=by
 unfold Gb at*;cases e:ops[i]? with
 |none=>rw[e]at h; cases h
 |some o=>
  rw[e]at h;simp only[AkL,Option.getD_some]at h⊢;rw[Array.all_eq_true_iff_forall_mem]at h⊢;intro x hx;have:=h x hx;simp only[Alh]at this⊢;exact this.imp id (hl _)
theorem AgU {k i:Nat}{l:List Oper}{o:Oper}(h:AaW k l=true)(hi:l[i]? =some o): ∀e∈o.after,Region.binds .any e=true→e.on<k+i:=by
 induction l generalizing k i with
 |nil=>simp at hi
 |cons a l ih=>
  simp only[AaW,Aks]at h;cases i with
  |zero=>
   simp only[List.getElem?_cons_zero,Akv]at hi;subst hi;intro e he hb;have:=AkI.1 h.1 e (by simpa using he);rw[hb]at this;simpa[Nat.blt_eq]using this
  |succ i=>
   simp only[List.getElem?_cons_succ]at hi;intro e he hb;have:=ih h.2 hi e he hb;omega
def AaT (L:Nat→Bool):Nat→Nat
 |0=>0
 |n+1=>AaT L n+(bif L n then 0 else 1)
theorem AgG {L:Nat→Bool}{i n:Nat}(hi:i<n)(hL:L i=false):AaT L n=AaT (LS L i) n+1:=by
 induction n with
 |zero=>omega
 |succ n ih=>
  simp only[AaT];by_cases e:i=n
  ·subst e;have: ∀m,m≤i→AaT (LS L i) m=AaT L m:=by
    intro m hm;induction m with
    |zero=>rfl
    |succ m ihm=>simp only[AaT]; rw[ihm (by omega),Gv (beq_ne (by omega))]
   rw[this i (AkC _),IL,hL]; simp
  ·rw[ih (by omega),Gv (j:=n) (beq_ne (by omega))]; omega
theorem AdY {L:Nat→Bool}{n:Nat}(h:AaT L n=0): ∀i,i<n→L i=true:=by
 induction n with
 |zero=>intro i hi; omega
 |succ n ih=>
  simp only[AaT]at h;intro i hi;by_cases e:i=n
  ·subst e;cases k:L i with
   |true=>rfl
   |false=>rw[k]at h; simp at h
  ·exact ih (by omega) i (by omega)
theorem TS: ∀n,AaT (fun _=>false) n=n
 |0=>rfl
 |n+1=>by simp[AaT,TS n]
def Aev (ρ:Option Nat)(P:Program)(ops:Array Oper)(o:Oper)(K:Act→World→Prop)(Q:Exit→Act→World→Prop)(a:Act)(w:World):Prop:=if Region.wanted o (yielded ops a.tmps)then o.uponIn (FW ρ) 0 P a K Q ((o.semAt ρ a.eval).run P w)else K (a.put o.dst undef) w
section
variable {ρ:Option Nat}{P:Program}{N:Nat}{D:Dw}{ops:Array Oper}{o:Oper}
theorem Abi {Q:Exit→Act→World→Prop}{K K':Act→World→Prop}{a:Act}{w:World}(hk: ∀a w,K a w→K' a w)(h:Aev ρ P ops o K Q a w):
  if Region.wanted o (yielded ops a.tmps)then o.wpIn (FW ρ) 0 P a w K' Q else(∀f,o.about P w a.eval=some f→(FW ρ).fn f)∧K' (a.put o.dst undef) w:=by
 unfold Aev at h;split
 ·rename_i hw;rw[AkA hw]at h;refine⟨fun _ _=>trivial,?_⟩;have hr:(FW ρ).round=ρ:=rfl;rw[hr];generalize (o.semAt ρ a.eval).run P w=r at*;cases r with
  |ok n w'=>
   cases n<;>simp only[Oper.uponIn]at h⊢ <;>
    first
     |exact hk _ _ h
     |exact⟨h.1,CallsIn.mono h.2 (fun e w'' he=>by cases e<;>first|exact hk _ _ he|exact he)⟩
     |exact⟨h.1,RowsIn.mono h.2 (fun _ _ he=>hk _ _ he)⟩
     |exact⟨h.1,RoundIn.mono h.2 (fun e w'' he=>by cases e<;>first|exact hk _ _ he|exact he)⟩
  |halt x w'=>cases x<;>simp only[Oper.uponIn]at h⊢ <;>exact h
 ·rename_i hw;rw[Aky hw]at h;exact⟨fun _ _=>trivial,hk _ _ h⟩
theorem VE {Q:Exit→Act→World→Prop}{K K':Act→World→Prop}{a:Act}{w:World}(hk: ∀a w,K a w→K' a w)(h:Aev ρ P ops o K Q a w):Aev ρ P ops o K' Q a w:=by
 have:=Abi hk h;unfold Aev;split
 ·rename_i hw; rw[AkA hw]at this; exact this.2
 ·rename_i hw; rw[Aky hw]at this; exact this.2
theorem Aif {Q:DJ}{K:Fr→World→Prop}{a:Act}{w:World}(h:wpO ρ P ops (Zz N D (J2 K Q)) [o] a w):Aev ρ P ops o (fun a w=> ∃f,(Sim N a f∧Okd D a w)∧K f w) (Zz N D Q) a w:=by
 unfold wpO at h;unfold Aev;split
 ·rename_i hw;rw[AkA hw]at h;have lo:LetsOut (Zz N D (J2 K Q))→LetsOut (Zz N D Q):=fun⟨x,y,z⟩=>⟨x,y,z⟩;generalize (o.semAt ρ a.eval).run P w=r at*;cases r with
  |ok n w'=>
   cases n<;>simp only[Oper.uponIn,wpO]at h⊢ <;>
    first
     |exact h
     |exact⟨h.1,CallsIn.mono h.2 (fun e w'' he=>by cases e<;>first|exact he|exact lo he)⟩
     |exact⟨h.1,RowsIn.mono h.2 (fun _ _ he=>he)⟩
     |exact⟨h.1,RoundIn.mono h.2 (fun e w'' he=>by cases e<;>first|exact he|exact lo he)⟩
  |halt x w'=>cases x<;>simp only[Oper.uponIn]at h⊢ <;>exact h
 ·rename_i hw;rw[Aky hw]at h;exact h
theorem Agn {Q:Exit→Act→World→Prop}(hb:AaW 0 ops.toList=true)(I:(Nat→Bool)→Act→World→Prop)
  (hstep: ∀i o L a w,ops[i]? =some o→L i=false→Gb ops L i=true→(∀k,L k=true→Gb ops L k=true)→I L a w→Aev ρ P ops o (I (LS L i)) Q a w)
  (hend: ∀L a w,(∀i,i<ops.size→L i=true)→I L a w→Q .normal a w):
  ∀(fuel:Nat) (listed:Array Bool) (L:Nat→Bool) (a:Act) (w:World),listed.size=ops.size→(∀j,listed.getD j false=L j)→AaT L ops.size≤fuel→(∀k,L k=true→Gb ops L k=true)→
   I L a w→wpAnyIn (FW ρ) 0 P .any ops Q fuel listed a w:=by
 have rdy: ∀(listed:Array Bool) (L:Nat→Bool),listed.size=ops.size→(∀j,listed.getD j false=L j)→∀i,i∈Region.ready .any ops listed↔(i<ops.size∧L i=false∧Gb ops L i=true):=by
  intro listed L hsz hL i;unfold Region.ready Gb;rw[List.mem_filter,List.mem_range];refine and_congr_right fun hi=> ?_;have e1:listed.getD i true=L i:=by
   rw[←hL i];simp only[Array.getD_eq_getD_getElem?];rw[Array.getElem?_eq_getElem (by omega)]; rfl
  have e2:(fun e:Edge=> !Region.binds .any e||listed.getD e.on false)=fun e=> !Region.binds .any e||L e.on:=by
   funext e; rw[hL]
  rw[e1,e2,Aks];cases L i<;>simp
 have noneLeft: ∀(L:Nat→Bool),(∀i,¬(i<ops.size∧L i=false∧Gb ops L i=true))→∀i,i<ops.size→L i=true:=by
  intro L hn i;induction i using Nat.strongRecOn with
  |_ i ih=>
   intro hi;cases e:L i with
   |true=>rfl
   |false=>
    exfalso;refine hn i ⟨hi,e,?_⟩;unfold Gb;rw[Array.getElem?_eq_getElem hi];simp only[AkL,Option.getD_some];rw[Array.all_eq_true_iff_forall_mem];intro x hx;cases hbx:Region.binds .any x with
    |false=>rfl
    |true=>
     have hlt:=AgU hb (i:=i) (o:=ops[i]) (by simp[hi]) x hx hbx;rw[ih x.on (by omega) (by omega)];simp
 intro fuel;induction fuel with
 |zero=>
  intro listed L a w hsz hL hc hcl hI;have hall:=AdY (by omega:AaT L ops.size=0);refine⟨?_,hend L a w hall hI⟩;rw[List.eq_nil_iff_forall_not_mem];intro i hi;have:=(rdy listed L hsz hL i).1 hi;rw[hall i this.1]at this;cases this.2.1
 |succ fuel ih=>
  intro listed L a w hsz hL hc hcl hI;refine⟨fun h0=>hend L a w (noneLeft L fun i hi=> ?_) hI,fun i hi=> ?_⟩
  ·have:=(rdy listed L hsz hL i).2 hi;rw[h0]at this; cases this
  ·obtain⟨h1,h2,h3⟩:=(rdy listed L hsz hL i).1 hi;unfold wpOpIn;rw[Array.getElem?_eq_getElem h1];refine Abi (K:=I (LS L i)) (fun a' w' hI'=> ?_) (hstep i ops[i] L a w (Array.getElem?_eq_getElem h1) h2 h3 hcl hI);refine ih _ (LS L i) a' w' (by simp[hsz]) (fun j=> ?_) (by have:=AgG h1 h2; omega) (fun k hk=> ?_) hI'
   ·simp only[LS,Array.getD_eq_getD_getElem?,Array.getElem?_setIfInBounds];by_cases e:i=j
    ·subst e; simp[hsz,h1]
    ·rw[Aky e];have:Nat.beq j i=false:=beq_ne fun h=>e h.symm;rw[this,cond_false,←hL j]; simp
   ·cases e:Nat.beq k i with
    |true=>
     have e:k=i:=by simpa using e
     subst e; exact Su (fun j hj=>P3 hj) h3
    |false=>rw[Gv e]at hk; exact Su (fun j hj=>P3 hj) (hcl k hk)
end
def msk (A:List Nat):List Edge→Nat
 | []=>0
 |e::es=>bif Region.binds .any e then(1<<<e.on)|||A.getD e.on 0|||msk A es else msk A es
def Rm:List Oper→List Nat→List Nat
 | [],A=>A
 |o::l,A=>Rm l (A++[msk A o.after.toList])
def AjO (k:Nat)(A:List Nat):Bool:=(List.range A.length).all fun i=>Nat.blt i k||Nat.beq (A.getD i 0+1) (1<<<i)
def Vg (l:List Oper)(k:Nat):Bool:=AjO k (Rm l [])
def Anc (ops:Array Oper)(i m:Nat):Prop:= ∀L:Nat→Bool,Gb ops L i=true→(∀k,L k=true→Gb ops L k=true)→∀j,m.testBit j=true→L j=true
theorem Aje {ops:Array Oper}{A:List Nat}(hA: ∀i m,A[i]? =some m→Anc ops i m){i:Nat}{o:Oper}(ho:ops[i]? =some o):Anc ops i (msk A o.after.toList):=by
 intro L hd hc;have hall: ∀e∈o.after.toList,Region.binds .any e=true→L e.on=true:=by
  intro e he hb;unfold Gb at hd;rw[ho]at hd;simp only[AkL,Option.getD_some]at hd;rw[Array.all_eq_true_iff_forall_mem]at hd;have:=hd e (by simpa using he);rw[hb]at this;simpa using this
 generalize o.after.toList=es at hall;induction es with
 |nil=>intro j hj; simp[msk]at hj
 |cons e es ih=>
  intro j hj;simp only[msk]at hj;have ih':=ih (fun e' he'=>hall e' (AkT _ he')) j;cases hb:Region.binds .any e with
  |false=>rw[hb]at hj; exact ih' hj
  |true=>
   rw[hb,cond_true]at hj;have hL:=hall e (AkN ..) hb;simp only[Nat.testBit_or,Alh]at hj;rcases hj with (hj|hj)|hj
   ·have:e.on=j:=by
     rw[Nat.one_shiftLeft,Nat.testBit_two_pow]at hj;simpa using hj
    rw[←this]; exact hL
   ·rw[List.getD_eq_getElem?_getD]at hj;cases hg:A[e.on]? with
    |none=>rw[hg]at hj; simp at hj
    |some m=>rw[hg]at hj; exact hA _ _ hg L (hc _ hL) hc j hj
   ·exact ih' hj
theorem Zp {ops:Array Oper}: ∀(l:List Oper) (A:List Nat),(∀j,l[j]? =ops[A.length+j]?)→(∀i m,A[i]? =some m→Anc ops i m)→∀i m,(Rm l A)[i]? =some m→Anc ops i m:=by
 intro l;induction l with
 |nil=>intro A _ hA; exact hA
 |cons o l ih=>
  intro A hl hA;simp only[Rm];refine ih _ (fun j=> ?_) (fun i m hi=> ?_)
  ·have:=hl (j+1);simp only[List.getElem?_cons_succ]at this;rw[this,Akz]; simp only[List.length_singleton]; congr 1; omega
  ·rw[List.getElem?_append]at hi;split at hi
   ·exact hA i m hi
   ·have:i=A.length:=by
     cases h:i-A.length with
     |zero=>omega
     |succ n=>rw[h]at hi; simp at hi
    subst this;simp only[Nat.sub_self,List.getElem?_cons_zero,Akv]at hi;subst hi;exact Aje hA (by simpa using (hl 0).symm)
theorem Oz: ∀(l:List Oper) (A:List Nat),(Rm l A).length=A.length+l.length:=by
 intro l;induction l with
 |nil=>intro A; rfl
 |cons o l ih=>intro A; simp only[Rm,ih,Akz,AkB,AkY]; omega
theorem forced {l:List Oper}{k i:Nat}{L:Nat→Bool}(h:Vg l k=true)(hk:k≤i)(hi:i<l.length)(hd:Gb l.toArray L i=true)(hc: ∀k,L k=true→Gb l.toArray L k=true):
  ∀j,j<i→L j=true:=by
 intro j hj;have hlen:(Rm l []).length=l.length:=by simp[Oz]
 have ha:=Zp (ops:=l.toArray) l [] (fun j=>by simp) (fun i m h=>by simp at h) i ((Rm l [])[i]'(by omega)) (by simp);have:=AkI.1 h i (by simp[hlen,hi]);simp only[Alh,Nat.blt_eq,Nat.beq_eq]at this;rcases this with this|this
 ·omega
 ·refine ha L hd hc j ?_;rw[List.getD_eq_getElem?_getD,AkV (by omega),Option.getD_some,Nat.one_shiftLeft]at this;have e:(Rm l [])[i]'(by omega)=2^i-1:=by omega
  rw[e,Nat.testBit_two_pow_sub_one];simpa using hj
section
variable {ρ:Option Nat}{P:Program}{N:Nat}{D:Dw}{Q:DJ}{f:Fr}{w:World}
theorem YB {id k:Nat}{l:List Oper}(hm:P.follows .mixedOrders=true)(hb:AaW 0 l=true)(hf:Vg l k=true)(hk:k≤l.length)(I:(Nat→Bool)→Fr→World→Prop)
  (h0:I (fun _=>false) f {w with drawn:=w.drawn+1})
  (hstep: ∀i o L f w,i<k→l[i]? =some o→L i=false→Gb l.toArray L i=true→(∀k,L k=true→Gb l.toArray L k=true)→I L f w→wpl ρ P N D l.toArray [o] (J2 (I (LS L i)) Q) f w)
  (hend: ∀L f w,(∀i,i<k→L i=true)→I L f w→wpl ρ P N D l.toArray (l.drop k) Q f w):wpc ρ P N D (.region id l.toArray true) Q f w:=fun a ha=>by
 refine wpIn_region_any hm (Agn (ρ:=ρ) (by simpa using hb)
  (fun L a w=>((∀i,k≤i→L i=false)∧∃f,(Sim N a f∧Okd D a w)∧I L f w)∨(∃j,k≤j∧(∀i,L i=decide (i<j))∧wpO ρ P l.toArray (Zz N D Q) (l.drop j) a w)) ?_ ?_ _ _ (fun _=>false) a _ (by simp)
  (fun j=>by simp[Array.getD_eq_getD_getElem?,Array.getElem?_replicate]; split<;>rfl) (by rw[TS]; exact AkC _) (fun _ h=>by cases h) (.inl ⟨fun _ _=>rfl,f,⟨ha.1,ha.2.up (Kd.heap rfl)⟩,h0⟩))
 ·rintro i o L a w ho hL hd hc hI;have ho':l[i]? =some o:=by simpa using ho
  have hil:i<l.length:=by
   rcases Nat.lt_or_ge i l.length with h|h
   ·exact h
   ·rw[List.getElem?_eq_none h]at ho'; cases ho'
  have tail: ∀j,k≤i→(∀x,L x=decide (x<j))→i=j→wpO ρ P l.toArray (Zz N D Q) (l.drop j) a w→
    Aev ρ P l.toArray o (fun a w=>((∀x,k≤x→LS L i x=false)∧∃f,(Sim N a f∧Okd D a w)∧I (LS L i) f w)∨(∃j,k≤j∧(∀x,LS L i x=decide (x<j))∧wpO ρ P l.toArray (Zz N D Q) (l.drop j) a w)) (Zz N D Q) a w:=by
   rintro j hki hx rfl hw;have hd:l.drop i=o::l.drop (i+1):=by
    rw[List.drop_eq_getElem_cons hil];rw[AkV hil]at ho'; cases ho'; rfl
   rw[hd]at hw;refine VE (fun a' w' h=> .inr ⟨i+1,by omega,fun x=> ?_,h⟩) (show Aev ρ P l.toArray o (wpO ρ P l.toArray (Zz N D Q) (l.drop (i+1))) (Zz N D Q) a w from hw);by_cases hxi:x=i
   ·subst hxi; simp[LS]
   ·rw[Gv (beq_ne hxi),hx x]; simp only[Alz]; omega
  rcases hI with ⟨hno,f,hs,hI⟩|⟨j,hkj,hx,hw⟩
  ·rcases Nat.lt_or_ge i k with h|h
   ·refine VE ?_ (Aif (hstep i o L f w h ho' hL hd hc hI a hs));exact fun a' w' h'=> .inl ⟨fun x hx=>by rw[Gv (beq_ne (by omega))]; exact hno x hx,h'⟩
   ·have hall:=forced hf h hil hd hc;have:i=k:=by
     rcases Nat.lt_or_ge k i with h'|h'
     ·have:=hall k h'; rw[hno k (AkC _)]at this; cases this
     ·omega
    refine tail k h (fun x=> ?_) this (hend L f w (fun x hx=>hall x (by omega)) hI a hs);rcases Nat.lt_or_ge x k with hx|hx
    ·rw[hall x (by omega)]; simp[hx]
    ·rw[hno x hx]; simp; omega
  ·have hji:j≤i:=by
    rw[hx i]at hL;have:=of_decide_eq_false hL; omega
   have:i=j:=by
    rcases Nat.lt_or_ge j i with h|h
    ·have:=forced hf (by omega) hil hd hc j h;rw[hx j]at this; simp at this
    ·omega
   exact tail j (by omega) hx this hw
 ·rintro L a w hall hI;rcases hI with ⟨hno,f,hs,hI⟩|⟨j,hkj,hx,hw⟩
  ·have hkl:k=l.length:=by
    rcases Nat.lt_or_ge k l.length with h|h
    ·have:=hall k (by simpa using h); rw[hno k (AkC _)]at this; cases this
    ·omega
   have:=hend L f w (fun i hi=>hall i (by simp; omega)) hI a hs;rw[Ak6 (by omega)]at this;exact this
  ·have hjl:l.length≤j:=by
    rcases Nat.lt_or_ge j l.length with h|h
    ·have:=hall j (by simpa using h); rw[hx j]at this; simp at this
    ·exact h
   rw[Ak6 hjl]at hw;exact hw
end
abbrev Aa4:=List (Nat×(Mem→Value→Prop))
def AdA (Fs:Aa4)(i:Nat)(m:Mem)(f:Fr):Prop:=match Fs[i]? with|some p=>p.2 m (f p.1)|none=>True
def Yx:Aa4→Prop
 | []=>True
 |p::r=>(∀m M v,m≤M→p.2 m v→p.2 M v)∧Yx r
theorem Yx.at {Fs:Aa4}(h:Yx Fs){i:Nat}{p:Nat×(Mem→Value→Prop)}(hi:Fs[i]? =some p): ∀m M v,m≤M→p.2 m v→p.2 M v:=by
 induction Fs generalizing i with
 |nil=>simp at hi
 |cons a r ih=>
  cases i with
  |zero=>simp at hi; subst hi; exact h.1
  |succ i=>exact ih h.2 (by simpa using hi)
def AllI (p:Nat→Prop):List Nat→Prop
 | []=>True
 |i::r=>p i∧AllI p r
theorem AllI.at {p:Nat→Prop}{l:List Nat}(h:AllI p l){i:Nat}(hi:i∈l):p i:=by
 induction l with
 |nil=>cases hi
 |cons a l ih=>
  rcases Ak1.1 hi with rfl|hi
  ·exact h.1
  ·exact ih h.2 hi
def gu {α:Type} [Inhabited α](c:Bool)(o:Option α):Option α:=bif c then o else some default
theorem Af7 {α:Type} [Inhabited α]{c:Bool}{o:Option α}{x:α}(hc:c=true)(h:gu c o=some x):o=some x:=by rw[gu,hc]at h; exact h
section
variable {ρ:Option Nat}{P:Program}{N:Nat}{D:Dw}{ops:Array Oper}{rest:List Oper}{Q:DJ}{f:Fr}{w w':World}{v:Value}
variable {dst:Option Nat}{ty t t' t2:TypeId}{pos:String}{af:Array Edge}{x y c a b:Operand}{m:Mem}{As:List Ow}
theorem equ_d (d:Nat){p q:UInt64}(hu:P.underlying t=some (.int .u64)):(Op.equalIn (d+1) t (vU p) (vU q)).run P w= .ok (p==q) w:=by
 have:((p.toNat:Int)==(q.toNat:Int))=(p==q):=by
  rw[Aly]; simp only[Alu];constructor
  ·intro h; exact UInt64.toNat_inj.1 (by omega)
  ·rintro rfl; rfl
 simp[Op.equalIn,AkD hu,vU,this]
theorem AjY (d:Nat){e:TypeId}{a b c k:UInt64}(hu:P.underlying t=some (.array 2 e))(he:P.underlying e=some (.int .u64))(hs: ∀w,(sizeOf e).run P w= .ok 1 w)(ha: ∀w,(isAgg e).run P w= .ok false w):
  (Op.equalIn (d+2) t (.agg #[vU a,vU b]) (.agg #[vU c,vU k])).run P w= .ok (G3 (a,b) (c,k)) w:=by
 have h1: ∀(p q:UInt64) w,(Op.equalIn (d+1) e (vU p) (vU q)).run P w= .ok (p==q) w:=fun p q w=>equ_d d he;unfold Op.equalIn;simp[AkD hu,hs,part,ha,G3,List.range'_succ,h1];by_cases h:a=c<;>by_cases h':b=k<;>simp[h,h']
theorem s_lenS {s:ByteArray}(hx:ev f x=vS s)(hu:P.underlying t=some .string)(h:wpl ρ P N D ops rest Q (upo N f dst (vI s.size)) w):
  wpl ρ P N D ops (⟨dst,.call {callee:= .builtin .len,args:= #[x],argTypes:= #[t]},ty,pos,af,none⟩::rest) Q f w:=
 Aq (v:=vI s.size) (w':=w) rfl (fun _ e=>by cases e) (by simp[execOp,resolve,invoke,builtin,Builtin.len_,hx,AkD hu,goInt]) h
theorem s_negU {p:UInt64}(hx:ev f x=vU p)(h:wpl ρ P N D ops rest Q (upo N f dst (vU (toU (-(p.toNat:Int))))) w):
  wpl ρ P N D ops (⟨dst,.unOp .neg t x,ty,pos,af,none⟩::rest) Q f w:=
 Aq (v:=vU (toU (-(p.toNat:Int)))) (w':=w) rfl (fun _ e=>by cases e) (by simp[execOp,hx,Op.unary,Op.intArith,Aic]) h
theorem s_negW {p:UInt32}(hx:ev f x=vW p)(h:wpl ρ P N D ops rest Q (upo N f dst (vW (toW (-(p.toNat:Int))))) w):
  wpl ρ P N D ops (⟨dst,.unOp .neg t x,ty,pos,af,none⟩::rest) Q f w:=
 Aq (v:=vW (toW (-(p.toNat:Int)))) (w':=w) rfl (fun _ e=>by cases e) (by simp[execOp,hx,Op.unary,Op.intArith,wrapW]) h
theorem s_lenA {n:Nat}{e:TypeId}(hu:P.underlying t=some (.array n e))(h:wpl ρ P N D ops rest Q (upo N f dst (vI n)) w):
  wpl ρ P N D ops (⟨dst,.call {callee:= .builtin .len,args:= #[x],argTypes:= #[t]},ty,pos,af,none⟩::rest) Q f w:=
 Aq (v:=vI n) (w':=w) rfl (fun _ e=>by cases e) (by simp[execOp,resolve,invoke,builtin,Builtin.len_,AkD hu,goInt]) h
theorem s_eqlS {p q:ByteArray}(hx:ev f x=vS p)(hy:ev f y=vS q)(h:wpl ρ P N D ops rest Q (upo N f dst (.bool (p.toList==q.toList))) w):
  wpl ρ P N D ops (⟨dst,.binOp .eql t x y t',ty,pos,af,none⟩::rest) Q f w:=
 Xi hx hy (by simp[eqGuard]) (by simp[binOp,Op.stringOp]) h
theorem s_neqS {p q:ByteArray}(hx:ev f x=vS p)(hy:ev f y=vS q)(h:wpl ρ P N D ops rest Q (upo N f dst (.bool (!(p.toList==q.toList)))) w):
  wpl ρ P N D ops (⟨dst,.binOp .neq t x y t',ty,pos,af,none⟩::rest) Q f w:=
 Xh hx hy (by simp[eqGuard]) (by simp[binOp,Op.stringOp]) h
theorem LW {cs d:List Value}{e:TypeId}{o sz:Nat}{agg:Bool}(ha: ∀w,(isAgg e).run P w= .ok agg w)(hs: ∀w,(sizeOf e).run P w= .ok sz w)(hd:(cs.drop o).take sz=d)(hl:d.length=sz)(h1:agg=false→sz=1):
  (part e cs.toArray o).run P w= .ok (pk agg d) w:=by
 cases agg with
 |true=>
  simp only[part,AkJ,ha,AkF,if_true,hs,AkK,pk,cond_true];congr 2;rw[←hd];apply Array.toList_inj.1;simp[List.drop_take]
 |false=>
  have:=h1 rfl;subst this;simp only[part,AkJ,ha,AkF,Bool.false_eq_true,if_false,pk,cond_false];cases d with
  |nil=>simp at hl
  |cons a r=>
   have:r=[]:=by simpa using hl
   subst this;have e0:cs[o]? =some a:=by
    have:=Alc (·[0]?) hd;simpa using this
   simp[e0]
theorem AbV {cs d:List Value}{n sz:Nat}{e:TypeId}{agg:Bool}{k:IntKind}{i:Int}(hx:ev f x= .agg cs.toArray)(hi:ev f y= .int k i)(h0:0≤i)(hn:i<n)(hu:P.underlying t=some (.array n e))
  (ha: ∀w,(isAgg e).run P w= .ok agg w) (hs: ∀w,(sizeOf e).run P w= .ok sz w) (hd:(cs.drop (i.toNat*sz)).take sz=d) (hl:d.length=sz) (h1:agg=false→sz=1)
  (h:wpl ρ P N D ops rest Q (upo N f dst (pk agg d)) w):wpl ρ P N D ops (⟨dst,.index t x y,ty,pos,af,none⟩::rest) Q f w:=
 Aq (v:=pk agg d) (w':=w) rfl (fun _ e=>by cases e) (by
  simp only[execOp,hx,hi,Instr.index,asIntOf,AkJ,AkK,AkF,AkD hu,AkA (And.intro h0 hn),hs,LW ha hs hd hl h1]) h
theorem AiB {cs d:List Value}{fs:Array Field}{fd:Field}{i sz:Nat}{agg:Bool}(hx:ev f x= .agg cs.toArray)(hu:P.underlying t=some (.struct fs))(hi:fs[i]? =some fd)
  (ha: ∀w,(isAgg fd.type).run P w= .ok agg w) (hs: ∀w,(sizeOf fd.type).run P w= .ok sz w) (hd:(cs.drop fd.offset).take sz=d) (hl:d.length=sz) (h1:agg=false→sz=1)
  (h:wpl ρ P N D ops rest Q (upo N f dst (pk agg d)) w):wpl ρ P N D ops (⟨dst,.field t x i,ty,pos,af,none⟩::rest) Q f w:=
 Aq (v:=pk agg d) (w':=w) rfl (fun _ e=>by cases e) (by
  simp only[execOp,hx,Instr.field,asAgg,AkJ,AkK,AkF,AkD hu,hi,LW ha hs hd hl h1]) h
theorem Ae7 {s:ByteArray}{k:IntKind}{i:Int}{b:UInt8}(hx:ev f x=vS s)(hi:ev f y= .int k i)(hu:P.underlying t=some .string)(q:idx s.data.toList i=some b)
  (h:wpl ρ P N D ops rest Q (upo N f dst (vB b)) w):wpl ρ P N D ops (⟨dst,.index t x y,ty,pos,af,none⟩::rest) Q f w:=
 Aq (v:=vB b) (w':=w) rfl (fun _ e=>by cases e) (by
  have h0:0≤i:=by
   unfold idx at q; split at q
   ·assumption
   ·cases q
  have e:s[i.toNat]? =some b:=by
   unfold idx at q; rw[AkA h0]at q;rw[Array.getElem?_toList]at q;exact q
  simp only[execOp,hx,hi,Instr.index,asIntOf,AkJ,AkK,AkF,AkD hu,AkA h0,e]) h
def WQ (place:Nat→Option (Nat×Nat))(cells:List Value):List (Nat×Value×List Value)→Option (List Value)
 | []=>some cells
 |p::rest=>
  match place p.1 with
  |none=>none
  |some q=>bif Nat.beq p.2.2.length q.2&&Nat.ble (q.1+p.2.2.length) cells.length then WQ place (cells.take q.1++p.2.2++cells.drop (q.1+p.2.2.length)) rest else none
def SH:List (Nat×Value×List Value)→Prop
 | []=>True
 |p::r=>p.2.1.cells=p.2.2.toArray∧SH r
theorem AjV {place:Nat→Option (Nat×Nat)}: ∀(ps:List (Nat×Value×List Value)) (cells out:List Value),SH ps→WQ place cells ps=some out→Instr.fill place cells.toArray (ps.map fun p=>(p.1,p.2.1))=some out.toArray:=by
 intro ps;induction ps with
 |nil=>intro cells out _ h; simp only[WQ,Akv]at h; subst h; rfl
 |cons p ps ih=>
  intro cells out hp h;obtain⟨hc,hr⟩:=hp;simp only[WQ]at h;simp only[AkZ,Instr.fill];cases hpl:place p.1 with
  |none=>rw[hpl]at h; cases h
  |some q=>
   obtain⟨off,size⟩:=q;rw[hpl]at h;simp only at h;cases hb:Nat.beq p.2.2.length size&&Nat.ble (off+p.2.2.length) cells.length with
   |false=>rw[hb]at h; cases h
   |true=>
    rw[hb,cond_true]at h;simp only[Aks,Nat.beq_eq,Nat.ble_eq]at hb;have hsz:p.2.1.cells.size=p.2.2.length:=by rw[hc]; simp
    simp only;rw[Aky (by simp[hsz,hb.1]; have:=hb.2; omega)];have e:=WN p.2.2 (cells.take off) ((cells.drop off).take p.2.2.length) (cells.drop (off+p.2.2.length)) (by simp; omega);have ec:cells.take off++(cells.drop off).take p.2.2.length++cells.drop (off+p.2.2.length)=cells:=by
     rw[←All,Akw,List.take_append_drop,List.take_append_drop]
    rw[ec]at e;have e2:p.2.1.cells.zipIdx.foldl (fun(cs:Array Value) (p:Value×Nat)=>cs.setIfInBounds (off+p.2) p.1) cells.toArray=(cells.take off++p.2.2++cells.drop (off+p.2.2.length)).toArray:=by
     rw[hc,←e,←Array.foldl_toList];have:(cells.take off).length=off:=by simp; omega
     rw[this];congr 1;simp
    rw[e2];exact ih _ _ hr h
theorem SlR.cells {α:Type} [GoT α]{xs:List α}(h:SlR m v xs):v.cells= #[v]:=by
 obtain⟨a,c,rfl⟩:=h.val; rfl
def Aeu (P:Program):List Field→List Nat→Prop
 | [],[]=>True
 |fd::r,s::q=>(∀w,(sizeOf fd.type).run P w= .ok s w)∧Aeu P r q
 |_,_=>False
theorem Aar: ∀(fs:List Field) (ss:List Nat),Aeu P fs ss→∀w,(fs.mapM fun fd=>(do pure (fd.offset,←sizeOf fd.type):Sem (Nat×Nat))).run P w= .ok (List.zipWith (fun(fd:Field) s=>(fd.offset,s)) fs ss) w:=by
 intro fs;induction fs with
 |nil=>intro ss h w; cases ss with
  |nil=>rfl
  |cons s q=>cases h
 |cons fd r ih=>intro ss h w; cases ss with
  |nil=>cases h
  |cons s q=>
   have h1:=h.1;have h2:=ih q h.2;simp only[List.mapM_cons,AkJ,h1,AkF,AkK,h2,List.zipWith_cons_cons]
def OJ (P:Program)(t:TypeId)(place:Nat→Option (Nat×Nat)):Prop:=(∃fs ss,P.underlying t=some (.struct fs)∧Aeu P fs.toList ss∧∀i,place i=(List.zipWith (fun(fd:Field) s=>(fd.offset,s)) fs.toList ss)[i]?)∨∃n e sz,P.underlying t=some (.array n e)∧(∀w,(sizeOf e).run P w= .ok sz w)∧∀i,place i=some (i*sz,sz)
theorem OJ.str {fs:Array Field}{ss:List Nat}(hu:P.underlying t=some (.struct fs))(hs:Aeu P fs.toList ss):OJ P t (fun i=>(List.zipWith (fun(fd:Field) s=>(fd.offset,s)) fs.toList ss)[i]?):=
 .inl ⟨fs,ss,hu,hs,fun _=>rfl⟩
theorem OJ.arr {n sz:Nat}{e:TypeId}(hu:P.underlying t=some (.array n e))(hs: ∀w,(sizeOf e).run P w= .ok sz w):OJ P t (fun i=>some (i*sz,sz)):=
 .inr ⟨n,e,sz,hu,hs,fun _=>rfl⟩
theorem Ab0 {place:Nat→Option (Nat×Nat)}{z:Value}{ps:List (Nat×Value×List Value)}{cs:List Value}(hz: ∀w,(zeroValue t).run P w= .ok z w)(hpl:OJ P t place)(ho:SH ps)
  (hf:WQ place z.cells.toList ps=some cs):(Instr.build t (ps.map fun p=>(p.1,p.2.1)).toArray).run P w= .ok (.agg cs.toArray) w:=by
 have hk:=AjV ps z.cells.toList cs ho hf;rw[Array.toArray_toList]at hk;rcases hpl with ⟨fs,ss,hu,hs,hp⟩|⟨n,e,sz,hu,hs,hp⟩
 ·have hm:=Aar fs.toList ss hs w;have e1:place=fun i=>(List.zipWith (fun(fd:Field) s=>(fd.offset,s)) fs.toList ss).toArray[i]? :=by funext i; rw[hp]; simp
  rw[e1]at hk;have hm':(fs.mapM fun fd=>(do pure (fd.offset,←sizeOf fd.type):Sem (Nat×Nat))).run P w= .ok (List.zipWith (fun(fd:Field) s=>(fd.offset,s)) fs.toList ss).toArray w:=by
   rw[Array.mapM_eq_mapM_toList];simp only[map_eq_pure_bind,AkJ,hm,AkF,AkK]
  simp only[Instr.build,AkJ,hz,AkF,AkD hu];simp only[bind_pure_comp]at hm'⊢;simp only[AkJ,hm',AkF,hk,AkK]
 ·have e1:place=fun i=>some (i*sz,sz):=by funext i; rw[hp]
  rw[e1]at hk;simp only[Instr.build,AkJ,hz,AkF,AkD hu,hs,hk,AkK]
theorem AiH {parts:List (Nat×Operand)}{place:Nat→Option (Nat×Nat)}{z:Value}{ps:List (Nat×Value×List Value)}{cs:List Value}(hz: ∀w,(zeroValue t).run P w= .ok z w)(hpl:OJ P t place)(hp:parts.map (fun p=>(p.1,ev f p.2))=ps.map (fun p=>(p.1,p.2.1)))
  (ho:SH ps) (hf:WQ place z.cells.toList ps=some cs) (h:wpl ρ P N D ops rest Q (upo N f dst (.agg cs.toArray)) w):
  wpl ρ P N D ops (⟨dst,.build t parts.toArray,ty,pos,af,none⟩::rest) Q f w:=
 Aq (v:= .agg cs.toArray) (w':=w) rfl (fun _ e=>by cases e) (by
  have e:(parts.toArray.map fun(i,x)=>(i,ev f x))=(ps.map fun p=>(p.1,p.2.1)).toArray:=by rw[←hp]; simp
  simp only[execOp,AkJ,e,Ab0 hz hpl ho hf,AkF,AkK]) h
end
theorem NC {α:Type}{x:α}{l:List α}{j:Int}(q:idx l j=some x):0≤j∧j<(l.length:Int):=by
 unfold idx at q;split at q
 ·rename_i h;have:=(AkR.1 q).1;omega
 ·cases q
section
variable {α:Type} [GoT α]{m:Mem}{cs:List Value}{xs:List α}{x y:α}{j:Int}
theorem DU.getI (h:DU m cs xs)(q:idx xs j=some x):GoT.rep m ((cs.drop (j.toNat*GoT.sz α)).take (GoT.sz α)) x:=by
 refine h.get (i:=j.toNat) ?_;unfold idx at q;split at q
 ·exact q
 ·cases q
theorem DU.inb (h:DU m cs xs)(q:idx xs j=some x):j.toNat*GoT.sz α+GoT.sz α≤cs.length:=by
 have:=NC q;rw[h.length,←Nat.succ_mul];exact Nat.mul_le_mul_right _ (by omega)
theorem DU.set (h:DU m cs xs){i:Nat}(hi:i<xs.length){c:List Value}(hc:GoT.rep m c y):DU m (cs.take (i*GoT.sz α)++c++cs.drop (i*GoT.sz α+GoT.sz α)) (xs.set i y):=by
 rw[List.set_eq_take_append_cons_drop,AkA hi,Akw];refine(h.take i).append (DU.cons hc ?_);have:=h.drop (i+1);rwa [Nat.succ_mul]at this
end
section
variable {ρ:Option Nat}{P:Program}{N:Nat}{D:Dw}{ops:Array Oper}{rest:List Oper}{Q:DJ}{f:Fr}{w w':World}{v:Value}
variable {dst:Option Nat}{ty t t' t2:TypeId}{pos:String}{af:Array Edge}{x y c a b:Operand}{m:Mem}{As:List Ow}
theorem s_stOR {α:Type} [GoT α]{xs:List α}{z0 z:α}{j:Int}{i:Nat}{cs:List Value}{p u:Value}(hS:St m As w)(hx:ev f x=p)(hy:ev f y=u)(hp:PtO v p (j.toNat*GoT.sz α))(hA:As[i]? =some (row (GoT.sz α) v cs xs.length))
  (hr:DU m cs xs) (q:idx xs j=some z0) (hs: ∀w,(sizeOf t).run P w= .ok u.cells.size w) (h1:OneL u.cells.toList) (hz:GoT.rep m u.cells.toList z)
  (h: ∀w' cs',St m (As.set i (row (GoT.sz α) v cs' (xs.set j.toNat z).length)) w'→DU m cs' (xs.set j.toNat z)→wpl ρ P N D ops rest Q (upo N f dst undef) w'):
  wpl ρ P N D ops (⟨dst,.store t x y,ty,pos,af,none⟩::rest) Q f w:=by
 have hlen:u.cells.size=GoT.sz α:=by have:=GoT.len hz; simpa using this
 have hb:=hr.inb q;refine s_stO hS hx hy hp hA hs h1.all (by rw[hlen]; exact hb) fun w' hS'=> ?_;refine h w' _ (by rw[List.length_set]; exact hS') ?_;have:=hr.set (y:=z) (i:=j.toNat) (by have:=NC q; omega) hz;rw[hlen]; exact this
theorem s_fldO {off fo n:Nat}{p:Value}{fs:Array Field}{fd:Field}{i:Nat}(hx:ev f x=p)(hp:PtO v p off)(hu:P.underlying t=some (.struct fs))(hi:fs[i]? =some fd)(ho:fd.offset=fo)(hs: ∀w,(sizeOf fd.type).run P w= .ok (n+1) w)
  (h: ∀p',PtO v p' (off+fo)→wpl ρ P N D ops rest Q (upo N f dst p') w):wpl ρ P N D ops (⟨dst,.fieldAddr t x i,ty,pos,af,none⟩::rest) Q f w:=by
 obtain⟨b,n',c',rfl,rfl⟩:=hp;exact AiA hx hu hi ho hs (h _ ⟨b,_,_,rfl,rfl⟩)
end
def IE:List Value→List (List Value)→Prop
 | [],[]=>True
 |v::vs,c::cs=>v.cells=c.toArray∧IE vs cs
 |_,_=>False
def I0 (n:Nat):List (List Value)→Bool
 | []=>true
 |c::cs=>Nat.beq c.length n&&I0 n cs
theorem IE.flat: ∀{vs:List Value} {cs:List (List Value)},IE vs cs→(vs.flatMap fun v=>v.cells.toList)=cs.flatten
 | [],[],_=>rfl
 |v::vs,c::cs,h=>by rw[Ak4,List.flatten_cons,IE.flat h.2,h.1]
theorem IE.size {n:Nat}: ∀{vs:List Value} {cs:List (List Value)},IE vs cs→I0 n cs=true→∀v∈vs,v.cells.size=n
 | [],[],_,_,_,hv=>by cases hv
 |u::vs,c::cs,h,hl,v,hv=>by
  simp only[I0,Aks,Nat.beq_eq]at hl;rcases Ak1.1 hv with rfl|hv
  ·rw[h.1]; simpa using hl.1
  ·exact IE.size h.2 hl.2 v hv
section
variable {ρ:Option Nat}{P:Program}{N:Nat}{D:Dw}{ops:Array Oper}{rest:List Oper}{Q:DJ}{f:Fr}{w w':World}{v:Value}
variable {dst:Option Nat}{ty t t' t2:TypeId}{pos:String}{af:Array Edge}{x y c a b:Operand}{m:Mem}{As:List Ow}
theorem XQ {e:TypeId}{sz n:Nat}{z:Value}{parts:List Operand}{vs:List Value}{cls:List (List Value)}(hS:St m As w)(ht:P.underlying t=some (.slice e))(hs: ∀w,(sizeOf e).run P w= .ok sz w)(hz: ∀w,(zeroValue e).run P w= .ok z w)
  (hp:parts.map (ev f)=vs) (hc:IE vs cls) (hv:I0 sz cls=true) (hn:n=vs.length) (hb:n*sz≤16777216) (h0:1≤sz)
  (h: ∀v w',St m (row sz v cls.flatten n::As) w'→wpl ρ P N D ops rest Q (upo N f dst v) w'):
  wpl ρ P N D ops (⟨dst,.buildSlice t n ((parts.zipIdx 0).map fun p=>(p.2,p.1)).toArray,ty,pos,af,none⟩::rest) Q f w:=
 s_litO hS ht hs hz hp (hc.size hv) hn hb h0 (by rw[hc.flat]; exact h)
end
section
variable {ρ:Option Nat}{P:Program}{N:Nat}{D:Dw}{ops:Array Oper}{rest:List Oper}{Q:DJ}{f:Fr}{w w':World}{v:Value}
variable {dst:Option Nat}{ty t t' t2:TypeId}{pos:String}{af:Array Edge}{x y c a b:Operand}{m m':Mem}{As:List Ow}
theorem s_addB {m n:UInt8}(hx:ev f x=vB m)(hy:ev f y=vB n)(h:wpl ρ P N D ops rest Q (upo N f dst (vB (m+n))) w):
  wpl ρ P N D ops (⟨dst,.binOp .add t x y t',ty,pos,af,none⟩::rest) Q f w:=
 Hg hx hy (by simp only[binOp,Op.intArith,ne_eq,not_true_eq_false,if_false,AkK,PR,vB,UInt8.toNat_add]; rfl) h
theorem s_mulB {m n:UInt8}(hx:ev f x=vB m)(hy:ev f y=vB n)(h:wpl ρ P N D ops rest Q (upo N f dst (vB (m*n))) w):
  wpl ρ P N D ops (⟨dst,.binOp .mul t x y t',ty,pos,af,none⟩::rest) Q f w:=
 Hg hx hy (by simp only[binOp,Op.intArith,ne_eq,not_true_eq_false,if_false,AkK,PR,vB,UInt8.toNat_mul]; rfl) h
theorem s_subB {m n:UInt8}(hx:ev f x=vB m)(hy:ev f y=vB n)(h:wpl ρ P N D ops rest Q (upo N f dst (vB (m-n))) w):
  wpl ρ P N D ops (⟨dst,.binOp .sub t x y t',ty,pos,af,none⟩::rest) Q f w:=
 Hg hx hy (by
  simp only[binOp,Op.intArith,ne_eq,not_true_eq_false,if_false,AkK,PR,vB,UInt8.toNat_sub];have:=m.toNat_lt; have:=n.toNat_lt;congr 2; omega) h
theorem s_addW {m n:UInt32}(hx:ev f x=vW m)(hy:ev f y=vW n)(h:wpl ρ P N D ops rest Q (upo N f dst (vW (m+n))) w):
  wpl ρ P N D ops (⟨dst,.binOp .add t x y t',ty,pos,af,none⟩::rest) Q f w:=
 Hg hx hy (by simp only[binOp,Op.intArith,ne_eq,not_true_eq_false,if_false,AkK,TX,vW,UInt32.toNat_add]; rfl) h
theorem UI {b off n k sz:Nat}{hi:Option Operand}{e:TypeId}(hx:ev f x=pt b off)(hu:P.underlying t=some (.array n e))(hs: ∀w,(sizeOf e).run P w= .ok sz w)
  (hh:(hi.map (ev f)=none∧k=n)∨∃j,hi.map (ev f)=some (.int j k)) (hle:k≤n) (h:wpl ρ P N D ops rest Q (upo N f dst (.slice (some ⟨b,off,none⟩) k n)) w):
  wpl ρ P N D ops (⟨dst,.slice t x none hi none,ty,pos,af,none⟩::rest) Q f w:=by
 refine Aq (v:= .slice (some ⟨b,off,none⟩) k n) (w':=w) rfl (fun _ e=>by cases e) ?_ h;have hb: ∀w,(Instr.sliceBounds false n n none (hi.map (ev f)) none).run P w= .ok (0,k,n) w:=by
  intro w;have h2:(k:Int)≤(n:Int):=by omega
  have h1:(0:Int)≤(k:Int):=by omega
  rcases hh with ⟨e,rfl⟩|⟨j,e⟩<;>rw[e]<;>simp[Instr.sliceBounds,Instr.sliceBound,asIntOf,h1,h2,hle]
 simp only[execOp,hx,Instr.sliceAt,AkJ,AkD hu,AkF,Instr.sureAddr,AkK,Option.map_none,hb,hs];by_cases h0:n=0
 ·simp[h0]
 ·simp[Eg]
theorem Aix {b off n k c:Nat}{e:TypeId}(hx:ev f x= .slice (some ⟨b,off,none⟩) k c)(hu:P.underlying t=some (.array n e))(hn:n≤k)(h:wpl ρ P N D ops rest Q (upo N f dst (pt b off)) w):
  wpl ρ P N D ops (⟨dst,.sliceToArrayPointer t x,ty,pos,af,none⟩::rest) Q f w:=by
 refine Aq (v:=pt b off) (w':=w) rfl (fun _ e=>by cases e) ?_ h;simp only[execOp,hx,Instr.arrayAt,AkJ,AkD hu,AkF];rw[Aky (by omega)]; simp
theorem Afy {ds:List Nat}{F g:Fr}(h:Out ds F g:=by repeat (first|with_reducible exact Out.refl|((with_reducible refine Out.uq ?_ ?_); rotate_left; exact rfl)|((with_reducible refine Out.hv ?_ ?_); rotate_left; exact rfl)|((with_reducible refine Out.upsC ?_ ?_); rotate_left; exact rfl)|with_reducible refine Out.ups0 ?_|with_reducible refine Out.none ?_)):Out ds F g:=h
abbrev RowS {α:Type} [GoT α](M:Mem)(X:List Ow)(sz:Nat)(v:Value)(xs:List α):Prop:= ∃cs,X=[row sz v cs xs.length]∧DU M cs xs
theorem RowS.up {α:Type} [GoT α]{M M':Mem}{X:List Ow}{sz:Nat}{v:Value}{xs:List α}(l:M≤M')(h:RowS M X sz v xs):RowS M' X sz v xs:=let ⟨cs,e,r⟩:=h; ⟨cs,e,DU.up l r⟩
def AllO (p:Nat→Oper→Prop):Nat→Nat→List Oper→Prop
 |0,_,_=>True
 |_+1,_,[]=>True
 |k+1,i,o::l=>p i o∧AllO p k (i+1) l
theorem AllO.at {p:Nat→Oper→Prop}{k:Nat}: ∀{i:Nat} {l:List Oper},AllO p k i l→∀{j:Nat} {o:Oper},j<k→l[j]? =some o→p (i+j) o:=by
 induction k with
 |zero=>intro i l _ j o h; omega
 |succ k ih=>
  intro i l h j o hj ho;cases l with
  |nil=>simp at ho
  |cons a l=>
   cases j with
   |zero=>simp at ho; subst ho; exact h.1
   |succ j=>have:=ih h.2 (j:=j) (o:=o) (by omega) (by simpa using ho); rw[show i+(j+1)=i+1+j from by omega]; exact this
def ZE:Value→Bool
 | .slice none _ _=>true
 |_=>false
theorem SlR.nilOf {α:Type} [GoT α]{xs:List α}(h:SlR m v xs)(hn:ZE v=true):xs=[]:=by
 obtain⟨cs,⟨_,_,⟨h0,_⟩|⟨b,off,cap,l,e,fr,rfl,_⟩⟩,_⟩:=h
 ·exact List.eq_nil_of_length_eq_zero h0
 ·cases hn
theorem s_mark {i n:Nat}{cs:List Value}{e:TypeId}(hS:St m As w)(hx:ev f x=v)(hA:As[i]? =some (row 1 v cs n))(hn:1≤n)(ht:P.underlying t=some (.slice e))(he:P.underlying e=some (.int .u8))
  (h: ∀w',St m (As.set i (row 1 v cs n)) w'→wpl ρ P N D ops rest Q (upo N f dst v) w'):
  wpl ρ P N D ops (⟨dst,.convert t t x,ty,pos,af,none⟩::rest) Q f w:=by
 obtain⟨q,ha,hg,_,back⟩:=hS.take hA;rcases ha with ⟨_,_,h0,_⟩|⟨b,cap,l,e',fr,rfl,rfl,hcl,htk,hls,hnc,hcm,hfr⟩
 ·omega
 ·have hb:=PH.agree_one.1 hg;have hlt:=(AkM.1 hb).1;obtain⟨lo,hi⟩:=fr;have hw:w.freeze ⟨b,l.size,none⟩ 1={w with heap:=w.heap.setIfInBounds b (.cells l e' (if lo==hi then(l.size,l.size+1)else(min lo l.size,max hi (l.size+1))))}:=by
   have hbg:w.heap[b]= .cells l e' (lo,hi):=(AkM.1 hb).2;simp only[World.freeze];rw[Aky (by omega)];congr 1;apply Array.ext_getElem?;intro k;rw[Array.getElem?_modify,Array.getElem?_setIfInBounds];by_cases hk:b=k
   ·subst hk; simp[hlt,hbg]
   ·simp[hk]
  have hrun:(convert t t (.slice (some ⟨b,0,none⟩) n cap)).run P w= .ok (.slice (some ⟨b,0,none⟩) n cap) (w.freeze ⟨b,l.size,none⟩ 1):=by
   simp[convert,AkD ht,AkD he,markStringish,World.shape?,hb]
  refine Aq (v:= .slice (some ⟨b,0,none⟩) n cap) (w':=w.freeze ⟨b,l.size,none⟩ 1) rfl (fun _ e=>by cases e) (by simp only[execOp,hx,hrun]; simp[hrun]) ?_ ?_
  ·refine h _ (back _ (PH.one b (.cells l e' (if lo==hi then(l.size,l.size+1)else(min lo l.size,max hi (l.size+1))))) _ (.inr ⟨b,cap,l,e',_,rfl,rfl,hcl,htk,hls,hnc,hcm,?_⟩) ?_ ?_ ?_ (by rw[hw]) (by rw[hw]) (by rw[hw]) (fun _=> .one CI))
   ·refine⟨?_,.inr rfl⟩;split
    ·right; exact AkC _
    ·rename_i hne;rcases hfr.1 with h|h
     ·exact absurd (by simpa using h) hne
     ·right; show l.size≤min lo l.size; have:l.size≤lo:=h; omega
   ·intro k hk; left; simp only[PH.one]at hk⊢;by_cases e:k=b
    ·rw[AkA e]; simp
    ·rw[Aky e]at hk; exact absurd rfl hk
   ·rw[PH.agree_one,hw]; simp[hlt]
   ·intro k _ hk; simp only[PH.one]at hk;split at hk
    ·cases hk
    ·rename_i hne; rw[hw,Array.getElem?_setIfInBounds_ne (by omega)]
  ·exact Kd.set hb CI (by rw[hw])
theorem Qt.clo {k:FuncId}{pre caps vs all:List Value}{R:Value→World→Prop}(hk: ∀(args:Array Value) w,(callFunc k args).run P w= .ok (.enter k args) w)(ha:pre++vs++caps=all)(hc:Ft P k all.toArray w R):
  Qt P (.func (.func k) pre.toArray caps.toArray) vs w R:=
 .inl ⟨k,pre.toArray,caps.toArray,rfl,hk,by rw[show pre.toArray++vs.toArray++caps.toArray=all.toArray from by rw[←ha]; simp]; exact hc⟩
theorem ff {C:Prop}(h:false=true):C:=by cases h
end
def noG (Q:DJ):DJ
 | .goto _,_,_=>False
 |e,f,w=>Q e f w
section
variable {ρ:Option Nat}{P:Program}{N:Nat}{D:Dw}{Q:DJ}{f:Fr}{w:World}
theorem scN (h:Q .normal f w):noG Q .normal f w:=h
theorem scE {id:Nat}(h:Q (.exit id) f w):noG Q (.exit id) f w:=h
theorem scR (h:Q .ret f w):noG Q .ret f w:=h
theorem Abg {c:Code}(h:wpc ρ P N D c (noG Q) f w):wpc ρ P N D (.scope c) Q f w:=by
 intro a ha b k cs hro hb hr;obtain⟨e,a1,w1,⟨f1,s1,hq⟩,harr⟩:=h a ha b (.inScope c::k) cs hro hb hr;have s0:StepsIn (Machine.fenced P (FW ρ)) P (lone (b.atR a (.code (.scope c)::k)) cs w) (lone (b.atR a (.code c:: .inScope c::k)) cs w):=
  .one (fenced_calm hb hr rfl) (step_lone_go (by simp[stepG,stepG.exec,Frame.atR]))
 cases e with
 |normal=>exact⟨.normal,a1,w1,⟨f1,s1,hq⟩,StepsIn.trans (StepsIn.trans s0 harr) (.one (fenced_calm (fr:=b.atR a1 (.inScope c::k)) hb hr rfl) (step_lone_go (by simp[stepG,stepG.exec,Frame.atR])))⟩
 |exit id=>exact⟨.exit id,a1,w1,⟨f1,s1,hq⟩,.of_steps s0 ⟨fun k' hk=>harr.1 k' (by simpa[exitTo]using hk),fun h0 hk=>harr.2 h0 (by simpa[exitTo]using hk)⟩⟩
 |goto l=>exact hq.elim
 |ret=>exact⟨_,a1,w1,⟨f1,s1,hq⟩,.of_steps s0 ⟨harr.1,fun h=>by obtain⟨k1,hk⟩:=harr.2 h; exact⟨_,hk⟩⟩⟩
 |panic ch=>exact⟨_,a1,w1,⟨f1,s1,hq⟩,.of_steps s0 harr⟩
 |outgrown=>exact⟨_,a1,w1,⟨f1,s1,hq⟩,.of_steps s0 harr⟩
end
structure Th where
 fn:FuncId
 tmps:Array Value
 params:Array Tmp
 assign:Code
 body:Code
 defers:Nat
def Th.obj (i:Th)(st:LoopState)(j:Option Code):Obj:= .loop {state:=st,pending:=j,fn:=i.fn,tmps:=i.tmps,params:=i.params,assign:=i.assign,body:=i.body,defers:=i.defers}
def Lp (l:Nat)(i:Th)(st:LoopState)(j:Option Code):Ow:=blk l (i.obj st j)
theorem Th.nd {i:Th}{st:LoopState}{j:Option Code}:i.obj st j≠dfr:=fun h=>by cases h
def upz (N:Nat)(f:Fr):List Nat→List Value→Fr
 |t::ts,v::vs=>upz N (up N f t v) ts vs
 |_,_=>f
theorem Ais {N:Nat}(ts:List Nat): ∀(vs:List Value) (tmps:Array Value) (f:Fr),Sim N {tmps:=tmps,defers:=[]} f→
  Sim N {tmps:=(ts.zip vs).foldl (fun tmps (p:Nat×Value)=>tmps.setIfInBounds p.1 p.2) tmps,defers:=[]} (upz N f ts vs):=by
 induction ts with
 |nil=>intro vs tmps f h; simpa[upz]using h
 |cons t ts ih=>
  intro vs tmps f h;cases vs with
  |nil=>simpa[upz]using h
  |cons v vs=>
   simp only[List.zip_cons_cons,List.foldl_cons,upz];exact ih vs _ _ (h.put (some t) v)
structure Th.Ok (i:Th)(N:Nat)(f:Fr)(ps:List Nat)(assign body:Code):Prop where
 sim:Sim N {tmps:=i.tmps,defers:=[]} f
 params:i.params=ps.toArray
 assign:i.assign=assign
 body:i.body=body
section
variable {ρ:Option Nat}{P:Program}{N:Nat}{D:Dw}{Q:DJ}{f:Fr}{w w':World}{v:Value}{m m':Mem}{As Bs:List Ow}
theorem St.lp {l k:Nat}{i:Th}{st:LoopState}{j:Option Code}(h:St m As w)(hk:As[k]? =some (Lp l i st j)):w.heap[l]? =some (i.obj st j):=h.blk hk
theorem St.lpPut {l:Nat}{i:Th}{st st':LoopState}{j j':Option Code}(h:St m (Lp l i st j::As) w):St m (Lp l i st' j'::As) (w.putObj l (i.obj st' j')):=
 St.put h (i:=0) rfl _ _ rfl rfl rfl rfl Th.nd
theorem Kd.lp {l:Nat}{i:Th}{st:LoopState}{j:Option Code}{o:Obj}(h:w.heap[l]? =some (i.obj st j)):Kd w (w.putObj l o):=Kd.set h Th.nd rfl
def roundF (l:Nat)(i:Th)(R:Bool→World→Prop):DJ
 | .normal,_,w=> ∃M Bs,St M (Lp l i .busy none::Bs) w∧∀w',St M (Lp l i .ready none::Bs) w'→R true w'
 | .ret,_,w=> ∃M Bs,St M (Lp l i .busy none::Bs) w∧∀w',St M (Lp l i .done (some .ret)::Bs) w'→R false w'
 | .exit id,_,w=> ∃M Bs,St M (Lp l i .busy none::Bs) w∧∀w',St M (Lp l i .done (some (.exit id))::Bs) w'→R false w'
 |_,_,_=>False
theorem OG {l:Nat}{i:Th}(j:Option Code)(h:w.heap[l]? =some (i.obj .busy none)):
  (Instr.endRound l j).run P w= .ok (.bool j.isNone) (w.putObj l (i.obj (if j.isNone then .ready else .done) j)):=by
 have:=run_endRound (P:=P) j h;exact this
theorem Qt.round {l:Nat}{i:Th}{ps:List Nat}{assign body:Code}{vs:List Value}{R:Value→World→Prop}(hi:i.Ok N f ps assign body)(hl:vs.length=ps.length)(S:St m (Lp l i .ready none::As) w)
  (h:wpc (some l) P N (w,[],false) assign (J2 (fun f1 w1=> ∃M Bs,St M (Lp l i .ready none::Bs) w1∧∀w2,St M (Lp l i .busy none::Bs) w2→wpc (some l) P N (w,[],false) body (roundF l i fun b w3=>R (.bool b) w3) f1 w2) (fun _ _ _=>False)) (upz N f ps vs) w):
  Qt P (.func (.yield l) #[] #[]) vs w R:=by
 obtain⟨fn,tmps,params,as',bo',dd⟩:=i;obtain⟨sim,e1,e2,e3⟩:=hi;simp only at sim e1 e2 e3;subst e1 e2 e3;have hw:=S.lp (k:=0) rfl;have hy:=run_yield (P:=P) (args:=vs.toArray) hw (by simp[hl]);refine .inr ⟨l,_,_,_,_,rfl,hy,?_⟩;refine roundIn_of_wpIn trivial ?_;have hz:(ps.toArray.zip vs.toArray).foldl (fun tmps (t,a)=>tmps.setIfInBounds t a) tmps=(ps.zip vs).foldl (fun tmps (p:Nat×Value)=>tmps.setIfInBounds p.1 p.2) tmps:=by
  simp
 simp only[hz];refine wpIn_mono (h _ ⟨Ais ps vs tmps f sim,Okd.nil rfl⟩) ?_;rintro e a1 w1 ⟨f1,⟨s1,ok1⟩,q⟩;cases e with
 |normal=>
  obtain⟨M,Bs,S1,hb⟩:=q;have h1:=S1.lp (k:=0) rfl;refine⟨_,run_beginRound h1 rfl,?_⟩;have S2:St M (Lp l _ .busy none::Bs) _:=S1.lpPut;have k1:Kd w1 _:=Kd.lp h1 (o:=Th.obj ⟨fn,tmps,ps.toArray,as',bo',dd⟩ .busy none);refine wpIn_mono (hb _ S2 a1 ⟨s1,ok1.up k1⟩) ?_
  ·rintro e a3 w3 ⟨f3,⟨s3,ok3⟩,q⟩;cases e with
   |normal=>
    obtain⟨M3,Bs3,S3,hR⟩:=q;have h3:=S3.lp (k:=0) rfl;exact⟨_,_,OG none h3,_,rfl,ok3.keep.tr (Kd.lp h3),hR _ S3.lpPut⟩
   |ret=>
    obtain⟨M3,Bs3,S3,hR⟩:=q;have h3:=S3.lp (k:=0) rfl;exact⟨_,_,OG (some .ret) h3,_,rfl,ok3.keep.tr (Kd.lp h3),hR _ S3.lpPut⟩
   |exit id=>
    obtain⟨M3,Bs3,S3,hR⟩:=q;have h3:=S3.lp (k:=0) rfl;exact⟨_,_,OG (some (.exit id)) h3,_,rfl,ok3.keep.tr (Kd.lp h3),hR _ S3.lpPut⟩
   |goto l=>exact q.elim
   |panic ch=>exact q.elim
   |outgrown=>exact q.elim
 |exit id=>exact q.elim
 |goto l=>exact q.elim
 |ret=>exact q.elim
 |panic ch=>exact q.elim
 |outgrown=>exact q.elim
def Ahh (ρ:Option Nat)(P:Program)(N:Nat)(D:Dw)(Q:DJ)(f:Fr)(l:Nat)(i:Th)(m:Mem):Value→World→Prop:=fun _ w2=> ∃M st j Bs,m≤M∧st≠ .busy∧St M (Lp l i st j::Bs) w2∧∀M' w3,M≤M'→St M' Bs w3→(match j with|none=>Q .normal f w3|some c=>wpc ρ P N D c Q f w3)
theorem Acj {l:Nat}{i:Th}{a:Act}{Q:DJ}{f:Fr}{D:Dw}{w0 w2:World}{v:Value}(hs:Sim N a f)(ok:Okd D a w0)(k:Kd w0 w2)(h:Ahh ρ P N D Q f l i m v w2):rangePost (FW ρ) 0 P l (Zz N D Q) a (.returned v) w2:=by
 obtain⟨M,st,j,Bs,_,hb,S,hq⟩:=h;have h2:=S.lp (k:=0) rfl;obtain⟨M',le,S'⟩:=(S.lpPut (st':= .exhausted) (j':=j)).drop 0;have k2:=k.tr (Kd.lp h2 (o:=i.obj .exhausted j));have hq':=hq M' _ le S';refine⟨j,_,run_endLoop (P:=P) h2 hb,?_⟩;cases j with
 |none=>exact⟨f,⟨hs,ok.up k2⟩,hq'⟩
 |some c=>exact hq' a ⟨hs,ok.up k2⟩
theorem T5 {g:Operand}{ps:List Nat}{assign body:Code}{gf:FuncId}{caps:List Value}(hS:St m As w)(hg:ev f g= .func (.func gf) #[] caps.toArray)(eg: ∀(args:Array Value) w,(callFunc gf args).run P w= .ok (.enter gf args) w)
  (h: ∀l i w1,Th.Ok i N f ps assign body→St m (Lp l i .ready none::As) w1→Ft P gf (.func (.yield l) #[] #[]::caps).toArray w1 (Ahh none P N D Q f l i m)) (hD:D.2.2=false:=by rfl):
  wpc none P N D (.rangeFunc g ps.toArray assign body) Q f w:=fun a ha=>by
 refine wpIn_rangeFunc ?_;intro fn hfn;have S1:=hS.push (.loop {state:= .ready,pending:=none,fn,tmps:=a.tmps,params:=ps.toArray,assign,body,defers:=w.heap.size}) (fun h=>by cases h);have hS1:St m (Lp (w.heap.size+1) ⟨fn,a.tmps,ps.toArray,assign,body,w.heap.size⟩ .ready none::As) ((w.alloc (.deferred (some []))).alloc (.loop {state:= .ready,pending:=none,fn,tmps:=a.tmps,params:=ps.toArray,assign,body,defers:=w.heap.size})):=by
  have hS0:St m As (w.alloc (.deferred (some []))):=by
   obtain⟨x,s,d,g,g',n⟩:=hS.own;have keep: ∀(p:PH),p.agree w→p.agree (w.alloc (.deferred (some []))):=fun p gp k y e=>by
    show(w.heap.push _)[k]? =_;rw[Array.getElem?_push,Aky (by have:=PH.lt_of_agree gp e; omega)]; exact gp k y e
   exact⟨hS.os,hS.tape,hS.output,x,s,d,keep _ g,keep _ g',n⟩
  have:=hS0.push (.loop {state:= .ready,pending:=none,fn,tmps:=a.tmps,params:=ps.toArray,assign,body,defers:=w.heap.size}) (fun h=>by cases h);rw[World.size_alloc]at this;exact this
 have hc:=h _ ⟨fn,a.tmps,ps.toArray,assign,body,w.heap.size⟩ _ ⟨⟨ha.1.size,ha.1.at_⟩,rfl,rfl,rfl⟩ hS1;have k1:Kd w ((w.alloc (.deferred (some []))).alloc (.loop {state:= .ready,pending:=none,fn,tmps:=a.tmps,params:=ps.toArray,assign,body,defers:=w.heap.size})):=(Kd.push _ _).tr (Kd.push _ _);refine⟨w.heap.size+1,[mark w.heap.size],((w.alloc (.deferred (some []))).alloc (.loop {state:= .ready,pending:=none,fn,tmps:=a.tmps,params:=ps.toArray,assign,body,defers:=w.heap.size})),{target:= .fn (.func gf) caps.toArray,args:= #[.func (.yield (w.heap.size+1)) #[] #[]]},((w.alloc (.deferred (some []))).alloc (.loop {state:= .ready,pending:=none,fn,tmps:=a.tmps,params:=ps.toArray,assign,body,defers:=w.heap.size})),gf,
  #[.func (.yield (w.heap.size+1)) #[] #[]]++caps.toArray,((w.alloc (.deferred (some []))).alloc (.loop {state:= .ready,pending:=none,fn,tmps:=a.tmps,params:=ps.toArray,assign,body,defers:=w.heap.size})),run_enterLoop_outer _ _ _ _ _,?_,fun _ _=>trivial,?_,(fun h=>by cases h),?_⟩
 ·simp only[resolve,ha.1.eval,rangeCall,hg];simp[go_sem];rfl
 ·simp[invoke,go_sem,eg]
 ·have e: #[Value.func (.yield (w.heap.size+1)) #[] #[]]++caps.toArray=(Value.func (.yield (w.heap.size+1)) #[] #[]::caps).toArray:=by simp
  rw[e];refine CallsIn.mono (Vs hc) ?_;rintro _ w2 ⟨v,rfl,k,hR⟩;obtain⟨E,hE,-,hn,hl⟩:=ha.2.marks;refine Acj (w0:=(w.alloc (.deferred (some []))).alloc (.loop {state:= .ready,pending:=none,fn,tmps:=a.tmps,params:=ps.toArray,assign,body,defers:=w.heap.size})) (a:={tmps:=a.tmps,defers:=[mark w.heap.size]++a.defers}) ⟨ha.1.size,ha.1.at_⟩ ⟨ha.2.keep.tr k1,w.heap.size::E,by simp[hE],(fun q=>by rw[hD]at q; cases q),?_,?_⟩ k hR
  ·refine List.nodup_cons.2 ⟨fun hm=> ?_,hn⟩;have:=(AkM.1 (hl _ hm).2).1; omega
  ·intro b hb;rcases Ak1.1 hb with rfl|hb
   ·refine⟨ha.2.keep.size,?_⟩;have:=(Kd.push (w.alloc (.deferred (some []))) (.loop {state:= .ready,pending:=none,fn,tmps:=a.tmps,params:=ps.toArray,assign,body,defers:=w.heap.size})).same w.heap.size (World.alloc_heap_new w _);exact this
   ·exact⟨(hl b hb).1,k1.same b (hl b hb).2⟩
end
def cl (v:Value)(j:Nat):Value:=match v with| .agg cs=>cs.toList.getD j undef|_=>undef
abbrev fv (u:Value):Mem→Value→Prop:=fun _ v=>v=u
theorem mt {a b c:Mem}(h:a≤b)(k:b≤c):a≤c:=Mem.tr h k
theorem cb {a b:Bool}(h:a=b):Value.bool a=Value.bool b:=Alc Value.bool h
theorem nb {a b:Nat}(h:Nat.ble a b=true):a≤b:=AkG h
section
variable {ρ:Option Nat}{P:Program}{N:Nat}{D:Dw}{Q Q':DJ}{f:Fr}{w:World}
theorem ws {id:Nat}{l:List Oper}{c:Code}(h:wpl ρ P N D l.toArray l (J2 (fun f w=>wpc ρ P N D c Q f w) Q) f w):wpc ρ P N D (.seq (.region id l.toArray false) c) Q f w:=C5 (A9 h)
theorem nx {id:Nat}{ops:Array Oper}{l:List Oper}{c:Code}(h:wpl ρ P N D l.toArray l (J2 (fun f w=>wpc ρ P N D c Q f w) Q) f w):wpl ρ P N D ops [] (J2 (fun f w=>wpc ρ P N D (.seq (.region id l.toArray false) c) Q f w) Q') f w:=Co (nrm (ws h))
end
section
variable {ρ:Option Nat}{P:Program}{N:Nat}{D:Dw}{Q:DJ}
variable {Ψ:(Nat→Bool)→Fr→Mem→World→Prop}{Fs:Aa4}{ds:List Nat}{f0:Fr}{m:Mem}{l:List Oper}{o:Oper}{i d:Nat}{φ A:Mem→Value→Prop}{v:Value}{c:Bool}
abbrev FlF (Fs:Aa4)(l:List Oper)(i:Nat)(R:Fr→Prop):Prop:= ∀{M f},(∀j,Adi l.toArray i j=true→AdA Fs j M f)→(∀k j,Adi l.toArray i k=true→Adi l.toArray k j=true→AdA Fs j M f)→R f
theorem FlF.at {R:Fr→Prop}{L:Nat→Bool}{f:Fr}{M:Mem}(h:FlF Fs l i R)(hd:Gb l.toArray L i=true)(hc: ∀k,L k=true→Gb l.toArray L k=true)(K: ∀j,L j=true→AdA Fs j M f):R f:=
 h (fun j hj=>K j (dep hd hj)) fun k j hk hj=>K j (dep (hc k (dep hd hk)) hj)
end
end Go.Gw
end
section
namespace Go.Gw
open Go Go.ChangeShapes Go.WideShapes Go.ChangeAt Go.RowKit
def Yd:Obj→Bool
 | .deferred (some [])=>true
 |_=>false
theorem Af0 {o:Obj}(h:Yd o=true):o=dfr:=by
 unfold Yd at h;split at h
 ·rfl
 ·cases h
def memOf (w:World):Mem:={heap:=fun k=>(w.heap[k]?).bind fun o=>bif Yd o then none else some o,os:=w.os,tape:=w.tape,output:=w.output}
theorem TF {w:World}{k:Nat}{o:Obj}(h:w.heap[k]? =some o)(hd:Yd o=false):(memOf w).heap k=some o:=by simp[memOf,h,hd]
theorem Zr {w:World}{k:Nat}{o:Obj}(h:(memOf w).heap k=some o):w.heap[k]? =some o∧Yd o=false:=by
 simp only[memOf]at h;cases e:w.heap[k]? with
 |none=>rw[e]at h; cases h
 |some x=>
  rw[e]at h;simp only[Option.bind_some]at h;cases hx:Yd x with
  |true=>rw[hx]at h; cases h
  |false=>rw[hx]at h; cases h; exact⟨rfl,hx⟩
theorem L4 {w:World}{k:Nat}{l:Array Value}{e:TypeId}{fr:Nat×Nat}(h:w.heap[k]? =some (.cells l e fr)):(memOf w).heap k=some (.cells l e fr):=TF h rfl
theorem St.of (w:World)(hG:GB (memOf w):=by exact⟨(fun p hp=>by cases hp),fun p hp=>by cases hp⟩):St (memOf w) [] w:=by
 refine⟨rfl,⟨rfl,hG⟩,rfl,PH.emp,rfl,PH.disj_emp _,fun k o h=>(Zr h).1,PH.agree_emp w,?_⟩;rw[PH.join_emp];intro b h;have:=(Zr h).2;cases this
section
variable {W W':World}{M:Mem}{As:List Ow}
theorem Adc (hle:memOf W≤M)(S:St M As W')(k:Kd W W'){i:Nat}{o:Obj}(h:W.heap[i]? =some o):W'.heap[i]? =some o:=by
 cases hd:Yd o with
 |true=>have:=Af0 hd; subst this; exact k.same i h
 |false=>exact S.mem (hle.heap i o (TF h hd))
theorem Va (hle:memOf W≤M)(S:St M As W')(k:Kd W W'){i:Nat}(h:i<W.heap.size):W'.heap[i]? =W.heap[i]? :=by
 obtain⟨o,ho⟩: ∃o,W.heap[i]? =some o:=⟨W.heap[i],by simp[h]⟩;rw[ho]; exact Adc hle S k ho
theorem AfY (hle:memOf W≤M)(S:St M As W')(k:Kd W W')(may:MemPlace→Prop):W.keptBut W' may:=by
 refine⟨S.os.trans hle.os,S.output.trans hle.output,fun i hi=> ?_⟩;rw[Va hle S k hi];obtain⟨o,ho⟩: ∃o,W.heap[i]? =some o:=⟨W.heap[i],by simp[hi]⟩;rw[ho];cases o<;>first|exact⟨rfl,rfl,rfl,fun _ _=>rfl⟩|exact .inr ⟨rfl,rfl⟩|rfl
theorem Ajr (hle:memOf W≤M)(S:St M As W')(k:Kd W W'){p:MemPlace}(hp:p.block<W.heap.size):W.sameAt W' p:=by
 cases p with
 |cell b off=>show W'.cell? _=W.cell? _; simp only[World.cell?]; rw[Va hle S k (show b<W.heap.size from hp)]
 |map b=>exact Va hle S k (show b<W.heap.size from hp)
theorem Ya (hle:memOf W≤M)(S:St M As W')(k:Kd W W'){b off:Nat}(hp:b<W.heap.size):W'.frozen? ⟨b,off,none⟩=W.frozen? ⟨b,off,none⟩:=by
 simp only[World.frozen?]; rw[Va hle S k hp]
end
class Rd (P:Program) (t:TypeId) (α:Type) [GoT α]:Prop where
 rd: ∀{H:Type} {enc:TypeId×Value→H} {w:World} {sp:Nat→Bool} {fuel:Nat} {cs:List Value} {x:DataW H×List MemPlace},DataW.trod enc P w 0 sp true fuel t cs=some x→∃a:α,GoT.rep (memOf w) cs a
theorem Rd.int {P:Program}{t:TypeId}(h:P.underlying t=some (.int .i64)):Rd P t Int:=⟨fun hx=>by
 obtain⟨n,rfl,_,_⟩:=DataW.trod_int h hx; exact⟨n,rfl⟩⟩
theorem Rd.bool {P:Program}{t:TypeId}(h:P.underlying t=some .bool):Rd P t Bool:=⟨fun hx=>by
 obtain⟨n,rfl,_⟩:=DataW.trod_bool h hx; exact⟨n,rfl⟩⟩
theorem Rd.u64 {P:Program}{t:TypeId}(h:P.underlying t=some (.int .u64)):Rd P t UInt64:=⟨fun hx=>by
 obtain⟨n,rfl,_,hw⟩:=DataW.trod_int h hx;simp only[Lit.wf,Aks,AkH]at hw;have h0:0≤n:=hw.1;have h1:n≤18446744073709551615:=hw.2;refine⟨UInt64.ofNat n.toNat,?_⟩;show [Value.int .u64 n]=[vU _];simp only[vU,UInt64.toNat_ofNat'];congr 2; omega⟩
theorem Rd.u8 {P:Program}{t:TypeId}(h:P.underlying t=some (.int .u8)):Rd P t UInt8:=⟨fun hx=>by
 obtain⟨n,rfl,_,hw⟩:=DataW.trod_int h hx;simp only[Lit.wf,Aks,AkH]at hw;have h0:0≤n:=hw.1;have h1:n≤255:=hw.2;refine⟨UInt8.ofNat n.toNat,?_⟩;show [Value.int .u8 n]=[vB _];simp only[vB,UInt8.toNat_ofNat'];congr 2; omega⟩
structure AeG (P:Program)(fs:List Field)(off:Nat)(α:Type) [GoT α]:Prop where
 rd: ∀{H:Type} {enc:TypeId×Value→H} {w:World} {sp:Nat→Bool} {fuel:Nat} {cs:List Value},(∀f,f∈fs→∃x,DataW.trod enc P w 0 sp true fuel f.type ((cs.drop f.offset).take (P.cellsOf f.type))=some x)→cs.length=off+GoT.sz α→∃a:α,GoT.rep (memOf w) (cs.drop off) a
theorem AeG.last {P:Program}{f:Field}{off:Nat}{α:Type} [GoT α](ho:f.offset=off)(R:Rd P f.type α)(hs:P.cellsOf f.type=GoT.sz α):AeG P [f] off α:=⟨fun {H enc w sp fuel cs} h hl=>by
 obtain⟨x,hx⟩:=h f (by simp);rw[ho,hs,Ak5 (by simp; omega)]at hx;exact R.rd hx⟩
theorem AeG.more {P:Program}{f:Field}{fs:List Field}{off:Nat}{α β:Type} [GoT α] [GoT β](ho:f.offset=off)(R:Rd P f.type α)(hs:P.cellsOf f.type=GoT.sz α)(Rs:AeG P fs (off+GoT.sz α) β):AeG P (f::fs) off (α×β):=⟨fun {H enc w sp fuel cs} h hl=>by
 obtain⟨x,hx⟩:=h f (by simp);rw[ho,hs]at hx;obtain⟨a,ha⟩:=R.rd hx;obtain⟨b,hb⟩:=Rs.rd (fun g hg=>h g (by simp[hg])) (by rw[hl]; show off+(GoT.sz α+GoT.sz β)=_; omega);refine⟨(a,b),_,_,?_,ha,hb⟩;rw[←All,List.take_append_drop]⟩
theorem Rd.struct {P:Program}{t:TypeId}{fs:Array Field}{α β:Type} [GoT α] [GoT β](h:P.underlying t=some (.struct fs))(Rs:AeG P fs.toList 0 β)(ht:P.cellsOf t=GoT.sz β)(mk:β→α)(hm: ∀{m:Mem} {cs:List Value} {b:β},GoT.rep m cs b→GoT.rep m cs (mk b)):Rd P t α:=⟨fun {H enc w sp fuel cs x} hx=>by
 obtain⟨xs,n,_,_,hl,hn,hi⟩:=DataW.trod_struct h hx;obtain⟨b,hb⟩:=Rs.rd (cs:=cs) (fun f hf=>by
  obtain⟨i,hi'⟩:=List.getElem?_of_mem hf;have hi2:fs[i]? =some f:=by simpa using hi'
  have hlt:i<xs.length:=by
   have:=(AkM.1 hi2).1; omega
  exact⟨xs[i],by rw[hi i f hi2]; simp[hlt]⟩) (by rw[hl,ht]; omega)
 exact⟨mk b,hm (by simpa using hb)⟩⟩
theorem Rd.str {P:Program}{t:TypeId}(h:P.underlying t=some .string):Rd P t ByteArray:=⟨fun hx=>by
 obtain⟨s,rfl,_,_⟩:=DataW.trod_string h hx; exact⟨s,rfl⟩⟩
theorem Vr {w:World}{a:Addr}{n:Nat}{cs:List Value}(h:w.cells? 0 a n=some cs):cs.length=n∧∀i v,cs[i]? =some v→w.cell? (a.add i)=some v:=by
 unfold World.cells? at h;rw[AkA (Als _)]at h;have hl:=Lib.mapM_length h;simp at hl;refine⟨hl,fun i v hv=> ?_⟩;have hi:i<n:=by
  have:=(AkR.1 hv).1; omega
 obtain⟨b,hb,hf⟩:=Lib.mapM_at h i i (by simp[hi]);rw[hv]at hb; cases hb; exact hf
theorem DU.build {α:Type} [GoT α]{m:Mem}{n:Nat}{g:Nat→List Value}: ∀(k:Nat),(∀i,i<k→∃a:α,GoT.rep m (g i) a)→∃(cs:List Value) (xs:List α),DU m cs xs∧xs.length=k∧cs=((List.range k).map g).flatten:=by
 intro k;induction k with
 |zero=>intro _; exact⟨[],[],rfl,rfl,rfl⟩
 |succ k ih=>
  intro h;obtain⟨cs,xs,hr,hl,hc⟩:=ih fun i hi=>h i (by omega);obtain⟨a,ha⟩:=h k (by omega);refine⟨cs++g k,xs++[a],hr.append ⟨g k,[],by simp,ha,rfl⟩,by simp[hl],?_⟩;rw[List.range_succ,Ak3,List.flatten_append,←hc];simp
theorem Rd.slice {P:Program}{t e:TypeId}{α:Type} [GoT α](h:P.underlying t=some (.slice e))(he:Rd P e α)(hs:P.cellsOf e=GoT.sz α)(h1:1≤GoT.sz α):Rd P t (List α):=⟨fun hx=>by
 rename_i w sp fuel cs x;rcases DataW.trod_slice h hx with ⟨rfl,_⟩|⟨a,len,cap,elems,rest,n,_,rfl,_,_,hlc,hcm,hel,hi,_,_⟩
 ·exact⟨[],_,rfl,SlR.nil⟩
 ·rw[hs]at hi;by_cases h0:len=0
  ·subst h0; exact⟨[],_,rfl,SlR.nil⟩
  ·have hcell: ∀i,i<len→∃c,w.cells? 0 (a.add (i*GoT.sz α)) (GoT.sz α)=some c∧∃q:α,GoT.rep (memOf w) c q:=fun i hil=>by
    have:=hi i hil;have hsome:elems[i]? =some elems[i]:=by simp
    rw[hsome]at this;obtain⟨c,hc,ht⟩:=Option.bind_eq_some_iff.1 this;exact⟨c,hc,he.rd ht⟩
   obtain⟨g,hg⟩: ∃g:Nat→List Value,∀i,i<len→w.cells? 0 (a.add (i*GoT.sz α)) (GoT.sz α)=some (g i)∧∃q:α,GoT.rep (memOf w) (g i) q:=
    ⟨fun i=>if hil:i<len then(hcell i hil).choose else [],fun i hil=>by simp only[dif_pos hil]; exact(hcell i hil).choose_spec⟩
   obtain⟨cs,xs,hr,hl,hc⟩:=DU.build (n:=len) (g:=g) len fun i hil=>(hg i hil).2;subst hl;refine⟨xs,_,rfl,cs,⟨?_,by simp only[maxLen]at hcm; omega,?_⟩,hr⟩
   ·exact hr.length
   ·right;obtain⟨hg0,_⟩:=hg 0 (by omega);obtain⟨hl0,hc0⟩:=Vr hg0;have hv0:w.cell? ((a.add (0*GoT.sz α)).add 0)=some (g 0)[0]:=hc0 0 _ (by simp);have ea:(a.add (0*GoT.sz α)).add 0=a:=by simp[Addr.add]
    rw[ea]at hv0;obtain⟨b,off,spot⟩:=a;simp only[World.cell?]at hv0;split at hv0
    ·rename_i l e' fr hb;cases spot with
     |some z=>simp at hv0
     |none=>
      refine⟨b,off,cap,l,e',fr,rfl,⟨hlc,by simp only[maxLen]at hcm; omega⟩,L4 hb,fun j v hj=> ?_⟩;have hjl:j<xs.length*GoT.sz α:=by
       have:=(AkR.1 hj).1;rw[hr.length]at this; exact this
      have hq:j/GoT.sz α<xs.length:=Nat.div_lt_of_lt_mul (by rwa [Alm]);obtain⟨hgj,_⟩:=hg _ hq;obtain⟨hlj,hcj⟩:=Vr hgj;have hm:j%GoT.sz α<GoT.sz α:=Alk _ (by omega);have hjj:cs[j]? =(g (j/GoT.sz α))[j%GoT.sz α]? :=by
       rw[hc];have key: ∀(k:Nat),(∀i,i<k→(g i).length=GoT.sz α)→∀j,j<k*GoT.sz α→(((List.range k).map g).flatten)[j]? =(g (j/GoT.sz α))[j%GoT.sz α]? :=by
        intro k;induction k with
        |zero=>intro _ j hj; omega
        |succ k ih=>
         intro hlen j hj;rw[List.range_succ,Ak3,List.flatten_append];have hlk:(((List.range k).map g).flatten).length=k*GoT.sz α:=by
          clear ih hj;induction k with
          |zero=>simp
          |succ k ih2=>rw[List.range_succ,Ak3,List.flatten_append,Akz,ih2 (fun i hi=>hlen i (by omega))]; simp[hlen k (by omega),Nat.succ_mul]
         by_cases hjk:j<k*GoT.sz α
         ·rw[List.getElem?_append_left (by omega)]; exact ih (fun i hi=>hlen i (by omega)) j hjk
         ·rw[List.getElem?_append_right (by omega),hlk];rw[Nat.succ_mul]at hj;have e1:j/GoT.sz α=k:=by
           apply Nat.div_eq_of_lt_le<;>first|omega|(rw[Nat.succ_mul]; omega)
          have e2:j%GoT.sz α=j-k*GoT.sz α:=by
           have:=Nat.div_add_mod j (GoT.sz α); rw[e1,Alm]at this; omega
          rw[e1,e2]; simp
       exact key _ (fun i hi=>(Vr (hg i hi).1).1) j hjl
      rw[hjj]at hj;have:=hcj _ v hj;simp only[World.cell?]at this;have e3:((⟨b,off,none⟩:Addr).add (j/GoT.sz α*GoT.sz α)).add (j%GoT.sz α)=⟨b,off+j,none⟩:=by
       have:=Nat.div_add_mod j (GoT.sz α);rw[Eg,Eg];congr 1;rw[Alm]at this; omega
      rw[e3]at this;simp only[hb]at this;simpa using this
    ·cases hv0⟩
theorem arr_of {c:Array Value}{l:List Value}(h:c.toList=l):c=l.toArray:=by rw[←h]
theorem Rd.openC {P:Program}{t:TypeId}{α:Type} [GoT α](R:Rd P t α){H:Type}{enc:TypeId×Value→H}{W:World}{sp:Nat→Bool}{v:Value}{d:DataW H}{ps:List MemPlace}(hc:v.cells= #[v])(h:DataW.Trod enc P W 0 sp true t v d ps): ∃a:α,GoT.rep (memOf W) [v] a:=by
 obtain⟨n,hn⟩:=h;rw[hc]at hn;exact R.rd hn
theorem Rd.openA {P:Program}{t:TypeId}{α:Type} [GoT α](R:Rd P t α){H:Type}{enc:TypeId×Value→H}{W:World}{sp:Nat→Bool}{cs:Array Value}{d:DataW H}{ps:List MemPlace}(h:DataW.Trod enc P W 0 sp true t (.agg cs) d ps): ∃a:α,GoT.rep (memOf W) cs.toList a:=by
 obtain⟨n,hn⟩:=h;exact R.rd hn
theorem Rd.openS {P:Program}{t:TypeId}{α:Type} [GoT α](R:Rd P t (List α)){H:Type}{enc:TypeId×Value→H}{W:World}{sp:Nat→Bool}{a:Option Addr}{l c:Nat}{d:DataW H}{ps:List MemPlace}(h:DataW.Trod enc P W 0 sp true t (.slice a l c) d ps): ∃xs:List α,SlR (memOf W) (.slice a l c) xs:=by
 obtain⟨xs,v,e,hs⟩:=R.openC rfl h;cases e;exact⟨xs,hs⟩
section
variable {H:Type}{enc:TypeId×Value→H}{P:Program}{W W':World}{M:Mem}
theorem Ux (hl:laidOutB P=true)(hle:memOf W≤M)(S:St M [] W')(k:Kd W W'): ∀{ts:List TypeId} {vs:List Value} {ds:List (DataW H)} {ps:List MemPlace},(ts.all fun t=>P.readableRec t&&decide (t<P.types.size))=true→
  DataW.TrodAll enc P W 0 (fun _=>true) true ts vs ds ps→(∀p∈ps,p.block<W.heap.size)→∀sp:Nat→Bool,(∀p∈ps,sp p.block=true)→DataW.TrodAll enc P W' 0 sp true ts vs ds ps:=by
 intro ts;induction ts with
 |nil=>intro vs ds ps _ h _ sp _; obtain⟨rfl,rfl,rfl⟩:=trodAll_nil h; exact trodAll_mk0
 |cons t ts ih=>
  intro vs ds ps hr h hlt sp hsp;obtain⟨v,vs,d,ds,p,q,rfl,rfl,rfl,h1,h2⟩:=trodAll_cons h;simp only[Alf,Aks,AkH]at hr;exact trodAll_cons_mk (WideElems.Trod_stays hl hr.1.1 hr.1.2 h1 (fun p hp=>Ajr hle S k (hlt p (by simp[hp]))) (fun p hp=>hsp p (by simp[hp])))
   (ih hr.2 h2 (fun p hp=>hlt p (by simp[hp])) sp (fun p hp=>hsp p (by simp[hp])))
theorem Acy {f:Func}{s:ChangeSpec}{args:Array Value}{ds:List (DataW H)}{before:List MemPlace}{tb:TypeId}(hl:laidOutB P=true)(hr:(f.params.toList.all fun t=>P.readableRec t&&decide (t<P.types.size))=true)
  (hv:s.vars=[]) (hres:f.resultTypes= #[tb]) (hb:P.underlying tb=some .bool)
  (hW:DataW.Whole enc P f.params.toList s.vars false W args.toList ds [] before) (hA:DataW.TrodAll enc P W 0 (fun _=>true) true f.params.toList args.toList ds before)
  (hs:(s.fn H ds).results=[.lit (.bool true)]) (ha:(s.fn H ds).args=ds) (hvs:(s.fn H ds).vars=[])
  (hle:memOf W≤M) (S:St M [] W') (k:Kd W W'):s.post enc P f false true false false W args (.bool true) W':=by
 have hlt: ∀p∈before,p.block<W.heap.size:=fun p hp=>hW.lt p hp;have hres': ∀(b:Nat) (sp:Nat→Bool) (hd:Bool),DataW.TrodAll enc P W' b sp hd f.resultTypes.toList ((Value.bool true).resultList f.resultTypes.size) [.lit (.bool true)] []:=fun b sp hd=>by
  rw[hres]; exact trodAll_cons_mk (shut_bool hb true) trodAll_mk0
 have hargs: ∀sp:Nat→Bool,(∀p∈before,sp p.block=true)→DataW.TrodAll enc P W' 0 sp true f.params.toList args.toList ds before:=fun sp hsp=>Ux hl hle S k hr hA hlt sp hsp;have hvars: ∀sp:Nat→Bool,DataW.TrodVars enc P W' sp s.vars [] []:=fun sp=>by rw[hv]; rfl
 have hold: ∀p∈before,(fun b=>decide (b<W.heap.size)) p.block=true:=fun p hp=>by simpa using hlt p hp
 refine⟨ds,[],before,[],before,[],hW,by rw[AkX,hs]; exact hres' _ _ _,by rw[AkX,ha]; exact hargs _ hold,by rw[AkX,hvs]; exact hvars _,World.keptBut_mono (fun p hp=>⟨hp,?_⟩) (AfY hle S k (·∈before)),fun _=> ?_⟩
 ·exact Or.inr (Or.inl hp)
 ·obtain⟨_,_,_,_,_,hz,hn⟩:=hW;refine⟨ok_one hres rfl (okWide_bool_mk hb _),_,_,([]++before)++[],⟨[]++before,[],trodAll_append (hargs _ (fun _ _=>rfl)) (hres' _ _ _),hvars _,rfl,?_,?_⟩,?_⟩
  ·intro b off hp;have hp':MemPlace.cell b off∈before:=by simpa using hp
   rw[Ya (b:=b) (off:=off) hle S k (show b<W.heap.size from hlt _ hp')];exact hz b off hp'
  ·intro ha;have:=hn ha;simpa using this
  ·intro p hp _;simpa using hp
end
end Go.Gw
end
