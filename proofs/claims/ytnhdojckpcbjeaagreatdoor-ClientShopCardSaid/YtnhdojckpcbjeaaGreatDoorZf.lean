/- Several texts, one behind the other. Conditions: none. -/
import Derived.Test.YtnhdojckpcbjeaaGreatDoorProg
import Derived.Test.YtnhdojckpcbjeaaGreatDoorZe
import Derived.KernelRfl
import Derived.Test.YtnhdojckpcbjeaaGreatDoorZd
set_option linter.unusedSimpArgs false
set_option linter.unusedVariables false
set_option maxHeartbeats 20000000
set_option maxRecDepth 100000
section
namespace Go.Ax
open Go Go.Gw
abbrev ag (l:List D):AV:= .agg (l.map dv)
abbrev sl {α:Type}(E:α→List D)(xs:List α):AV:= .d (.sl α E xs)
abbrev eI (n:Int):List D:=[.i n]
abbrev eU (n:UInt64):List D:=[.u n]
abbrev eB (n:UInt8):List D:=[.b n]
abbrev eS (n:ByteArray):List D:=[.s n]
abbrev eL {α:Type}(E:α→List D)(xs:List α):List D:=[.sl α E xs]
abbrev w8 (n:Int):Int:=IntKind.i8.wrap n
section
variable {P:Program}{ρ:Option Nat}{N:Nat}{D0:Dw}{Q:DQ}{As:List Ow}{η0:Env}{m0:Mem}{cf:Cf}
theorem sp {k:FuncId}{fn:Func}{c:Code}{args:List AV}{obs:List AObj}{n0:Nat}{Po:AV→List AObj→Nat→Prop}(hc: ∀(a:Array Value) w,(callFunc k a).run P w= .ok (.enter k a) w)(hf:P.funcs[k]? =some fn)(hb:fn.body=some c)(hN:fn.ntmps=N)(hle:Nat.ble args.length N=true)(h: ∀D0 As η0 m0,(∀n,η0 n≠none→n<n0)→Go none P N D0 (AaE P N fn (QA As η0 m0 Po)) As η0 m0 ⟨SU args obs n0,.code c,[]⟩):
 Sp P k args obs n0 Po:=sp_of hc hf hb hN hle h
theorem gi {β:Type}{b:Bool}{x y:Option β}{r:β}(hm:(if b=true then x else y)=some r)(h1:b=true→x=some r→Go ρ P N D0 Q As η0 m0 (way true (aC P N cf)))(h0:b=false→y=some r→Go ρ P N D0 Q As η0 m0 (way false (aC P N cf)))
 (e:(Sg (aC P N cf),bL P N cf)=(some b,bR P N cf):=by kernel_rfl) (hM:P.follows .mixedOrders=true:=by rfl):
 Go ρ P N D0 Q As η0 m0 cf:=AgM hM e (fun h=>h1 h (by rw[h]at hm; exact hm)) fun h=>h0 h (by rw[h]at hm; exact hm)
theorem gspl (g:Nat){β:Type}{b:Bool}{x y:Option β}{r:β}(hm:(if b=true then x else y)=some r)(h1:b=true→x=some r→Go ρ P N D0 Q As η0 m0 (setK g true (Ta g P N 100000 cf).1))(h0:b=false→y=some r→Go ρ P N D0 Q As η0 m0 (setK g false (Ta g P N 100000 cf).1))
 (e:(get (Ta g P N 100000 cf).1.s.sl g,((Ta g P N 100000 cf).2).map (·.1))=(.d (.t b),((Ta g P N 100000 cf).2).map (·.2)):=by kernel_rfl) (hM:P.follows .mixedOrders=true:=by rfl):
 Go ρ P N D0 Q As η0 m0 cf:=go_spl hM e (fun h=>h1 h (by rw[h]at hm; exact hm)) fun h=>h0 h (by rw[h]at hm; exact hm)
theorem gi' {b:Bool}(h1:b=true→Go ρ P N D0 Q As η0 m0 (way true (aC P N cf)))(h0:b=false→Go ρ P N D0 Q As η0 m0 (way false (aC P N cf)))
 (e:(Sg (aC P N cf),bL P N cf)=(some b,bR P N cf):=by kernel_rfl) (hM:P.follows .mixedOrders=true:=by rfl):
 Go ρ P N D0 Q As η0 m0 cf:=AgM hM e h1 h0
theorem gnx {s:ByteArray}{pos:Nat}{β:Type}{x y:Option β}{r:β}(hm:(if pos<s.size then x else y)=some r)(h1:pos<s.size→x=some r→Go ρ P N D0 Q As η0 m0 (push N (aC P N cf) (nxS (aC P N cf))))(h0: ¬pos<s.size→y=some r→Go ρ P N D0 Q As η0 m0 (push N (aC P N cf) (nxE (aC P N cf))))
 (e:((nxK (aC P N cf)).map (fun r=>(r.1,r.2.1)),aL P N cf)=(some (s,pos),aR P N cf):=by kernel_rfl) (hM:P.follows .mixedOrders=true:=by rfl):
 Go ρ P N D0 Q As η0 m0 cf:=go_nx hM e (fun h=>h1 h (by rw[AlH h]at hm; exact hm)) fun h=>h0 h (by rw[AlG h]at hm; exact hm)
theorem AiC {α β:Type}{a:α}{k:α→β}{r:β}(h:bnd a k=r):k a=r:=h
theorem gend {fn:Func}{n0 n1:Nat}{er:AV}{eobs:List AObj}(hd: ∀n,η0 n≠none→n<n0)
 (e:(endL P fn (aC P N cf) er eobs n0 n1,(AkY P fn (aC P N cf) er eobs).isSome,bL P N cf)=(endR P fn (aC P N cf) er eobs,true,bR P N cf):=by kernel_rfl) (hM:P.follows .mixedOrders=true:=by rfl):
 Go ρ P N D0 (AaE P N fn (QA As η0 m0 (is er eobs n1))) As η0 m0 cf:=go_fin hM hd e ⟨rfl,rfl,rfl⟩
theorem sb {k:FuncId}{fn:Func}{c:Code}{args:List AV}{obs:List AObj}{n0:Nat}{ov:Value}{Po:AV→List AObj→Nat→Prop}{Xp:Prop}(hc: ∀(a:Array Value) w,(callFunc k a).run P w= .ok (.enter k a) w)(hf:P.funcs[k]? =some fn)(hb:fn.body=some c)(hN:fn.ntmps=N)(hle:Nat.ble args.length N=true)(h: ∀D0 As η0 m0,(∀n,η0 n≠none→n<n0)→Go none P N D0 (outB P N fn (QA As η0 m0 Po) ov (PostX As m0 Xp)) As η0 m0 ⟨SU args obs n0,.code c,[]⟩):
 Sb P k args obs n0 ov Po Xp:=sb_of hc hf hb hN hle h
theorem gjU (id:Nat){ι:Type}(J:ι→AS)(ok:ι→Prop)(h1: ∀Jp,Bk As η0 m0 J ok Jp→Go ρ P N D0 Q As η0 m0 (ctnC (KW id P N 100000 cf).1 Jp))(h2: ∀x,ok x→Go ρ P N D0 Q As η0 m0 ⟨J x,.pop,(KW id P N 100000 cf).1.K⟩)
 (e:(Qe (KW id P N 100000 cf).1,((KW id P N 100000 cf).2).map (·.1))=(true,((KW id P N 100000 cf).2).map (·.2)):=by kernel_rfl) (hM:P.follows .mixedOrders=true:=by rfl):
 Go ρ P N D0 Q As η0 m0 cf:=AgL hM J ok e (h1 _ ⟨fun _ _ h=>h⟩) h2
theorem gj {ι:Type}(J:ι→AS)(ok:ι→Prop)(h1: ∀Jp,Bk As η0 m0 J ok Jp→Go ρ P N D0 Q As η0 m0 (ctnC (aC P N cf) Jp))(h2: ∀x,ok x→Go ρ P N D0 Q As η0 m0 ⟨J x,.pop,(aC P N cf).K⟩)
 (e:(Qe (aC P N cf),bL P N cf)=(true,bR P N cf):=by kernel_rfl) (hM:P.follows .mixedOrders=true:=by rfl):
 Go ρ P N D0 Q As η0 m0 cf:=AdN hM J ok e (h1 _ ⟨fun _ _ h=>h⟩) h2
theorem gl {n0:Nat}{ι:Type}(hd: ∀n,η0 n≠none→n<n0)(J:ι→AS)(pre:ι→Prop)(μ:ι→Nat)(x0:ι)(hx:pre x0)(h: ∀x,pre x→∀Jp,Bk As η0 m0 J (fun y=>pre y∧μ y<μ x) Jp→Go ρ P N D0 Q As η0 m0 (rndC (aC P N cf) (J x) Jp))
 (e:((Zs (aC P N cf)).isSome,vwL (aC P N cf).s (J x0) n0,(vwP (aC P N cf).s (J x0)).isSome,bL P N cf)=(true,vwR (aC P N cf).s (J x0),true,bR P N cf):=by kernel_rfl) (hM:P.follows .mixedOrders=true:=by rfl):
 Go ρ P N D0 Q As η0 m0 cf:=AkI hM J pre μ x0 hx hd e fun x hx=>h x hx _ ⟨fun _ _ h=>h⟩
theorem mu_lt {n i:Nat}(hlt:i<n)(hn:n≤9223372036854775807):n-(w64 ((i:Int)+1)).toNat<n-((i:Int)).toNat:=by
 rw[YP hlt hn]; omega
theorem IU (id:Nat){α:Type}{E:α→List D}{xs:List α}(t:Nat)(h:xs.length≤9223372036854775807→Go ρ P N D0 Q As η0 m0 (KW id P N 100000 cf).1)
 (e:(Qe (KW id P N 100000 cf).1,lenK (KW id P N 100000 cf).1.s t,((KW id P N 100000 cf).2).map (·.1))=(true,some (.sl α E xs),((KW id P N 100000 cf).2).map (·.2)):=by kernel_rfl) (hM:P.follows .mixedOrders=true:=by rfl):
 Go ρ P N D0 Q As η0 m0 cf:=go_len hM t e h
theorem spR {k:FuncId}{fn:Func}{c:Code}{args:List AV}{obs:List AObj}{n0:Nat}{Po:AV→List AObj→Nat→Prop}(hc: ∀(a:Array Value) w,(callFunc k a).run P w= .ok (.enter k a) w)(hf:P.funcs[k]? =some fn)(hb:fn.body=some c)(hN:fn.ntmps=N)(hle:Nat.ble args.length N=true)(h: ∀D0 As η0 m0,D0.2.2=false→(∀n,η0 n≠none→n<n0)→Go none P N D0 (AaE P N fn (QA As η0 m0 Po)) As η0 m0 ⟨SU args obs n0,.code c,[]⟩):
 Sp P k args obs n0 Po:=sp_ofR hc hf hb hN hle h
theorem gcutSG {c:Bool}{s z:ByteArray}{lo hi:Int}(hq:c=true→Vq s lo hi=some z)(g:Go ρ P N D0 Q As η0 m0 (CV N (aC P N cf) (.d (.s z)) []))
 (e:(gOf (aC P N cf),Ak6 P (aC P N cf),aL P N cf)=(c,some (s,lo,hi),aR P N cf):=by kernel_rfl) (hM:P.follows .mixedOrders=true:=by rfl):
 Go ρ P N D0 Q As η0 m0 cf:=AaQ (fun h=>hq ((Al9 Prod.fst e).symm.trans h)) g (Al9 Prod.snd e) hM
theorem gdynG {c:Bool}{x:Int}{ea:List AV}{r:AV}(hs:c=true→∃k:Nat,x=(k:Int)∧Sf P k ea r)(g:Go ρ P N D0 Q As η0 m0 (N6 N (aC P N cf) r))
 (e:(gOf (aC P N cf),(dynP (aC P N cf)).map (fun p=>(p.1,Ahq (aC P N cf).s.fz ea p.2)),ea.all (okA 0),aL P N cf)=(c,some (fnV x,ea),true,aR P N cf):=by kernel_rfl) (hM:P.follows .mixedOrders=true:=by rfl):
 Go ρ P N D0 Q As η0 m0 cf:=gdyn (fun h=>hs ((Al9 Prod.fst e).symm.trans h)) g (Al9 Prod.snd e) hM
theorem Aij {c:Bool}{α:Type}{E:α→List D}{xs:List α}{j:Int}{x:α}(hq:c=true→idx xs j=some x)(g:Go ρ P N D0 Q As η0 m0 (CV N (aC P N cf) (Agw P (aC P N cf)) (Agx P (aC P N cf))))
 (e:(gOf (aC P N cf),(AaL P (aC P N cf)).map (fun r=>(r.1,r.2.1,r.2.2.2.2.1)),aL P N cf)=(c,some (.sl α E xs,j,true),aR P N cf):=by kernel_rfl) (hM:P.follows .mixedOrders=true:=by rfl):
 Go ρ P N D0 Q As η0 m0 cf:=I6 (fun h=>hq ((Al9 Prod.fst e).symm.trans h)) g (Al9 Prod.snd e) hM
theorem gldOG {c:Bool}{k fo nn:Nat}{ag:Bool}{α:Type}{E:α→List D}{xs:List α}{j:Int}{x:α}(hE: ∀x,(E x).length=k)(hq:c=true→idx xs j=some x)(g:Go ρ P N D0 Q As η0 m0 (CV N (aC P N cf) (pkA ag ((((E x).drop fo).take nn).map .d)) (ldOT P (aC P N cf))))
 (e:(gOf (aC P N cf),(ldOP P (aC P N cf)).map (fun r=>(r.1,r.2.1,r.2.2.1,r.2.2.2.1,r.2.2.2.2.1,r.2.2.2.2.2.1,r.2.2.2.2.2.2.1)),aL P N cf)=(c,some (.sl α E xs,j,fo,nn,ag,k,true),aR P N cf):=by kernel_rfl) (hM:P.follows .mixedOrders=true:=by rfl):
 Go ρ P N D0 Q As η0 m0 cf:=Yh hE (fun h=>hq ((Al9 Prod.fst e).symm.trans h)) g (Al9 Prod.snd e) hM
theorem gcG {c:Bool}{k:FuncId}{ea:List AV}{r:AV}(hs:c=true→Sf P k ea r)(g:Go ρ P N D0 Q As η0 m0 (N6 N (aC P N cf) r))
 (e:(gOf (aC P N cf),Aa8 (aC P N cf) ea,ea.all (okA 0),aL P N cf)=(c,some (k,ea),true,aR P N cf):=by kernel_rfl) (hM:P.follows .mixedOrders=true:=by rfl):
 Go ρ P N D0 Q As η0 m0 cf:=gc (fun h=>hs ((Al9 Prod.fst e).symm.trans h)) g (Al9 Prod.snd e) hM
theorem gidxG {c:Bool}{k:Nat}{α:Type}{E:α→List D}{xs:List α}{j:Int}{x:α}(hE: ∀x,(E x).length=k)(hq:c=true→idx xs j=some x)(g:Go ρ P N D0 Q As η0 m0 (CV N (aC P N cf) (.d (.pf (E x))) (idxT P (aC P N cf))))
 (e:(gOf (aC P N cf),(Akq P (aC P N cf)).map (fun r=>(r.1,r.2.1,r.2.2.1)),aL P N cf)=(c,some (.sl α E xs,j,k),aR P N cf):=by kernel_rfl) (hM:P.follows .mixedOrders=true:=by rfl):
 Go ρ P N D0 Q As η0 m0 cf:=gidx hE (fun h=>hq ((Al9 Prod.fst e).symm.trans h)) g (Al9 Prod.snd e) hM
theorem gB {α β:Type}{a:Option α}{kk:α→Option β}{z:β}(hq:Ab a kk=some z){k:FuncId}{ea:List AV}{R:α→AV}(hs: ∀x,a=some x→Sf P k ea (R x))(g: ∀x,a=some x→kk x=some z→Go ρ P N D0 Q As η0 m0 (N6 N (aC P N cf) (R x)))
 (e:(Aa8 (aC P N cf) ea,ea.all (okA 0),aL P N cf)=(some (k,ea),true,aR P N cf):=by kernel_rfl) (hM:P.follows .mixedOrders=true:=by rfl):
 Go ρ P N D0 Q As η0 m0 cf:=let ⟨x,h1,h2⟩:=Ae hq; gc (fun _=>hs x h1) (g x h1 h2) e hM
theorem gBo {α β:Type}{a:Option α}{kk:α→Option β}{z:β}(hq:Ab a kk=some z){k:FuncId}{ea:List AV}{eobs:List AObj}{n0 n1:Nat}{R:α→AV}{O:α→List AObj}(hs: ∀x,a=some x→Sp P k ea eobs n0 (is (R x) (O x) n1))(g: ∀x,a=some x→kk x=some z→Go ρ P N D0 Q As η0 m0 (AfE N (aC P N cf) ea eobs n0 (R x) (O x) n1))
 (e: ∀x,(Ahe (aC P N cf) ea eobs n0,okA n1 (R x)&&((O x).all (okO n1)&&Nat.ble n0 n1),aL P N cf)=(some (k,(YC (aC P N cf) ea eobs).1,(YC (aC P N cf) ea eobs).2,true),true,aR P N cf):=by intro x; kernel_rfl) (hM:P.follows .mixedOrders=true:=by rfl):
 Go ρ P N D0 Q As η0 m0 cf:=let ⟨x,h1,h2⟩:=Ae hq; gco (hs x h1) (g x h1 h2) (e x) hM
theorem oB {α β:Type}{a:Option α}{kk:α→Option β}{z:β}{G:Prop}(hq:Ab a kk=some z)(g: ∀x,a=some x→kk x=some z→G):G:=let ⟨x,h1,h2⟩:=Ae hq; g x h1 h2
end
end Go.Ax
namespace Go.Proofs.YtnhdojckpcbjeaaGreatDoor
open Go Tryz
theorem Af8:prog.follows .mixedOrders=true:=rfl
end Go.Proofs.YtnhdojckpcbjeaaGreatDoor
end
section
namespace Go.Ax
open Go Go.Gw
structure Br (α:Type) [GoT α](E:α→List D):Prop where
 to: ∀{m:Mem} {cs:List Value} {x:α},GoT.rep m cs x→FRL m (E x) cs
 of: ∀{m:Mem} {cs:List Value} {x:α},FRL m (E x) cs→GoT.rep m cs x
 len: ∀x,(E x).length=GoT.sz α
theorem FRL.c1 {m:Mem}{d:D}{v:Value}(h:FR m d v):FRL m [d] [v]:= .cons h .nil
theorem FRL.c1_inv {m:Mem}{d:D}{cs:List Value}(h:FRL m [d] cs): ∃v,cs=[v]∧FR m d v:=by
 obtain⟨v,us,rfl,h1,h2⟩:=h.cons_inv;have:=h2.nil_inv; subst this;exact⟨v,rfl,h1⟩
theorem FR.i_inv {m:Mem}{n}{v:Value}(h:FR m (.i n) v):v=vI n:=by cases h; rfl
theorem FR.u_inv {m:Mem}{n}{v:Value}(h:FR m (.u n) v):v=vU n:=by cases h; rfl
theorem FR.b_inv {m:Mem}{n}{v:Value}(h:FR m (.b n) v):v=vB n:=by cases h; rfl
theorem FR.t_inv {m:Mem}{n}{v:Value}(h:FR m (.t n) v):v=vb n:=by cases h; rfl
theorem FR.s_inv {m:Mem}{n}{v:Value}(h:FR m (.s n) v):v=vS n:=by cases h; rfl
theorem Br.i:Br Int (fun n=> [.i n]):=⟨fun h=>by have h:_=_:=h; subst h; exact .c1 (.i _),fun h=>by obtain⟨v,rfl,g⟩:=FRL.c1_inv h; exact Al9 (fun z=> [z]) g.i_inv,fun _=>rfl⟩
theorem Br.u:Br UInt64 (fun n=> [.u n]):=⟨fun h=>by have h:_=_:=h; subst h; exact .c1 (.u _),fun h=>by obtain⟨v,rfl,g⟩:=FRL.c1_inv h; exact Al9 (fun z=> [z]) g.u_inv,fun _=>rfl⟩
theorem Br.b:Br UInt8 (fun n=> [.b n]):=⟨fun h=>by have h:_=_:=h; subst h; exact .c1 (.b _),fun h=>by obtain⟨v,rfl,g⟩:=FRL.c1_inv h; exact Al9 (fun z=> [z]) g.b_inv,fun _=>rfl⟩
theorem Br.t:Br Bool (fun n=> [.t n]):=⟨fun h=>by have h:_=_:=h; subst h; exact .c1 (.t _),fun h=>by obtain⟨v,rfl,g⟩:=FRL.c1_inv h; exact Al9 (fun z=> [z]) g.t_inv,fun _=>rfl⟩
theorem Br.s:Br ByteArray (fun n=> [.s n]):=⟨fun h=>by have h:_=_:=h; subst h; exact .c1 (.s _),fun h=>by obtain⟨v,rfl,g⟩:=FRL.c1_inv h; exact Al9 (fun z=> [z]) g.s_inv,fun _=>rfl⟩
theorem Br.pair {α β:Type} [GoT α] [GoT β]{E:α→List D}{F:β→List D}(a:Br α E)(b:Br β F):Br (α×β) (fun x=>E x.1++F x.2):=
 ⟨fun⟨c,d,e,h1,h2⟩=>by subst e; exact(a.to h1).append (b.to h2),fun {m cs x} h=>by
  have h1:=h.take (E x.1).length;have h2:=h.drop (E x.1).length;rw[List.take_left]at h1;rw[List.drop_left]at h2;exact⟨_,_,(List.take_append_drop _ _).symm,a.of h1,b.of h2⟩,fun x=>by
  rw[AlI,a.len,b.len]; rfl⟩
section
variable {α:Type} [GoT α]{E:α→List D}{m:Mem}{v:Value}
theorem Br.toL (b:Br α E): ∀{xs:List α} {cs:List Value},CI m cs xs→FRL m (xs.flatMap E) cs
 | [],cs,h=>by have h:cs=[]:=h; subst h; exact .nil
 |x::xs,cs,⟨c,d,e,h1,h2⟩=>by subst e; rw[Ami]; exact(b.to h1).append (b.toL h2)
theorem Br.ofL (b:Br α E): ∀{xs:List α} {cs:List Value},FRL m (xs.flatMap E) cs→CI m cs xs
 | [],cs,h=>show cs=[]from FRL.nil_inv (by simpa using h)
 |x::xs,cs,h=>by
  rw[Ami]at h;have h1:=h.take (E x).length;have h2:=h.drop (E x).length;rw[List.take_left]at h1;rw[List.drop_left]at h2;exact⟨_,_,(List.take_append_drop _ _).symm,b.of h1,b.ofL h2⟩
theorem Br.toS (b:Br α E){xs:List α}(h:SlR m v xs):FR m (.sl α E xs) v:=by
 obtain⟨cs,h1,h2⟩:=h;have:=b.toL h2;exact .sl h1 (fun x _=>b.len x) this.1 this.2
theorem Br.ofS (b:Br α E){xs:List α}(h:FR m (.sl α E xs) v):SlR m v xs:=by
 cases h with
 | @sl _ _ _ sz' _ cs h hE' hl hr=>
  refine⟨cs,?_,b.ofL ⟨hl,hr⟩⟩;cases xs with
  |nil=>
   have:cs=[]:=by simp at hl; exact List.length_eq_zero_iff.1 hl.symm
   subst this;exact⟨by simp,h.2.1,h.2.2⟩
  |cons x xs=>
   have:sz'=GoT.sz α:=by rw[←hE' x AlZ,b.len x]
   subst this; exact h
theorem Br.sl (b:Br α E):Br (List α) (fun xs=> [.sl α E xs]):=
 ⟨fun⟨v,e,h⟩=>by subst e; exact .c1 (b.toS h),fun h=>by obtain⟨v,rfl,g⟩:=FRL.c1_inv h; exact⟨v,rfl,b.ofS g⟩,fun _=>rfl⟩
theorem Br.mk' {β:Type} [GoT β]{F:β→List D}(b:Br β F)(E:α→List D)(f:α→β)(hr: ∀(m:Mem) (cs:List Value) (x:α),GoT.rep m cs x=GoT.rep m cs (f x))(hE: ∀x,F (f x)=E x)(hs:GoT.sz α=GoT.sz β):Br α E:=
 ⟨fun h=>by rw[←hE]; rw[hr]at h; exact b.to h,fun h=>by rw[←hE]at h; rw[hr]; exact b.of h,fun x=>by rw[←hE,b.len,hs]⟩
theorem Br.ofA (b:Br α E){η:Env}{x:α}{v:Value}(h:Rel η m (.agg ((E x).map dv)) v): ∃cs,v= .agg cs.toArray∧GoT.rep m cs x:=by
 obtain⟨vs,rfl,g⟩:=h.agg_inv;exact⟨vs,rfl,b.of (FRL.ofRelv g)⟩
theorem Br.toR (b:Br α E){η:Env}{n sz:Nat}{cs:List Value}{xs:List α}(hs:GoT.sz α=sz)(hn:η n=some v)(h1:v.oneCell'=true)(h:CI m cs xs): ∀x,Gw.row sz v cs xs.length x→rep η m (.row n sz α E xs) x:=
 fun x hx=>⟨v,cs,hn,h1,b.toL h,fun x _=>(b.len x).trans hs,hx⟩
end
theorem Ab3 {A B:Ow}{As Bs:List Ow}(h: ∀x,A x→B x)(k: ∀x,sepL As x→sepL Bs x): ∀x,sepL (A::As) x→sepL (B::Bs) x:=
 fun x ⟨h1,h2,a,s,d,e⟩=>⟨h1,h2,h h1 a,k h2 s,d,e⟩
theorem _root_.Go.Gw.St.impL {m:Mem}{As Bs:List Ow}{w:World}(S:St m As w)(h: ∀x,sepL As x→sepL Bs x):St m Bs w:=by
 obtain⟨x,sx,rx⟩:=S.own;exact⟨S.os,S.tape,S.output,x,h x sx,rx⟩
theorem Rel.tup' {η:Env}{m:Mem}{cs:List AV}{vs:List Value}(h:B5 η m cs vs):Rel η m (.tup cs) (.tuple vs.toArray):= .tup h.1 h.2
def envL (l:List Value):Env:=fun n=>l[n]?
theorem ZL {l:List Value}{k:Nat}(hk:l.length=k): ∀n,envL l n≠none→n<k:=by
 intro n h;rcases Nat.lt_or_ge n l.length with q|q
 ·omega
 ·exact absurd (List.getElem?_eq_none q) h
theorem dom0 {η:Env}(hd: ∀n,η n≠none→n<0)(η':Env):η.le η':=fun n v h=>absurd (hd n (by rw[h]; simp)) (by omega)
def cvR (ob:List Tok):AV→AV→AV
 | .tup es,.tup az=> .tup (cvV ob es az).1
 |e,a=>(cvA ob e a).1
theorem Ak3 {ob:List Tok}{η:Env}{m:Mem}(k: ∀ns,Kn ob η m ns){e a:AV}{v:Value}(r:Rel η m a v):Rel η m (cvR ob e a) v:=by
 unfold cvR;split
 ·obtain⟨vs,rfl,h⟩:=r.tup_inv;exact .tup' (Se (k _) h)
 ·exact Aea (k _) r
theorem Sp.fz {P:Program}{k:FuncId}{args:List AV}{er er':AV}{eobs:List AObj}{n1:Nat}(h:Sp P k args [] 0 (is er eobs n1))
  (e:((enO 0 eobs).all (fun p=>Ln p.2),okA 0 er',cvR (enO 0 eobs) er' er)=(true,true,er')):Sf P k args er':=by
 simp only[AlE]at e;obtain⟨e1,e2,e3⟩:=e;refine⟨h.1,fun η m As w vs hv hd S=>C4.mono (h.2 η m As w vs hv hd S) ?_⟩;rintro v w' ⟨M,η',r,obs',n1',hle,hη,⟨rfl,rfl,rfl⟩,hdom,hR,S'⟩;rw[←KE (k:=0)]at S';obtain⟨M2,l2,K,S2⟩:=M7 e1 S';have KN: ∀ns,Kn (enO 0 obs') η' M2 ns:=fun ns n hn d hd=>by
  obtain⟨p,hf,hp,_,hnm⟩:=O1 hd;obtain⟨v,a,b⟩:=K p (Fw hf);rw[hnm]at a; rw[hp]at b; exact⟨v,a,b⟩
 have hr:=Ak3 KN (e:=er') (hR.up Env.le_refl l2);rw[e3]at hr;exact⟨M2,none0,er',[],0,Mem.tr hle l2,dom0 hd _,⟨rfl,rfl,rfl⟩,fun n h=>absurd rfl h,UX (fun k hk=>absurd hk (by omega)) e2 hr,S2⟩
theorem Sp.nil0 {P:Program}{k:FuncId}{args:List AV}{sz:Nat}{α:Type}{E:α→List D}{Po:AV→List AObj→Nat→Prop}(h:Sp P k (.ow 0::args) [.row 0 sz α E []] 1 Po)(ha:args.all (okA 0)=true):Sp P k (.d (.v (.slice none 0 0))::args) [] 0 Po:=by
 refine⟨h.1,fun η m As w vs hv hd S=> ?_⟩;obtain⟨v,us,rfl,h1,h2⟩:=hv.cons_inv;have hvv:v= .slice none 0 0:=by have:=h1.dd; cases this; rfl
 subst hvv;have he:η.le (η.put 0 (.slice none 0 0)):=Env.le_put (by cases q:η 0 with|none=>rfl|some u=>exact absurd (hd 0 (by rw[q]; simp)) (by omega));have S1:St m (rep (η.put 0 (.slice none 0 0)) m (.row 0 sz α E [])::As) w:=by
  exact St.closeRow (η:=η.put 0 (.slice none 0 0)) (n:=0) (E:=E) (xs:=[]) Env.put_self rfl (by simpa using FRL.nil) (fun _ h=>by cases h) (St.rowNil S sz)
 have:=h.2 (η.put 0 (.slice none 0 0)) m As w (.slice none 0 0::us) (.cons (.ow Env.put_self rfl) (N7 (n:=0) (fun k hk=>absurd hk (by omega)) ha (h2.up he (Mem.rfl' m)))) (fun n hn=>by
  rcases Env.put_dom hn with q|q
  ·have:=hd n q; omega
  ·omega) S1
 refine C4.mono this ?_;rintro r w' ⟨M,η',r',obs',n1,a,b,c⟩;exact⟨M,η',r',obs',n1,a,Env.le_tr he b,c⟩
end Go.Ax
end
