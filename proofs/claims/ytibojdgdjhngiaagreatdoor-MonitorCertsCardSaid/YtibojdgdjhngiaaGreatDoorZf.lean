/- Several texts, one behind the other. Conditions: none. -/
import Derived.Test.YtibojdgdjhngiaaGreatDoorProg
import Derived.Test.YtibojdgdjhngiaaGreatDoorZe
import Derived.KernelRfl
import Derived.Test.YtibojdgdjhngiaaGreatDoorZd
set_option linter.unusedSimpArgs false
set_option linter.unusedVariables false
set_option maxHeartbeats 20000000
set_option maxRecDepth 100000
section
namespace Go.Ax
open Go Go.Gw
abbrev ag (l:List D):AV:= .agg (l.map dv)
abbrev sl {α:Type}(E:α→List D)(xs:List α):AV:= .d (.sl α E xs)
abbrev eI (n:Int):List D:=[.i n]
abbrev eU (n:UInt64):List D:=[.u n]
abbrev eB (n:UInt8):List D:=[.b n]
abbrev eS (n:ByteArray):List D:=[.s n]
abbrev eL {α:Type}(E:α→List D)(xs:List α):List D:=[.sl α E xs]
abbrev w8 (n:Int):Int:=IntKind.i8.wrap n
abbrev eF:Int→List D:=fun x=> [.v (fnV x)]
section
variable {P:Program}{ρ:Option Nat}{N:Nat}{D0:Dw}{Q:D7}{As:List Ow}{η0:Env}{m0:Mem}{cf:Cf}
theorem sp {k:FuncId}{fn:Func}{c:Code}{args:List AV}{obs:List AObj}{n0:Nat}{Po:AV→List AObj→Nat→Prop}(hc: ∀(a:Array Value) w,(callFunc k a).run P w= .ok (.enter k a) w)(hf:P.funcs[k]? =some fn)(hb:fn.body=some c)(hN:fn.ntmps=N)(hle:Nat.ble args.length N=true)(h: ∀D0 As η0 m0,(∀n,η0 n≠none→n<n0)→Go none P N D0 (Wj P N fn (MO As η0 m0 Po)) As η0 m0 ⟨Sh args obs n0,.code c,[]⟩):
 Sp P k args obs n0 Po:=sp_of hc hf hb hN hle h
theorem gi {β:Type}{b:Bool}{x y:Option β}{r:β}(hm:(if b=true then x else y)=some r)(h1:b=true→x=some r→Go ρ P N D0 Q As η0 m0 (way true (aC P N cf)))(h0:b=false→y=some r→Go ρ P N D0 Q As η0 m0 (way false (aC P N cf)))
 (e:(Va (aC P N cf),bL P N cf)=(some b,bR P N cf):=by kernel_rfl) (hM:P.follows .mixedOrders=true:=by rfl):
 Go ρ P N D0 Q As η0 m0 cf:=go_if hM e (fun h=>h1 h (by rw[h]at hm; exact hm)) fun h=>h0 h (by rw[h]at hm; exact hm)
theorem MN (g:Nat){β:Type}{b:Bool}{x y:Option β}{r:β}(hm:(if b=true then x else y)=some r)(h1:b=true→x=some r→Go ρ P N D0 Q As η0 m0 (setK g true (Sn g P N 100000 cf).1))(h0:b=false→y=some r→Go ρ P N D0 Q As η0 m0 (setK g false (Sn g P N 100000 cf).1))
 (e:(get (Sn g P N 100000 cf).1.s.sl g,((Sn g P N 100000 cf).2).map (·.1))=(.d (.t b),((Sn g P N 100000 cf).2).map (·.2)):=by kernel_rfl) (hM:P.follows .mixedOrders=true:=by rfl):
 Go ρ P N D0 Q As η0 m0 cf:=go_spl hM e (fun h=>h1 h (by rw[h]at hm; exact hm)) fun h=>h0 h (by rw[h]at hm; exact hm)
theorem gi' {b:Bool}(h1:b=true→Go ρ P N D0 Q As η0 m0 (way true (aC P N cf)))(h0:b=false→Go ρ P N D0 Q As η0 m0 (way false (aC P N cf)))
 (e:(Va (aC P N cf),bL P N cf)=(some b,bR P N cf):=by kernel_rfl) (hM:P.follows .mixedOrders=true:=by rfl):
 Go ρ P N D0 Q As η0 m0 cf:=go_if hM e h1 h0
theorem gnx {s:ByteArray}{pos:Nat}{β:Type}{x y:Option β}{r:β}(hm:(if pos<s.size then x else y)=some r)(h1:pos<s.size→x=some r→Go ρ P N D0 Q As η0 m0 (push N (aC P N cf) (nxS (aC P N cf))))(h0: ¬pos<s.size→y=some r→Go ρ P N D0 Q As η0 m0 (push N (aC P N cf) (nxE (aC P N cf))))
 (e:((nxK (aC P N cf)).map (fun r=>(r.1,r.2.1)),aL P N cf)=(some (s,pos),aR P N cf):=by kernel_rfl) (hM:P.follows .mixedOrders=true:=by rfl):
 Go ρ P N D0 Q As η0 m0 cf:=go_nx hM e (fun h=>h1 h (by rw[AjF h]at hm; exact hm)) fun h=>h0 h (by rw[AjG h]at hm; exact hm)
theorem Ahq {α β:Type}{a:α}{k:α→β}{r:β}(h:bnd a k=r):k a=r:=h
theorem gend {fn:Func}{n0 n1:Nat}{er:AV}{eobs:List AObj}(hd: ∀n,η0 n≠none→n<n0)
 (e:(endL P fn (aC P N cf) er eobs n0 n1,(Ahc P fn (aC P N cf) er eobs).isSome,bL P N cf)=(endR P fn (aC P N cf) er eobs,true,bR P N cf):=by kernel_rfl) (hM:P.follows .mixedOrders=true:=by rfl):
 Go ρ P N D0 (Wj P N fn (MO As η0 m0 (is er eobs n1))) As η0 m0 cf:=Ag3 hM hd e ⟨rfl,rfl,rfl⟩
theorem PY {fn:Func}{n0 n1:Nat}{β:Type}{r:β}{A:β→AV}{O:β→List AObj}{ov:Value}{X:World→Prop}(hd: ∀n,η0 n≠none→n<n0)
 (e:(endL P fn (aC P N cf) (A r) (O r) n0 n1,(Ahc P fn (aC P N cf) (A r) (O r)).isSome,bL P N cf)=(endR P fn (aC P N cf) (A r) (O r),true,bR P N cf):=by kernel_rfl) (hM:P.follows .mixedOrders=true:=by rfl):
 Go ρ P N D0 (Ae2 P N fn (MO As η0 m0 (Pos (some r) A O n1)) ov X) As η0 m0 cf:=(Ag3 hM hd e ⟨r,rfl,rfl,rfl,rfl⟩).mono Aio
theorem O1 {k:FuncId}{ea:List AV}{eobs:List AObj}{n0 n1:Nat}{ov:Value}{β γ:Type}{A:β→AV}{O:β→List AObj}{Xp:Prop}{fn:Func}{R:Value→World→Prop}(hs:Sb P k ea eobs n0 ov (Pos (none:Option β) A O n1) Xp)
 (e:(Sk (aC P N cf) ea eobs n0,SN (aC P N cf),aL P N cf)=
  (some (k,(LA (aC P N cf) ea eobs).1,(LA (aC P N cf) ea eobs).2,true),true,aR P N cf):=by kernel_rfl) (hM:P.follows .mixedOrders=true:=by rfl):
 Go ρ P N D0 (Ae2 P N fn R ov (Aa3 As m0 ((none:Option γ)=none))) As η0 m0 cf:=Ai1 hM hs Zk rfl e
theorem sb {k:FuncId}{fn:Func}{c:Code}{args:List AV}{obs:List AObj}{n0:Nat}{ov:Value}{Po:AV→List AObj→Nat→Prop}{Xp:Prop}(hc: ∀(a:Array Value) w,(callFunc k a).run P w= .ok (.enter k a) w)(hf:P.funcs[k]? =some fn)(hb:fn.body=some c)(hN:fn.ntmps=N)(hle:Nat.ble args.length N=true)(h: ∀D0 As η0 m0,(∀n,η0 n≠none→n<n0)→Go none P N D0 (Ae2 P N fn (MO As η0 m0 Po) ov (Aa3 As m0 Xp)) As η0 m0 ⟨Sh args obs n0,.code c,[]⟩):
 Sb P k args obs n0 ov Po Xp:=sb_of hc hf hb hN hle h
theorem gat {c:Code}{K:List Kt}{η:Env}{m:Mem}{f:Fr}{w:World}(s:AS)(gm:Gm As s η m f w)(g:Go ρ P N D0 Q As η m ⟨s,.code c,K⟩):
 wpc ρ P N D0 c (pk ρ P N D0 Q K) f w:=g η m f w Env.le_refl (Mem.rfl' m) gm
theorem gthrow {γ:Type}{t:TypeId}{fn:Func}{R:Value→World→Prop}(hc:P.concrete t=true)
 (e:(AbA N (aC P N cf),bL P N cf)=(some t,bR P N cf):=by kernel_rfl) (hM:P.follows .mixedOrders=true:=by rfl):
 Go ρ P N D0 (Ae2 P N fn R (.iface t (.agg #[])) (Aa3 As m0 ((none:Option γ)=none))) As η0 m0 cf:=AfB hM hc rfl e
theorem AfA {k:FuncId}{ea:List AV}{eobs:List AObj}{n0 n1 n2:Nat}{ov:Value}{β:Type}{A:β→AV}{O:β→List AObj}{Xp:Prop}{Je:Fr→World→Prop}{J:AS}{ok:Prop}(hs:Sb P k ea eobs n0 ov (Pos (none:Option β) A O n2) Xp)(hx:ok)(hd: ∀n,η0 n≠none→n<n1)
 (e:(Sk (aC P N cf) ea eobs n0,SN (aC P N cf),aL P N cf)=
  (some (k,(LA (aC P N cf) ea eobs).1,(LA (aC P N cf) ea eobs).2,true),true,aR P N cf):=by kernel_rfl) (e2:(vwL (AgG (aC P N cf) ea eobs) J n1,(vwP (AgG (aC P N cf) ea eobs) J).isSome)=(vwR (AgG (aC P N cf) ea eobs) J,true):=by kernel_rfl) (hM:P.follows .mixedOrders=true:=by rfl):
 Go ρ P N D0 (outG Je ov (Rl As η0 m0 (fun _:Unit=>J) (fun _=>ok))) As η0 m0 cf:=Ai0 hM hs Zk hx hd e e2
theorem gjU (id:Nat){ι:Type}(J:ι→AS)(ok:ι→Prop)(h1: ∀Jp,Bk As η0 m0 J ok Jp→Go ρ P N D0 Q As η0 m0 (ctnC (Kf id P N 100000 cf).1 Jp))(h2: ∀x,ok x→Go ρ P N D0 Q As η0 m0 ⟨J x,.pop,(Kf id P N 100000 cf).1.K⟩)
 (e:(PC (Kf id P N 100000 cf).1,((Kf id P N 100000 cf).2).map (·.1))=(true,((Kf id P N 100000 cf).2).map (·.2)):=by kernel_rfl) (hM:P.follows .mixedOrders=true:=by rfl):
 Go ρ P N D0 Q As η0 m0 cf:=AfC hM J ok e (h1 _ ⟨fun _ _ h=>h⟩) h2
theorem gj {ι:Type}(J:ι→AS)(ok:ι→Prop)(h1: ∀Jp,Bk As η0 m0 J ok Jp→Go ρ P N D0 Q As η0 m0 (ctnC (aC P N cf) Jp))(h2: ∀x,ok x→Go ρ P N D0 Q As η0 m0 ⟨J x,.pop,(aC P N cf).K⟩)
 (e:(PC (aC P N cf),bL P N cf)=(true,bR P N cf):=by kernel_rfl) (hM:P.follows .mixedOrders=true:=by rfl):
 Go ρ P N D0 Q As η0 m0 cf:=Ado hM J ok e (h1 _ ⟨fun _ _ h=>h⟩) h2
theorem gl {n0:Nat}{ι:Type}(hd: ∀n,η0 n≠none→n<n0)(J:ι→AS)(pre:ι→Prop)(μ:ι→Nat)(x0:ι)(hx:pre x0)(h: ∀x,pre x→∀Jp,Bk As η0 m0 J (fun y=>pre y∧μ y<μ x) Jp→Go ρ P N D0 Q As η0 m0 (rndC (aC P N cf) (J x) Jp))
 (e:((ZB (aC P N cf)).isSome,vwL (aC P N cf).s (J x0) n0,(vwP (aC P N cf).s (J x0)).isSome,bL P N cf)=(true,vwR (aC P N cf).s (J x0),true,bR P N cf):=by kernel_rfl) (hM:P.follows .mixedOrders=true:=by rfl):
 Go ρ P N D0 Q As η0 m0 cf:=Ai2 hM J pre μ x0 hx hd e fun x hx=>h x hx _ ⟨fun _ _ h=>h⟩
theorem mu_lt {n i:Nat}(hlt:i<n)(hn:n≤9223372036854775807):n-(w64 ((i:Int)+1)).toNat<n-((i:Int)).toNat:=by
 rw[JM hlt hn]; omega
theorem O2 (id:Nat){α:Type}{E:α→List D}{xs:List α}(t:Nat)(h:xs.length≤9223372036854775807→Go ρ P N D0 Q As η0 m0 (Kf id P N 100000 cf).1)
 (e:(PC (Kf id P N 100000 cf).1,lenK (Kf id P N 100000 cf).1.s t,((Kf id P N 100000 cf).2).map (·.1))=(true,some (.sl α E xs),((Kf id P N 100000 cf).2).map (·.2)):=by kernel_rfl) (hM:P.follows .mixedOrders=true:=by rfl):
 Go ρ P N D0 Q As η0 m0 cf:=go_len hM t e h
theorem spR {k:FuncId}{fn:Func}{c:Code}{args:List AV}{obs:List AObj}{n0:Nat}{Po:AV→List AObj→Nat→Prop}(hc: ∀(a:Array Value) w,(callFunc k a).run P w= .ok (.enter k a) w)(hf:P.funcs[k]? =some fn)(hb:fn.body=some c)(hN:fn.ntmps=N)(hle:Nat.ble args.length N=true)(h: ∀D0 As η0 m0,D0.2.2=false→(∀n,η0 n≠none→n<n0)→Go none P N D0 (Wj P N fn (MO As η0 m0 Po)) As η0 m0 ⟨Sh args obs n0,.code c,[]⟩):
 Sp P k args obs n0 Po:=sp_ofR hc hf hb hN hle h
theorem Ag5 {c:Bool}{s z:ByteArray}{lo hi:Int}(hq:c=true→Ru s lo hi=some z)(g:Go ρ P N D0 Q As η0 m0 (CM N (aC P N cf) (.d (.s z)) []))
 (e:(gOf (aC P N cf),Ajj P (aC P N cf),aL P N cf)=(c,some (s,lo,hi),aR P N cf):=by kernel_rfl) (hM:P.follows .mixedOrders=true:=by rfl):
 Go ρ P N D0 Q As η0 m0 cf:=WK (fun h=>hq ((Aki Prod.fst e).symm.trans h)) g (Aki Prod.snd e) hM
theorem gdynG {c:Bool}{x:Int}{ea:List AV}{r:AV}(hs:c=true→∃k:Nat,x=(k:Int)∧Sf P k ea r)(g:Go ρ P N D0 Q As η0 m0 (N0 N (aC P N cf) r))
 (e:(gOf (aC P N cf),(dynP (aC P N cf)).map (fun p=>(p.1,Ahy (aC P N cf).s.fz ea p.2)),ea.all (okA 0),aL P N cf)=(c,some (fnV x,ea),true,aR P N cf):=by kernel_rfl) (hM:P.follows .mixedOrders=true:=by rfl):
 Go ρ P N D0 Q As η0 m0 cf:=gdyn (fun h=>hs ((Aki Prod.fst e).symm.trans h)) g (Aki Prod.snd e) hM
theorem gcG {c:Bool}{k:FuncId}{ea:List AV}{r:AV}(hs:c=true→Sf P k ea r)(g:Go ρ P N D0 Q As η0 m0 (N0 N (aC P N cf) r))
 (e:(gOf (aC P N cf),AaZ (aC P N cf) ea,ea.all (okA 0),aL P N cf)=(c,some (k,ea),true,aR P N cf):=by kernel_rfl) (hM:P.follows .mixedOrders=true:=by rfl):
 Go ρ P N D0 Q As η0 m0 cf:=gc (fun h=>hs ((Aki Prod.fst e).symm.trans h)) g (Aki Prod.snd e) hM
theorem gidxG {c:Bool}{k:Nat}{α:Type}{E:α→List D}{xs:List α}{j:Int}{x:α}(hE: ∀x,(E x).length=k)(hq:c=true→idx xs j=some x)(g:Go ρ P N D0 Q As η0 m0 (CM N (aC P N cf) (.d (.pf (E x))) (idxT P (aC P N cf))))
 (e:(gOf (aC P N cf),(AiR P (aC P N cf)).map (fun r=>(r.1,r.2.1,r.2.2.1)),aL P N cf)=(c,some (.sl α E xs,j,k),aR P N cf):=by kernel_rfl) (hM:P.follows .mixedOrders=true:=by rfl):
 Go ρ P N D0 Q As η0 m0 cf:=gidx hE (fun h=>hq ((Aki Prod.fst e).symm.trans h)) g (Aki Prod.snd e) hM
theorem Rh {c:Bool}{s:ByteArray}{j:Int}{b:UInt8}(hq:c=true→idx s.data.toList j=some b)(g:Go ρ P N D0 Q As η0 m0 (CM N (aC P N cf) (.d (.b b)) []))
 (e:(gOf (aC P N cf),AiO P (aC P N cf),aL P N cf)=(c,some (.d (.s s),j,true),aR P N cf):=by kernel_rfl) (hM:P.follows .mixedOrders=true:=by rfl):
 Go ρ P N D0 Q As η0 m0 cf:=Yj (fun h=>hq ((Aki Prod.fst e).symm.trans h)) g (Aki Prod.snd e) hM
theorem gB {α β:Type}{a:Option α}{kk:α→Option β}{z:β}(hq:Ab a kk=some z){k:FuncId}{ea:List AV}{R:α→AV}(hs: ∀x,a=some x→Sf P k ea (R x))(g: ∀x,a=some x→kk x=some z→Go ρ P N D0 Q As η0 m0 (N0 N (aC P N cf) (R x)))
 (e:(AaZ (aC P N cf) ea,ea.all (okA 0),aL P N cf)=(some (k,ea),true,aR P N cf):=by kernel_rfl) (hM:P.follows .mixedOrders=true:=by rfl):
 Go ρ P N D0 Q As η0 m0 cf:=let ⟨x,h1,h2⟩:=Ad hq; gc (fun _=>hs x h1) (g x h1 h2) e hM
theorem gBo {α β:Type}{a:Option α}{kk:α→Option β}{z:β}(hq:Ab a kk=some z){k:FuncId}{ea:List AV}{eobs:List AObj}{n0 n1:Nat}{R:α→AV}{O:α→List AObj}(hs: ∀x,a=some x→Sp P k ea eobs n0 (is (R x) (O x) n1))(g: ∀x,a=some x→kk x=some z→Go ρ P N D0 Q As η0 m0 (AeW N (aC P N cf) ea eobs n0 (R x) (O x) n1))
 (e: ∀x,(Sk (aC P N cf) ea eobs n0,okA n1 (R x)&&((O x).all (okO n1)&&Nat.ble n0 n1),aL P N cf)=(some (k,(LA (aC P N cf) ea eobs).1,(LA (aC P N cf) ea eobs).2,true),true,aR P N cf):=by intro x; kernel_rfl) (hM:P.follows .mixedOrders=true:=by rfl):
 Go ρ P N D0 Q As η0 m0 cf:=let ⟨x,h1,h2⟩:=Ad hq; gco (hs x h1) (g x h1 h2) (e x) hM
theorem oB {α β:Type}{a:Option α}{kk:α→Option β}{z:β}{G:Prop}(hq:Ab a kk=some z)(g: ∀x,a=some x→kk x=some z→G):G:=let ⟨x,h1,h2⟩:=Ad hq; g x h1 h2
end
end Go.Ax
namespace Go.Proofs.YtibojdgdjhngiaaGreatDoor
open Go Tryz
theorem mixed:prog.follows .mixedOrders=true:=rfl
end Go.Proofs.YtibojdgdjhngiaaGreatDoor
end
section
namespace Go.Ax
open Go Go.Gw
structure Br (α:Type) [GoT α](E:α→List D):Prop where
 to: ∀{m:Mem} {cs:List Value} {x:α},GoT.rep m cs x→FRL m (E x) cs
 of: ∀{m:Mem} {cs:List Value} {x:α},FRL m (E x) cs→GoT.rep m cs x
 len: ∀x,(E x).length=GoT.sz α
theorem FRL.c1 {m:Mem}{d:D}{v:Value}(h:FR m d v):FRL m [d] [v]:= .cons h .nil
theorem FRL.c1_inv {m:Mem}{d:D}{cs:List Value}(h:FRL m [d] cs): ∃v,cs=[v]∧FR m d v:=by
 obtain⟨v,us,rfl,h1,h2⟩:=h.cons_inv;have:=h2.nil_inv; subst this;exact⟨v,rfl,h1⟩
theorem FR.i_inv {m:Mem}{n}{v:Value}(h:FR m (.i n) v):v=vI n:=by cases h; rfl
theorem FR.u_inv {m:Mem}{n}{v:Value}(h:FR m (.u n) v):v=vU n:=by cases h; rfl
theorem FR.b_inv {m:Mem}{n}{v:Value}(h:FR m (.b n) v):v=vB n:=by cases h; rfl
theorem FR.t_inv {m:Mem}{n}{v:Value}(h:FR m (.t n) v):v=vb n:=by cases h; rfl
theorem FR.s_inv {m:Mem}{n}{v:Value}(h:FR m (.s n) v):v=vS n:=by cases h; rfl
theorem Br.i:Br Int (fun n=> [.i n]):=⟨fun h=>by have h:_=_:=h; subst h; exact .c1 (.i _),fun h=>by obtain⟨v,rfl,g⟩:=FRL.c1_inv h; exact Aki (fun z=> [z]) g.i_inv,fun _=>rfl⟩
theorem Br.u:Br UInt64 (fun n=> [.u n]):=⟨fun h=>by have h:_=_:=h; subst h; exact .c1 (.u _),fun h=>by obtain⟨v,rfl,g⟩:=FRL.c1_inv h; exact Aki (fun z=> [z]) g.u_inv,fun _=>rfl⟩
theorem Br.b:Br UInt8 (fun n=> [.b n]):=⟨fun h=>by have h:_=_:=h; subst h; exact .c1 (.b _),fun h=>by obtain⟨v,rfl,g⟩:=FRL.c1_inv h; exact Aki (fun z=> [z]) g.b_inv,fun _=>rfl⟩
theorem Br.t:Br Bool (fun n=> [.t n]):=⟨fun h=>by have h:_=_:=h; subst h; exact .c1 (.t _),fun h=>by obtain⟨v,rfl,g⟩:=FRL.c1_inv h; exact Aki (fun z=> [z]) g.t_inv,fun _=>rfl⟩
theorem Br.s:Br ByteArray (fun n=> [.s n]):=⟨fun h=>by have h:_=_:=h; subst h; exact .c1 (.s _),fun h=>by obtain⟨v,rfl,g⟩:=FRL.c1_inv h; exact Aki (fun z=> [z]) g.s_inv,fun _=>rfl⟩
theorem Br.pair {α β:Type} [GoT α] [GoT β]{E:α→List D}{F:β→List D}(a:Br α E)(b:Br β F):Br (α×β) (fun x=>E x.1++F x.2):=
 ⟨fun⟨c,d,e,h1,h2⟩=>by subst e; exact(a.to h1).append (b.to h2),fun {m cs x} h=>by
  have h1:=h.take (E x.1).length;have h2:=h.drop (E x.1).length;rw[AkS]at h1;rw[AkP]at h2;exact⟨_,_,(List.take_append_drop _ _).symm,a.of h1,b.of h2⟩,fun x=>by
  rw[AjJ,a.len,b.len]; rfl⟩
section
variable {α:Type} [GoT α]{E:α→List D}{m:Mem}{v:Value}
theorem Br.toL (b:Br α E): ∀{xs:List α} {cs:List Value},Ba m cs xs→FRL m (xs.flatMap E) cs
 | [],cs,h=>by have h:cs=[]:=h; subst h; exact .nil
 |x::xs,cs,⟨c,d,e,h1,h2⟩=>by subst e; rw[Akz]; exact(b.to h1).append (b.toL h2)
theorem Br.ofL (b:Br α E): ∀{xs:List α} {cs:List Value},FRL m (xs.flatMap E) cs→Ba m cs xs
 | [],cs,h=>show cs=[]from FRL.nil_inv (by simpa using h)
 |x::xs,cs,h=>by
  rw[Akz]at h;have h1:=h.take (E x).length;have h2:=h.drop (E x).length;rw[AkS]at h1;rw[AkP]at h2;exact⟨_,_,(List.take_append_drop _ _).symm,b.of h1,b.ofL h2⟩
theorem Br.toS (b:Br α E){xs:List α}(h:SlR m v xs):FR m (.sl α E xs) v:=by
 obtain⟨cs,h1,h2⟩:=h;have:=b.toL h2;exact .sl h1 (fun x _=>b.len x) this.1 this.2
theorem Br.ofS (b:Br α E){xs:List α}(h:FR m (.sl α E xs) v):SlR m v xs:=by
 cases h with
 | @sl _ _ _ sz' _ cs h hE' hl hr=>
  refine⟨cs,?_,b.ofL ⟨hl,hr⟩⟩;cases xs with
  |nil=>
   have:cs=[]:=by simp at hl; exact List.length_eq_zero_iff.1 hl.symm
   subst this;exact⟨by simp,h.2.1,h.2.2⟩
  |cons x xs=>
   have:sz'=GoT.sz α:=by rw[←hE' x AjZ,b.len x]
   subst this; exact h
theorem Br.sl (b:Br α E):Br (List α) (fun xs=> [.sl α E xs]):=
 ⟨fun⟨v,e,h⟩=>by subst e; exact .c1 (b.toS h),fun h=>by obtain⟨v,rfl,g⟩:=FRL.c1_inv h; exact⟨v,rfl,b.ofS g⟩,fun _=>rfl⟩
theorem Br.mk' {β:Type} [GoT β]{F:β→List D}(b:Br β F)(E:α→List D)(f:α→β)(hr: ∀(m:Mem) (cs:List Value) (x:α),GoT.rep m cs x=GoT.rep m cs (f x))(hE: ∀x,F (f x)=E x)(hs:GoT.sz α=GoT.sz β):Br α E:=
 ⟨fun h=>by rw[←hE]; rw[hr]at h; exact b.to h,fun h=>by rw[←hE]at h; rw[hr]; exact b.of h,fun x=>by rw[←hE,b.len,hs]⟩
theorem Br.toA (b:Br α E){η:Env}{x:α}{cs:List Value}(h:GoT.rep m cs x):Rel η m (.agg ((E x).map dv)) (.agg cs.toArray):=by
 have:=BB.ofDv (η:=η) (b.to h);exact .agg this.1 this.2
theorem Br.ofA (b:Br α E){η:Env}{x:α}{v:Value}(h:Rel η m (.agg ((E x).map dv)) v): ∃cs,v= .agg cs.toArray∧GoT.rep m cs x:=by
 obtain⟨vs,rfl,g⟩:=h.agg_inv;exact⟨vs,rfl,b.of (FRL.ofRelv g)⟩
theorem Br.toR (b:Br α E){η:Env}{n sz:Nat}{cs:List Value}{xs:List α}(hs:GoT.sz α=sz)(hn:η n=some v)(h1:v.oneCell'=true)(h:Ba m cs xs): ∀x,Gw.row sz v cs xs.length x→rep η m (.row n sz α E xs) x:=
 fun x hx=>⟨v,cs,hn,h1,b.toL h,fun x _=>(b.len x).trans hs,hx⟩
end
theorem AeK {A B:Ow}{As Bs:List Ow}(h: ∀x,A x→B x)(k: ∀x,sepL As x→sepL Bs x): ∀x,sepL (A::As) x→sepL (B::Bs) x:=
 fun x ⟨h1,h2,a,s,d,e⟩=>⟨h1,h2,h h1 a,k h2 s,d,e⟩
theorem _root_.Go.Gw.St.impL {m:Mem}{As Bs:List Ow}{w:World}(S:St m As w)(h: ∀x,sepL As x→sepL Bs x):St m Bs w:=by
 obtain⟨x,sx,rx⟩:=S.own;exact⟨S.os,S.tape,S.output,x,h x sx,rx⟩
theorem Rel.tup' {η:Env}{m:Mem}{cs:List AV}{vs:List Value}(h:BB η m cs vs):Rel η m (.tup cs) (.tuple vs.toArray):= .tup h.1 h.2
def Ahb (l:List Value):Env:=fun n=>l[n]?
theorem Ln {l:List Value}{k:Nat}(hk:l.length=k): ∀n,Ahb l n≠none→n<k:=by
 intro n h;rcases Nat.lt_or_ge n l.length with q|q
 ·omega
 ·exact absurd (List.getElem?_eq_none q) h
theorem AfU {η:Env}(hd: ∀n,η n≠none→n<0)(η':Env):η.le η':=fun n v h=>absurd (hd n (by rw[h]; simp)) (by omega)
def cvR (ob:List Tok):AV→AV→AV
 | .tup es,.tup az=> .tup (cvV ob es az).1
 |e,a=>(cvA ob e a).1
theorem Ajh {ob:List Tok}{η:Env}{m:Mem}(k: ∀ns,Kn ob η m ns){e a:AV}{v:Value}(r:Rel η m a v):Rel η m (cvR ob e a) v:=by
 unfold cvR;split
 ·obtain⟨vs,rfl,h⟩:=r.tup_inv;exact .tup' (Rt (k _) h)
 ·exact AdK (k _) r
theorem Sp.fz {P:Program}{k:FuncId}{args:List AV}{er er':AV}{eobs:List AObj}{n1:Nat}(h:Sp P k args [] 0 (is er eobs n1))
  (e:((enO 0 eobs).all (fun p=>KH p.2),okA 0 er',cvR (enO 0 eobs) er' er)=(true,true,er')):Sf P k args er':=by
 simp only[AjH]at e;obtain⟨e1,e2,e3⟩:=e;refine⟨h.1,fun η m As w vs hv hd S=>By.mono (h.2 η m As w vs hv hd S) ?_⟩;rintro v w' ⟨M,η',r,obs',n1',hle,hη,⟨rfl,rfl,rfl⟩,hdom,hR,S'⟩;rw[←J5 (k:=0)]at S';obtain⟨M2,l2,K,S2⟩:=Mq e1 S';have KN: ∀ns,Kn (enO 0 obs') η' M2 ns:=fun ns n hn d hd=>by
  obtain⟨p,hf,hp,_,hnm⟩:=Oo hd;obtain⟨v,a,b⟩:=K p (FF hf);rw[hnm]at a; rw[hp]at b; exact⟨v,a,b⟩
 have hr:=Ajh KN (e:=er') (hR.up Env.le_refl l2);rw[e3]at hr;exact⟨M2,none0,er',[],0,Mem.tr hle l2,AfU hd _,⟨rfl,rfl,rfl⟩,fun n h=>absurd rfl h,UI (fun k hk=>absurd hk (by omega)) e2 hr,S2⟩
theorem Sp.nil0 {P:Program}{k:FuncId}{args:List AV}{sz:Nat}{α:Type}{E:α→List D}{Po:AV→List AObj→Nat→Prop}(h:Sp P k (.ow 0::args) [.row 0 sz α E []] 1 Po)(ha:args.all (okA 0)=true):Sp P k (.d (.v (.slice none 0 0))::args) [] 0 Po:=by
 refine⟨h.1,fun η m As w vs hv hd S=> ?_⟩;obtain⟨v,us,rfl,h1,h2⟩:=hv.cons_inv;have hvv:v= .slice none 0 0:=by have:=h1.dd; cases this; rfl
 subst hvv;have he:η.le (η.put 0 (.slice none 0 0)):=Env.le_put (by cases q:η 0 with|none=>rfl|some u=>exact absurd (hd 0 (by rw[q]; simp)) (by omega));have S1:St m (rep (η.put 0 (.slice none 0 0)) m (.row 0 sz α E [])::As) w:=by
  exact St.closeRow (η:=η.put 0 (.slice none 0 0)) (n:=0) (E:=E) (xs:=[]) Env.put_self rfl (by simpa using FRL.nil) (fun _ h=>by cases h) (St.rowNil S sz)
 have:=h.2 (η.put 0 (.slice none 0 0)) m As w (.slice none 0 0::us) (.cons (.ow Env.put_self rfl) (OS (n:=0) (fun k hk=>absurd hk (by omega)) ha (h2.up he (Mem.rfl' m)))) (fun n hn=>by
  rcases Env.put_dom hn with q|q
  ·have:=hd n q; omega
  ·omega) S1
 refine By.mono this ?_;rintro r w' ⟨M,η',r',obs',n1,a,b,c⟩;exact⟨M,η',r',obs',n1,a,Env.le_tr he b,c⟩
end Go.Ax
end
section
namespace Go.Ax
open Go Go.Gw
structure Vq:Type 1 where
 id:Nat
 nb:Nat
 t:TypeId
 b:List AV
 a:List AV
def Af4 (C:List Vq):List Tok:=C.map fun c=>(c.id,.box c.nb c.b c.t)
def Abc (C:List Vq):List Tok:=C.map fun c=>(c.id,.box c.nb c.a c.t)
def capI (j:Nat):List Vq→List AObj
 | []=> []
 |c::r=> .box j c.b c.t::capI (j+1) r
def capO (j:Nat):List Vq→List AObj
 | []=> []
 |c::r=> .box j c.a c.t::capO (j+1) r
def capR (C:List Vq):AV→AV
 | .pb (j+1) o=>match C[j]? with|some c=> .pb c.nb o|none=> .no
 |a=>a
def capK (C:List Vq):AV→Bool
 | .pb 0 _=>false
 | .pb (j+1) _=>Nat.blt j C.length
 |a=>okA 0 a
def capE (η:Env)(y:Value)(C:List Vq):Env:=fun k=>match k with
 |0=>some y
 |j+1=>match C[j]? with|some c=>η c.nb|none=>none
def capF (n1:Nat)(C:List Vq):Bool:=C.all fun c=>Nat.blt c.nb n1&&(c.b.all (okA 0)&&c.a.all (okA 0))
theorem capRel {η η':Env}{m:Mem}{C:List Vq}(he: ∀(j:Nat) (c:Vq),C[j]? =some c→η' (j+1)=η c.nb){a:AV}{v:Value}(h:capK C a=true)(r:Rel η m (capR C a) v):Rel η' m a v:=by
 have key: ∀a,okA 0 a=true→Rel η m a v→Rel η' m a v:=fun a ha hr=>UI (n:=0) (fun k hk=>absurd hk (Nat.not_lt_zero k)) ha hr;cases a with
 |pb j o=>
  cases j with
  |zero=>cases h
  |succ j=>
   have hl:=Dg (show Nat.blt j C.length=true from h);have hc:C[j]? =some C[j]:=Aks hl;have hr:Rel η m (match C[j]? with|some c=>AV.pb c.nb o|none=> .no) v:=r;rw[hc]at hr;obtain⟨b,hb,rfl⟩:=hr.pb_inv;exact .pb (by rw[he j _ hc]; exact hb)
 |_=>exact key _ h r
theorem Ajo {η η':Env}{m:Mem}{C:List Vq}(he: ∀(j:Nat) (c:Vq),C[j]? =some c→η' (j+1)=η c.nb){aq:List AV}{vs:List Value}(h:aq.all (capK C)=true)(r:BB η m (aq.map (capR C)) vs):BB η' m aq vs:=
 ⟨by rw[←r.1,Akh],fun k a u ha hu=>capRel he (Aj7.1 h a (Aj2 ha)) (r.2 k (capR C a) u (by rw[Akj,ha]; rfl) hu)⟩
theorem capIn {η η':Env}{m:Mem}: ∀{C D:List Vq} {j:Nat},(∀(i:Nat) (c:Vq),C[i]? =some c→η' (j+i)=η c.nb)→(C.all fun c=>c.b.all (okA 0))=true→
  ∀x,sepL ((Af4 C).map fun p=>rep η m p.2) x→sepL ((capI j C).map (rep η' m)) x
 | [],_,_,_,_,x,h=>h
 |c::r,D,j,he,ho,x,h=>by
  simp only[Akv,AjE]at ho;refine AeK (fun y hy=> ?_) (capIn (D:=D) (j:=j+1) (fun i d hd=>by rw[show j+1+i=j+(i+1)from by omega]; exact he (i+1) d (by simpa using hd)) ho.2) x h;obtain⟨b,vs,h1,h2,h3,h4⟩:=hy;exact⟨b,vs,by rw[show j=j+0 from rfl,he 0 c rfl]; exact h1,OS (n:=0) (fun k hk=>absurd hk (Nat.not_lt_zero k)) ho.1 h2,h3,h4⟩
theorem Aho {η η':Env}{m:Mem}: ∀{C D:List Vq} {j:Nat},(∀(i:Nat) (c:Vq),C[i]? =some c→∀v,η' (j+i)=some v→η c.nb=some v)→(C.all fun c=>c.a.all (okA 0))=true→
  ∀x,sepL ((capO j C).map (rep η' m)) x→sepL ((Abc C).map fun p=>rep η m p.2) x
 | [],_,_,_,_,x,h=>h
 |c::r,D,j,he,ho,x,h=>by
  simp only[Akv,AjE]at ho;refine AeK (fun y hy=> ?_) (Aho (D:=D) (j:=j+1) (fun i d hd v hv=>he (i+1) d (by simpa using hd) v (by rw[show j+(i+1)=j+1+i from by omega]; exact hv)) ho.2) x h;obtain⟨b,vs,h1,h2,h3,h4⟩:=hy;exact⟨b,vs,he 0 c rfl _ h1,OS (n:=0) (fun k hk=>absurd hk (Nat.not_lt_zero k)) ho.1 h2,h3,h4⟩
theorem Y7 {A:Ow}: ∀{l:List Ow} {x:PH},A∈l→sepL l x→∃y,A y
 | [],_,h,_=>by cases h
 |B::l,x,h,⟨k1,k2,a,s,_,_⟩=>by
  rcases Aj5.1 h with rfl|h
  ·exact⟨k1,a⟩
  ·exact Y7 h s
theorem AeJ {A B C D:List Ow}(h1: ∀x,sepL A x→sepL C x)(h2: ∀x,sepL B x→sepL D x)(x:PH)(h:sepL (A++B) x):sepL (C++D) x:=by
 obtain⟨k1,k2,s1,s2,dd,rfl⟩:=LV h;exact NV (h1 _ s1) (h2 _ s2) dd
section
variable {P:Program}{N:Nat}{D0:Dw}{Q:D7}{As:List Ow}{η0:Env}{m0:Mem}
theorem Yi (hD:D0.2.2=false){n0:Nat}(n1 nx:Nat)(C:List Vq){cf:Cf}{ι κ α:Type}{gt:Nat}{ps:List Nat}{gf:FuncId}{cs:List AV}{r0:AV}(sl0:Sl)(oJ:ι→List Tok)(oK:κ→List Tok)
  (A:α→List AV) (sB:ι→α→AS) (p:ι→α→Option (ι⊕κ)) (x0:ι) {s1:ι⊕κ} (hd: ∀n,η0 n≠none→n<n0)
  (hs: ∀(g:Value) (R:(ι⊕κ)→Mem→Ow),Agj P g A R (XE p)→Sp P gf (.ow 0::cs) (.hp 0 (.cb g (ι⊕κ) R (.inl x0))::capI 1 C) (C.length+1) (is r0 (.hp 0 (.cb g (ι⊕κ) R s1)::capO 1 C) (C.length+1)))
  (hsl:get sl0 gt= .fn (.func gf) [] (cs.map (capR C))) (hAl: ∀a,ps.length=(A a).length)
  (hJ: ∀x,(XU (tids (oJ x))&&Wr nx (tids (oJ x)))=true) (hJC: ∀x,(XU (tids (oJ x++Abc C))&&Wr nx (tids (oJ x++Abc C)))=true) (hK: ∀y,(XU (tids (oK y++Abc C))&&Wr nx (tids (oK y++Abc C)))=true)
  (hA: ∀x a s',p x a=some s'→∀l D0 As η0 m0,(∀n,η0 n≠none→n<n1)→∀Jp,Bk As η0 m0 (fun _:Unit=>sB x a) (fun _=>True) Jp→Go (some l) P N D0 (retQ fun _ _=>False) As η0 m0 (asgC (aC P N cf) ⟨slz N sl0 ps (A a),oJ x,[],nx⟩ Jp))
  (hB: ∀x a s',p x a=some s'→∀l D0 As η0 m0,(∀n,η0 n≠none→n<n1)→∀Jp,Bk As η0 m0 (fun y=>⟨sl0,oJ y,[],nx⟩) (fun y=>s'= .inl y) Jp→∀Jr,Bk As η0 m0 (fun y=>⟨sl0,oK y,[],nx⟩) (fun y=>s'= .inr y) Jr→
   Go (some l) P N D0 (retQ Jr) As η0 m0 (bodC (aC P N cf) (sB x a) Jp))
  (h1: ∀x,s1= .inl x→Go none P N D0 Q As η0 m0 ⟨⟨sl0,oJ x++Abc C,[],nx⟩,.pop,(aC P N cf).K⟩)
  (h2: ∀y,s1= .inr y→Go none P N D0 Q As η0 m0 ⟨⟨sl0,oK y++Abc C,[],nx⟩,.ret,(aC P N cf).K⟩)
  (e:(rgK (aC P N cf),vwL (aC P N cf).s ⟨sl0,oJ x0++Af4 C,[],nx⟩ n0,(vwP (aC P N cf).s ⟨sl0,oJ x0++Af4 C,[],nx⟩).isSome,bL P N cf)=(some (gt,ps),vwR (aC P N cf).s ⟨sl0,oJ x0++Af4 C,[],nx⟩,true,bR P N cf):=by kernel_rfl)
  (hok:(cs.all (capK C)&&((sl0.map (·.2)).all (okA n1)&&(Nat.ble n0 n1&&capF n1 C)))=true:=by kernel_rfl) (hm:P.follows .mixedOrders=true:=by rfl):Go none P N D0 Q As η0 m0 cf:=by
 simp only[AjH]at e;obtain⟨e1,e2,e4,e3⟩:=e;refine A7 hm (.of e3) ?_;generalize aC P N cf=c0 at*;obtain⟨s,md,K⟩:=c0;unfold rgK at e1;split at e1
 ·rename_i g' ps' asg bo hmd;simp only at hmd; subst hmd;simp only[AjL,AjH]at e1;obtain⟨rfl,rfl⟩:=e1;simp only[AjE]at hok;obtain⟨o1,o2,o3,o4⟩:=hok;have o3:=AjO o3;have o4': ∀c∈C,c.nb<n1∧c.b.all (okA 0)=true∧c.a.all (okA 0)=true:=fun c hc=>by
   have:=Aj7.1 o4 c hc;simp only[AjE]at this;exact⟨Dg this.1,this.2.1,this.2.2⟩
  intro η m f w a1 a2 g;obtain⟨η1,m1,l1,le1,g1⟩:=Nc e2 e4 hd a1 g;have hfn:Rel η1 m1 (get sl0 g') (f g'):=g1.slr g';rw[hsl]at hfn;obtain⟨us,caps,hv,hu,hc⟩:=hfn.fn_inv;have:=hu.nil_inv; subst this;have he: ∀k,k<n1→Yx η1 n1 k=η1 k:=fun k hk=>AjF hk;have hslc: ∀t,Rel (Yx η1 n1) m1 (get sl0 t) (f t):=fun t=>UI he (Adq o2 t) (g1.slr t);have hle:η0.le (Yx η1 n1):=fun k v hk=>by
   unfold Yx; rw[AjF (AkN (hd k (by rw[hk]; simp)) o3)]; exact le1 k v hk
  have hdc: ∀n,Yx η1 n1 n≠none→n<n1:=fun k hk=>by
   unfold Yx at hk;split at hk
   ·assumption
   ·exact absurd rfl hk
  have hce:(Yx η1 n1).le η1:=fun k v hk=>by
   unfold Yx at hk;split at hk
   ·exact hk
   ·cases hk
  have eg: ∀(args:Array Value) w,(callFunc gf args).run P w= .ok (.enter gf args) w:=
   (hs undef (fun _ _ _=>False) (fun s x r _ m vs As w _ S=>by
    obtain⟨h,⟨h1,h2,⟨_,_,ff⟩,_⟩,_⟩:=S.own;exact ff.elim)).1
  have hps:ps'.toList.toArray=ps':=by simp
  rw[←hps];have gst:St m1 (reps η1 m1 (oJ x0)++As++(Af4 C).map fun p=>rep η1 m1 p.2) w:=by
   have:=g1.st;rw[show(⟨sl0,oJ x0++Af4 C,[],nx⟩:AS).ob=oJ x0++Af4 C from rfl,Bi,AjP]at this;refine this.perm ?_;rw[AjP];exact Akf _ List.perm_append_comm
  have hnb: ∀c∈C,∃b,η1 c.nb=some (pt b 0):=fun c hc=>by
   obtain⟨x,hx,_⟩:=gst.own;obtain⟨y,b,vs,hb,_⟩:=Y7 (A:=rep η1 m1 (.box c.nb c.b c.t)) (List.mem_append_right _ (List.mem_map.2 ⟨_,List.mem_map.2 ⟨c,hc,rfl⟩,rfl⟩)) hx;exact⟨b,hb⟩
  refine NH gst (show ev f (.tmp g')=_ from hv) eg (fun l i w1 hi S1=> ?_) hD;have hcb:Agj P (.func (.yield l) #[] #[]) A (rgR l i oJ oK As (Yx η1 n1) m1 nx) (XE p):=rg_cb hi hdc hslc hAl hJ (fun x a s' h l D0 As η0 m0 hd=>hA x a s' h l D0 As η0 m0 hd _ ⟨fun _ _ h=>h⟩) (fun x a s' h l D0 As η0 m0 hd=>hB x a s' h l D0 As η0 m0 hd _ ⟨fun _ _ h=>h⟩ _ ⟨fun _ _ h=>h⟩);have hE: ∀(j:Nat) (c:Vq),C[j]? =some c→capE η1 (.func (.yield l) #[] #[]) C (j+1)=η1 c.nb:=fun j c h=>by
   show(match C[j]? with|some c=>η1 c.nb|none=>none)=_;rw[h]
  have sp:=(hs _ _ hcb).2 (capE η1 (.func (.yield l) #[] #[]) C) m1 [] w1 (.func (.yield l) #[] #[]::caps) (BB.cons (.ow rfl rfl) (Ajo hE o1 hc))
   (fun k hk=>by
    cases k with
    |zero=>omega
    |succ j=>
     by_cases hj:j<C.length
     ·omega
     ·exact absurd (show(match C[j]? with|some c=>η1 c.nb|none=>none)=none from by rw[List.getElem?_eq_none (by omega)]) hk)
   (by
    obtain⟨x,hx,hr⟩:=S1.own;refine⟨S1.os,S1.tape,S1.output,x,?_,hr⟩;rw[Akk];have hx':sepL ([fun h=>sepL (Lp l i .ready none::(reps η1 m1 (oJ x0)++As)) h]++(Af4 C).map fun p=>rep η1 m1 p.2) x:=by
     have hx:sepL ((Lp l i .ready none::(reps η1 m1 (oJ x0)++As))++(Af4 C).map fun p=>rep η1 m1 p.2) x:=hx;obtain⟨k1,k2,s1,s2,dd,rfl⟩:=LV hx;exact NV (Y6 s1) s2 dd
    show sepL ([rep (capE η1 (.func (.yield l) #[] #[]) C) m1 (AObj.hp 0 (.cb (.func (.yield l) #[] #[]) (ι⊕κ) (rgR l i oJ oK As (Yx η1 n1) m1 nx) (.inl x0)))]++(capI 1 C).map (rep (capE η1 (.func (.yield l) #[] #[]) C) m1)) x;exact AeJ (fun y hy=>by
     have hy:=AbT hy;exact Y6 ⟨0,rfl,m1,Mem.rfl' m1,η1,hce,Mem.rfl' m1,fun n hn=>g1.dom n hn,hy⟩) (capIn (D:=C) (j:=1) (fun i c h=>by rw[Nat.add_comm]; exact hE i c h) (Aj7.2 fun c hc=>(o4' c hc).2.1)) x hx')
  refine sp.mono ?_;rintro v w2 ⟨M,η2,r,obs',n2,l2,le2,⟨rfl,rfl,rfl⟩,dom2,rr,S2⟩;obtain⟨x,hx,hr⟩:=S2.own;rw[Akk]at hx;obtain⟨k1,k2,⟨b,hb,M0,lM,η3,c1,c2,c3,c4⟩,s2,dd,rfl⟩:=hx;have hn3: ∀c∈C,∀v,η1 c.nb=some v→η3 c.nb=some v:=fun c hc v hv=>c1 _ _ (by rw[he _ (o4' c hc).1]; exact hv);have s3:=Aho (η:=η3) (D:=C) (j:=1) (fun i c h v hv=>by
   have hc:=Aj2 h;cases hq:η1 c.nb with
   |none=>
    obtain⟨b,hb⟩:=hnb c hc;rw[hb]at hq; cases hq
   |some u=>
    have:=le2 (i+1) u (by rw[hE i c h]; exact hq);rw[Nat.add_comm]at hv;rw[this]at hv;rw[←AjC hv]; exact hn3 c hc u hq) (Aj7.2 fun c hc=>(o4' c hc).2.2) k2 s2
  have S3:St M (Lp l i (rgSt s1).1 (rgSt s1).2::(reps η3 M0 (rgOb oJ oK s1)++As++(Abc C).map fun p=>rep η3 M p.2)) w2:=by
   refine⟨S2.os,S2.tape,S2.output,_,?_,hr⟩;have:=NV c4 s3 dd;exact this
  refine⟨M,(rgSt s1).1,(rgSt s1).2,_,l2,(by cases s1<;>exact fun h=>(by cases h)),S3,fun M' w3 lM' S4=> ?_⟩;have S4a:St M' (reps η3 M0 (rgOb oJ oK s1)++(As++(Abc C).map fun p=>rep η3 M p.2)) w3:=by rw[←AjP]; exact S4
  have S4b:=St.ru Env.le_refl (Mem.tr lM lM') S4a;have S4c:St M' (reps η3 M (Abc C)++(reps η3 M' (rgOb oJ oK s1)++As)) w3:=S4b.perm (by
   rw[←AjP]; exact List.perm_append_comm)
  have S5:St M' (reps η3 M' (rgOb oJ oK s1++Abc C)++As) w3:=(St.ru Env.le_refl lM' S4c).perm (by
   rw[Bi,AjP];exact AjV _ _ _)
  have lm:m0≤M':=Mem.tr a2 (Mem.tr l1 (Mem.tr l2 lM'));have hsr: ∀t,Rel η3 M' (get sl0 t) (f t):=fun t=>(hslc t).up c1 (Mem.tr l2 lM');cases s1 with
  |inl x1=>
   have hj:=hJC x1;simp only[AjE]at hj;exact h1 x1 rfl η3 M' f w3 (Env.le_tr hle c1) lm ⟨hsr,fun n d h=>(by cases h),c3,S5,Ho hj.1,fun t ht=>Of hj.2 t ht⟩
  |inr y=>
   have hj:=hK y;simp only[AjE]at hj;have gr:=Q3 hm (cf:=⟨⟨sl0,oK y++Abc C,[],nx⟩,.code .ret,K⟩) rfl trivial (h2 y rfl);exact gr η3 M' f w3 (Env.le_tr hle c1) lm ⟨hsr,fun n d h=>(by cases h),c3,S5,Ho hj.1,fun t ht=>Of hj.2 t ht⟩
 ·cases e1
end
def pN {σ α:Type}(b:α→σ→Option σ)(s:σ)(x:α):Option (σ⊕Unit):=(b x s).map .inl
def fJ {σ:Type}(z:σ×Nat):σ⊕(σ×Nat):=if z.2=0 then .inl z.1 else .inr z
def pJ {σ α:Type}(b:α→σ×Nat→Option (σ×Nat))(s:σ)(x:α):Option (σ⊕(σ×Nat)):=(b x (s,0)).map fJ
theorem hyN {σ α:Type}{b:α→σ→Option σ}: ∀(s:σ) (x:α) (r:Bool×σ),(fun(s:σ) (x:α)=>Ab (b x s) fun y=>some (true,y)) s x=some r→XE (pN b) (.inl s) x=some (r.1,.inl r.2):=fun s x r h=>by
 obtain⟨y,hy,h⟩:=Ad h;cases h;show((b x s).map Sum.inl).map _=_;rw[hy]; rfl
theorem hyJ {σ α:Type}{b:α→σ×Nat→Option (σ×Nat)}: ∀(s:σ×Nat) (x:α) (r:Bool×(σ×Nat)),(fun(s:σ×Nat) (x:α)=>if s.2=0 then Ab (b x s) fun y=>some (y.2==0,y)else none) s x=some r→XE (pJ b) (fJ s) x=some (r.1,fJ r.2):=fun s x r h=>by
 obtain⟨s1,k⟩:=s;by_cases hk:k=0
 ·subst hk;have h:(Ab (b x (s1,0)) fun y=>some (y.2==0,y))=some r:=h;obtain⟨y,hy,h⟩:=Ad h;cases h;show((b x (s1,0)).map fJ).map _=_;rw[hy];obtain⟨y1,k⟩:=y;show some (isL (fJ (y1,k)),fJ (y1,k))=some (k==0,fJ (y1,k));unfold fJ;by_cases hk:k=0
  ·subst hk; rfl
  ·rw[AjG (show¬(y1,k).2=0 from hk)];have:(k==0)=false:=by simpa using hk
   rw[this]; rfl
 ·have h:(if k=0 then _ else none)=some r:=h;rw[AjG hk]at h; cases h
theorem fJ_inl {σ:Type}{z:σ×Nat}{x:σ}(h:fJ z= .inl x):z.2=0∧z.1=x:=by
 unfold fJ at h;split at h
 ·rename_i hz; exact⟨hz,Sum.inl.inj h⟩
 ·cases h
theorem fJ_inr {σ:Type}{z y:σ×Nat}(h:fJ z= .inr y): ¬z.2=0∧z=y:=by
 unfold fJ at h;split at h
 ·cases h
 ·rename_i hz; exact⟨hz,Sum.inr.inj h⟩
section
variable {P:Program}
theorem via {τ ι κ α:Type}{A:α→List AV}{y:τ→α→Option (Bool×τ)}{p:ι→α→Option (ι⊕κ)}(f:τ→ι⊕κ){gf:FuncId}{args:List AV}{O O':List AObj}{n:Nat}{r0:AV}{t0 t1:τ}{x0:ι}
  (hy: ∀s x r,y s x=some r→XE p (f s) x=some (r.1,f r.2)) (h0:f t0= .inl x0)
  (hs: ∀(g:Value) (R:τ→Mem→Ow),Agj P g A R y→Sp P gf args (.hp 0 (.cb g τ R t0)::O) n (is r0 (.hp 0 (.cb g τ R t1)::O') n)) (g:Value) (R:(ι⊕κ)→Mem→Ow) (hc:Agj P g A R (XE p)):
  Sp P gf args (.hp 0 (.cb g (ι⊕κ) R (.inl x0))::O) n (is r0 (.hp 0 (.cb g (ι⊕κ) R (f t1))::O') n):=by
 have h:=hs g (fun s=>R (f s)) (fun s x r h m vs As w hv S=>hc (f s) x (r.1,f r.2) (hy s x r h) m vs As w hv S);rw[←h0];refine⟨h.1,fun η m As w vs hv hd S=> ?_⟩;refine(h.2 η m As w vs hv hd S).mono ?_;rintro v w' ⟨M,η',r,obs',n',l,le,⟨rfl,rfl,rfl⟩,dom,rr,S'⟩;exact⟨M,η',_,_,_,l,le,⟨rfl,rfl,rfl⟩,dom,rr,S'⟩
end
end Go.Ax
end
section
namespace Go.Ax
open Go Go.Gw
section
variable {P:Program}{ρ:Option Nat}{N:Nat}{D0:Dw}{Q:D7}{As:List Ow}{η0:Env}{m0:Mem}{cf:Cf}{n0:Nat}{σ τ α:Type}
def Nx (As:List Ow)(η0:Env)(m0:Mem)(J:σ→AS)(b:σ→Option (σ⊕τ))(x:τ)(Jl:Fr→World→Prop)(y:σ⊕τ):Prop:= ∃n,Bk As η0 m0 (fun p:Nat×σ=>J p.2) (fun p=>iter b p.1 p.2=some x∧p.1<n+1) Jl∧((∃s,y= .inl s∧iter b n s=some x)∨y= .inr x)
theorem gI {b:σ→Option (σ⊕τ)}{n:Nat}{s0:σ}{x:τ}(q:iter b n s0=some x)(J:σ→AS)(h: ∀s y Jl,b s=some y→Nx As η0 m0 J b x Jl y→Go ρ P N D0 Q As η0 m0 (rndC (aC P N cf) (J s) Jl))(hd: ∀n,η0 n≠none→n<n0:=by assumption)
  (e:((ZB (aC P N cf)).isSome,vwL (aC P N cf).s (J s0) n0,(vwP (aC P N cf).s (J s0)).isSome,bL P N cf)=(true,vwR (aC P N cf).s (J s0),true,bR P N cf):=by kernel_rfl) (hM:P.follows .mixedOrders=true:=by rfl):
  Go ρ P N D0 Q As η0 m0 cf:=
 gl hd (fun p:Nat×σ=>J p.2) (fun p=>iter b p.1 p.2=some x) (fun p=>p.1) (n,s0) q (by
  rintro⟨n,s⟩ hq Jl bl;cases n with
  |zero=>exact(Ol hq).elim
  |succ n=>obtain⟨y,h1,h2⟩:=KG hq; exact h s y Jl h1 ⟨n,bl,h2⟩) e hM
theorem gN {J:σ→AS}{b:σ→Option (σ⊕τ)}{x:τ}{Jl:Fr→World→Prop}{y:σ⊕τ}{s:σ}(nx:Nx As η0 m0 J b x Jl y)(q:some (Sum.inl s)=some y)(hd: ∀n,η0 n≠none→n<n0:=by assumption)
  (e:(Aa2 (aC P N cf),vwL (aC P N cf).s (J s) n0,(vwP (aC P N cf).s (J s)).isSome,bL P N cf)=(some Jl,vwR (aC P N cf).s (J s),true,bR P N cf):=by kernel_rfl) (hM:P.follows .mixedOrders=true:=by rfl):
  Go ρ P N D0 Q As η0 m0 cf:=by
 cases q; obtain⟨n,bl,h⟩:=nx;rcases h with ⟨s',hs,h⟩|h
 ·cases hs; exact gb bl hd (n,_) ⟨h,Aj4 _⟩ e hM
 ·cases h
theorem nR {J:σ→AS}{b:σ→Option (σ⊕τ)}{x v:τ}{Jl:Fr→World→Prop}{y:σ⊕τ}(nx:Nx As η0 m0 J b x Jl y)(q:some (Sum.inr v)=some y):v=x:=by
 cases q; obtain⟨n,-,⟨s,h,-⟩|h⟩:=nx
 ·cases h
 ·cases h; rfl
structure Pr (σ:Type) where
 n:Nat
 p:Nat→σ→Prop
def E0 (b:Int→α→σ→Option σ)(xs:List α)(x:σ):Pr σ:=⟨xs.length,fun i s=>Db b (xs.drop i) i s=some x⟩
def ER (b:Int→α→σ→Option (σ⊕τ))(xs:List α)(x:σ⊕τ):Pr σ:=⟨xs.length,fun i s=>JC b (xs.drop i) i s=some x⟩
def EM (b:Int→σ→Option σ)(n:Nat)(x:σ):Pr σ:=⟨n,fun i s=>B3 b (n-i) i s=some x⟩
def EN (b:Int→σ→Option (σ⊕τ))(n:Nat)(x:σ⊕τ):Pr σ:=⟨n,fun i s=>Kb b (n-i) i s=some x⟩
def Ng (As:List Ow)(η0:Env)(m0:Mem)(J:Int→σ→AS)(r:Pr σ)(Jl:Fr→World→Prop)(i:Nat):Prop:=i<r.n∧Bk As η0 m0 (fun p:Int×σ=>J p.1 p.2) (fun p=>(∃i:Nat,p.1=(i:Int)∧i≤r.n∧r.p i p.2)∧r.n-p.1.toNat<r.n-((i:Int)).toNat) Jl
def Nf (As:List Ow)(η0:Env)(m0:Mem)(J:Int→σ→AS)(r:Pr σ)(Jl:Fr→World→Prop)(i:Nat)(s:σ):Prop:=r.p i s∧(i<r.n→Ng As η0 m0 J r Jl i)
theorem gF (r:Pr σ){s0:σ}(q:r.p 0 s0)(J:Int→σ→AS)(h: ∀(i:Nat) s Jl,Nf As η0 m0 J r Jl i s→Go ρ P N D0 Q As η0 m0 (rndC (aC P N cf) (J i s) Jl))(hd: ∀n,η0 n≠none→n<n0:=by assumption)
  (e:((ZB (aC P N cf)).isSome,vwL (aC P N cf).s (J 0 s0) n0,(vwP (aC P N cf).s (J 0 s0)).isSome,bL P N cf)=(true,vwR (aC P N cf).s (J 0 s0),true,bR P N cf):=by kernel_rfl) (hM:P.follows .mixedOrders=true:=by rfl):
  Go ρ P N D0 Q As η0 m0 cf:=
 gl hd (fun p:Int×σ=>J p.1 p.2) (fun p=> ∃i:Nat,p.1=(i:Int)∧i≤r.n∧r.p i p.2) (fun p=>r.n-p.1.toNat) (0,s0) ⟨0,rfl,AkA _,q⟩ (by
  rintro⟨_,s⟩ ⟨i,rfl,hi,h1⟩ Jl bl;exact h i s Jl ⟨h1,fun hl=>⟨hl,bl⟩⟩) e hM
theorem gG {J:Int→σ→AS}{r:Pr σ}{Jl:Fr→World→Prop}{i:Nat}{s:σ}(ng:Ng As η0 m0 J r Jl i)(hn:r.n≤9223372036854775807)(q:r.p (i+1) s)(hd: ∀n,η0 n≠none→n<n0:=by assumption)
 (e:(Aa2 (aC P N cf),vwL (aC P N cf).s (J (w64 ((i:Int)+1)) s) n0,(vwP (aC P N cf).s (J (w64 ((i:Int)+1)) s)).isSome,bL P N cf)=(some Jl,vwR (aC P N cf).s (J (w64 ((i:Int)+1)) s),true,bR P N cf):=by kernel_rfl) (hM:P.follows .mixedOrders=true:=by rfl):
 Go ρ P N D0 Q As η0 m0 cf:=gb ng.2 hd (w64 ((i:Int)+1),s) ⟨⟨i+1,JM ng.1 hn,ng.1,q⟩,mu_lt ng.1 hn⟩ e hM
theorem gC {J:Int→σ→AS}{r:Pr σ}{Jl:Fr→World→Prop}{i:Nat}{s:σ}(nf:Nf As η0 m0 J r Jl i s)(t:Int)(ht:(i:Int)<t↔i<r.n)(h1:i<r.n→Ng As η0 m0 J r Jl i→r.p i s→Go ρ P N D0 Q As η0 m0 (way true (aC P N cf)))(h0: ¬i<r.n→r.p i s→Go ρ P N D0 Q As η0 m0 (way false (aC P N cf)))
 (e:(Va (aC P N cf),bL P N cf)=(some (decide ((i:Int)<t)),bR P N cf):=by kernel_rfl) (hM:P.follows .mixedOrders=true:=by rfl):
 Go ρ P N D0 Q As η0 m0 cf:=gi' (fun h=>have h:=ht.1 (AkF h); h1 h (nf.2 h) nf.1) (fun h=>h0 (fun h'=>AkL h (ht.2 h')) nf.1) e hM
theorem c0 {b:Int→α→σ→Option σ}{xs:List α}{x:σ}{J:Int→σ→AS}{Jl:Fr→World→Prop}{i:Nat}{s:σ}(nf:Nf As η0 m0 J (E0 b xs x) Jl i s)(h1: ∀z y,idx xs i=some z→b i z s=some y→Ng As η0 m0 J (E0 b xs x) Jl i∧(E0 b xs x).p (i+1) y→Go ρ P N D0 Q As η0 m0 (way true (aC P N cf)))(h0:x=s→Go ρ P N D0 Q As η0 m0 (way false (aC P N cf)))
 (e:(Va (aC P N cf),bL P N cf)=(some (decide ((i:Int)<(xs.length:Int))),bR P N cf):=by kernel_rfl) (hM:P.follows .mixedOrders=true:=by rfl):
 Go ρ P N D0 Q As η0 m0 cf:=gC nf _ Int.ofNat_lt (fun hl ng q=>let ⟨z,y,a,b,c⟩:=MC q hl; h1 z y a b ⟨ng,c⟩) (fun hl q=>h0 (KJ q hl)) e hM
theorem cR {b:Int→α→σ→Option (σ⊕τ)}{xs:List α}{x:σ⊕τ}{J:Int→σ→AS}{Jl:Fr→World→Prop}{i:Nat}{s:σ}(nf:Nf As η0 m0 J (ER b xs x) Jl i s)(h1: ∀z y,idx xs i=some z→b i z s=some y→Ng As η0 m0 J (ER b xs x) Jl i∧((∃s',y= .inl s'∧(ER b xs x).p (i+1) s')∨(∃t,y= .inr t∧x= .inr t))→Go ρ P N D0 Q As η0 m0 (way true (aC P N cf)))(h0: .inl s=x→Go ρ P N D0 Q As η0 m0 (way false (aC P N cf)))
 (e:(Va (aC P N cf),bL P N cf)=(some (decide ((i:Int)<(xs.length:Int))),bR P N cf):=by kernel_rfl) (hM:P.follows .mixedOrders=true:=by rfl):
 Go ρ P N D0 Q As η0 m0 cf:=gC nf _ Int.ofNat_lt (fun hl ng q=>let ⟨z,y,a,b,c⟩:=AfO q hl; h1 z y a b ⟨ng,c⟩) (fun hl q=>h0 (AdD q hl).symm) e hM
theorem cM {b:Int→σ→Option σ}{n:Nat}{x:σ}{J:Int→σ→AS}{Jl:Fr→World→Prop}{i:Nat}{s:σ}(nf:Nf As η0 m0 J (EM b n x) Jl i s)(t:Int)(h1: ∀y,b i s=some y→Ng As η0 m0 J (EM b n x) Jl i∧(EM b n x).p (i+1) y→Go ρ P N D0 Q As η0 m0 (way true (aC P N cf)))(h0:x=s→Go ρ P N D0 Q As η0 m0 (way false (aC P N cf)))
 (e:(Va (aC P N cf),bL P N cf)=(some (decide ((i:Int)<t)),bR P N cf):=by kernel_rfl) (ht:(i:Int)<t↔i<n:=by omega) (hM:P.follows .mixedOrders=true:=by rfl):
 Go ρ P N D0 Q As η0 m0 cf:=gC nf t ht (fun hl ng q=>let ⟨y,b,c⟩:=WS q hl; h1 y b ⟨ng,c⟩) (fun hl q=>h0 (Th q hl)) e hM
theorem cN {b:Int→σ→Option (σ⊕τ)}{n:Nat}{x:σ⊕τ}{J:Int→σ→AS}{Jl:Fr→World→Prop}{i:Nat}{s:σ}(nf:Nf As η0 m0 J (EN b n x) Jl i s)(t:Int)(h1: ∀y,b i s=some y→Ng As η0 m0 J (EN b n x) Jl i∧((∃s',y= .inl s'∧(EN b n x).p (i+1) s')∨(∃t,y= .inr t∧x= .inr t))→Go ρ P N D0 Q As η0 m0 (way true (aC P N cf)))(h0: .inl s=x→Go ρ P N D0 Q As η0 m0 (way false (aC P N cf)))
 (e:(Va (aC P N cf),bL P N cf)=(some (decide ((i:Int)<t)),bR P N cf):=by kernel_rfl) (ht:(i:Int)<t↔i<n:=by omega) (hM:P.follows .mixedOrders=true:=by rfl):
 Go ρ P N D0 Q As η0 m0 cf:=gC nf t ht (fun hl ng q=>let ⟨y,b,c⟩:=AfP q hl; h1 y b ⟨ng,c⟩) (fun hl q=>h0 (AdE q hl).symm) e hM
theorem gM {J:Int→σ→AS}{r:Pr σ}{Jl:Fr→World→Prop}{i:Nat}{s y:σ}(ng:Ng As η0 m0 J r Jl i∧r.p (i+1) y)(hn:r.n≤9223372036854775807)(q:some s=some y)(hd: ∀n,η0 n≠none→n<n0:=by assumption)
 (e:(Aa2 (aC P N cf),vwL (aC P N cf).s (J (w64 ((i:Int)+1)) s) n0,(vwP (aC P N cf).s (J (w64 ((i:Int)+1)) s)).isSome,bL P N cf)=(some Jl,vwR (aC P N cf).s (J (w64 ((i:Int)+1)) s),true,bR P N cf):=by kernel_rfl) (hM:P.follows .mixedOrders=true:=by rfl):
 Go ρ P N D0 Q As η0 m0 cf:=gG ng.1 hn (by cases q; exact ng.2) hd e hM
theorem gT {J:Int→σ→AS}{r:Pr σ}{Jl:Fr→World→Prop}{i:Nat}{s:σ}{x y:σ⊕τ}(ng:Ng As η0 m0 J r Jl i∧((∃s',y= .inl s'∧r.p (i+1) s')∨(∃t,y= .inr t∧x= .inr t)))(hn:r.n≤9223372036854775807)(q:some (Sum.inl s)=some y)(hd: ∀n,η0 n≠none→n<n0:=by assumption)
 (e:(Aa2 (aC P N cf),vwL (aC P N cf).s (J (w64 ((i:Int)+1)) s) n0,(vwP (aC P N cf).s (J (w64 ((i:Int)+1)) s)).isSome,bL P N cf)=(some Jl,vwR (aC P N cf).s (J (w64 ((i:Int)+1)) s),true,bR P N cf):=by kernel_rfl) (hM:P.follows .mixedOrders=true:=by rfl):
 Go ρ P N D0 Q As η0 m0 cf:=gG ng.1 hn (by
  cases q; obtain⟨-,⟨s',h,h2⟩|⟨t,h,-⟩⟩:=ng
  ·cases h; exact h2
  ·cases h) hd e hM
theorem nT {A:Prop}{p:σ→Prop}{v:τ}{x y:σ⊕τ}(ng:A∧((∃s',y= .inl s'∧p s')∨(∃t,y= .inr t∧x= .inr t)))(q:some (Sum.inr v)=some y): .inr v=x:=by
 cases q; obtain⟨-,⟨s',h,-⟩|⟨t,h,h2⟩⟩:=ng
 ·cases h
 ·cases h; exact h2.symm
theorem gE {fn:Func}{n1:Nat}{er:AV}{eobs:List AObj}(hd: ∀n,η0 n≠none→n<n0:=by assumption)
 (e:(endL P fn (aC P N cf) er eobs n0 n1,(Ahc P fn (aC P N cf) er eobs).isSome,bL P N cf)=(endR P fn (aC P N cf) er eobs,true,bR P N cf):=by kernel_rfl) (hM:P.follows .mixedOrders=true:=by rfl):
 Go ρ P N D0 (Wj P N fn (MO As η0 m0 (is er eobs n1))) As η0 m0 cf:=gend hd e hM
theorem bE {β γ:Type}{a:β}{k:β→γ}{z:γ}{G:Prop}(q:bnd a k=z)(g:let x:=a; k x=z→G):G:=g q
theorem gx {xs:List α}{j:Int}{x:α}(E:α→List D)(k:Nat)(q:idx xs j=some x)(g:Go ρ P N D0 Q As η0 m0 (CM N (aC P N cf) (.d (.pf (E x))) (idxT P (aC P N cf))))
 (e:((AiR P (aC P N cf)).map (fun r=>(r.1,r.2.1,r.2.2.1)),aL P N cf)=(some (.sl α E xs,j,k),aR P N cf):=by kernel_rfl) (hE: ∀x,(E x).length=k:=by intro x; rfl) (hM:P.follows .mixedOrders=true:=by rfl):Go ρ P N D0 Q As η0 m0 cf:=gidx hE (fun _=>q) g e hM
theorem gxG [Inhabited α]{c:Bool}{xs:List α}{j:Int}{x:α}(E:α→List D)(k:Nat)(q:gu c (idx xs j)=some x)(g:Go ρ P N D0 Q As η0 m0 (CM N (aC P N cf) (.d (.pf (E x))) (idxT P (aC P N cf))))
 (e:(gOf (aC P N cf),(AiR P (aC P N cf)).map (fun r=>(r.1,r.2.1,r.2.2.1)),aL P N cf)=(c,some (.sl α E xs,j,k),aR P N cf):=by kernel_rfl) (hE: ∀x,(E x).length=k:=by intro x; rfl) (hM:P.follows .mixedOrders=true:=by rfl):Go ρ P N D0 Q As η0 m0 cf:=gidxG hE (fun h=>Yh h q) g e hM
theorem gk {xs ys:List α}{lo hi:Int}(E:α→List D)(k:Nat)(q:cut xs lo hi=some ys)(g:Go ρ P N D0 Q As η0 m0 (CM N (aC P N cf) (.d (.sl α E ys)) (cutT P (aC P N cf))))
 (e:((cutK P (aC P N cf)).map (fun r=>(r.1,r.2.1,r.2.2.1,r.2.2.2.1,r.2.2.2.2.1)),aL P N cf)=(some (.sl α E xs,lo,hi,hi,k),aR P N cf):=by kernel_rfl) (hE: ∀x,(E x).length=k:=by intro x; rfl) (hM:P.follows .mixedOrders=true:=by rfl):Go ρ P N D0 Q As η0 m0 cf:=gcut hE (fun _=>q) g e hM
theorem gp {b:Nat}{xs ys zs:List α}(E:α→List D)(k:Nat)(q:app b xs ys=some zs)(g:Go ρ P N D0 Q As η0 m0 (push N (aC P N cf) (appS P (aC P N cf).s (aC P N cf) k α E zs)))
 (e:(appK P (aC P N cf),aL P N cf)=(some (.sl α E xs,.sl α E ys,b,k,true),aR P N cf):=by kernel_rfl) (hE: ∀x,(E x).length=k:=by intro x; rfl) (hM:P.follows .mixedOrders=true:=by rfl):Go ρ P N D0 Q As η0 m0 cf:=gapp hE q g e hM
theorem gq (E:α→List D)(k:Nat)(xs:List α)(g:Go ρ P N D0 Q As η0 m0 (CM N (aC P N cf) (.d (.sl α E xs)) []))
 (e:(litG P (aC P N cf),aL P N cf)=(some ((xs.flatMap E).map dv,xs.length,k,true),aR P N cf):=by kernel_rfl) (hE: ∀x,(E x).length=k:=by intro x; rfl) (hM:P.follows .mixedOrders=true:=by rfl):Go ρ P N D0 Q As η0 m0 cf:=glitF E xs hE g e hM
theorem gcH {β:Type} [Inhabited β]{c:Bool}{k:FuncId}{ea:List AV}{a:Option β}{x:β}{r:AV}(q:gu c a=some x)(hs:a=some x→Sf P k ea r)(g:Go ρ P N D0 Q As η0 m0 (N0 N (aC P N cf) r))
 (e:(gOf (aC P N cf),AaZ (aC P N cf) ea,ea.all (okA 0),aL P N cf)=(c,some (k,ea),true,aR P N cf):=by kernel_rfl) (hM:P.follows .mixedOrders=true:=by rfl):Go ρ P N D0 Q As η0 m0 cf:=gcG (fun h=>hs (Yh h q)) g e hM
theorem gA {β γ:Type}{a:Option β}{kk:β→Option γ}{z:γ}(hq:Ab a kk=some z){k:FuncId}{ea:List AV}{R:β→AV}(hs: ∀{x},a=some x→Sf P k ea (R x))(g: ∀x,a=some x→kk x=some z→Go ρ P N D0 Q As η0 m0 (N0 N (aC P N cf) (R x)))
 (e:(AaZ (aC P N cf) ea,ea.all (okA 0),aL P N cf)=(some (k,ea),true,aR P N cf):=by kernel_rfl) (hM:P.follows .mixedOrders=true:=by rfl):
 Go ρ P N D0 Q As η0 m0 cf:=gB hq (fun _=>hs) g e hM
theorem gD {β γ:Type}{a:Option β}{kk:β→Option γ}{z:γ}(hq:Ab a kk=some z){k:FuncId}{ea:List AV}{eobs:List AObj}{n1:Nat}{R:β→AV}{O:β→List AObj}(hs: ∀{x},a=some x→Sp P k ea eobs n0 (is (R x) (O x) n1))(g: ∀x,a=some x→kk x=some z→Go ρ P N D0 Q As η0 m0 (AeW N (aC P N cf) ea eobs n0 (R x) (O x) n1))
 (e: ∀x,(Sk (aC P N cf) ea eobs n0,okA n1 (R x)&&((O x).all (okO n1)&&Nat.ble n0 n1),aL P N cf)=(some (k,(LA (aC P N cf) ea eobs).1,(LA (aC P N cf) ea eobs).2,true),true,aR P N cf):=by intro x; kernel_rfl) (hM:P.follows .mixedOrders=true:=by rfl):
 Go ρ P N D0 Q As η0 m0 cf:=gBo hq (fun _=>hs) g e hM
theorem lk {n:Nat}(h:Nat.ble n 9223372036854775807=true:=by rfl):n≤9223372036854775807:=AjO h
theorem sq {k:FuncId}{fn:Func}{c:Code}{args:List AV}{obs:List AObj}{Po:AV→List AObj→Nat→Prop}(h: ∀D0 As η0 m0,(∀n,η0 n≠none→n<n0)→Go none P N D0 (Wj P N fn (MO As η0 m0 Po)) As η0 m0 ⟨Sh args obs n0,.code c,[]⟩)(hf:P.funcs[k]? =some fn:=by rfl)(hb:fn.body=some c:=by rfl)(hN:fn.ntmps=N:=by rfl)(hc: ∀(a:Array Value) w,(callFunc k a).run P w= .ok (.enter k a) w:=by intros; rfl)(hle:Nat.ble args.length N=true:=by rfl):
 Sp P k args obs n0 Po:=sp hc hf hb hN hle h
end
end Go.Ax
end
section
namespace Go.Proofs.YtibojdgdjhngiaaGreatDoor
open Go Go.Gw Go.Ax Tryz
def str_0:ByteArray:=⟨#[0,1,2,2,3,3,3,3,4,4,4,4,4,4,4,4,5,5,5,5,5,5,5,5,5,5,5,5,5,5,5,5,6,6,6,6,6,6,6,6,6,6,6,6,6,6,6,6,6,6,6,6,6,6,6,6,6,6,6,6,6,6,6,6,7,7,7,7,7,7,7,7,7,7,7,7,7,7,7,7,7,7,7,7,7,7,7,7,7,7,7,7,7,7,7,7,7,7,7,7,7,7,7,7,7,7,7,7,7,7,7,7,7,7,7,7,7,7,7,7,7,7,7,7,7,7,7,7,8,8,8,8,8,8,8,8,8,8,8,8,8,8,8,8,8,8,8,8,8,8,8,8,8,8,8,8,8,8,8,8,8,8,8,8,8,8,8,8,8,8,8,8,8,8,8,8,8,8,8,8,8,8,8,8,8,8,8,8,8,8,8,8,8,8,8,8,8,8,8,8,8,8,8,8,8,8,8,8,8,8,8,8,8,8,8,8,8,8,8,8,8,8,8,8,8,8,8,8,8,8,8,8,8,8,8,8,8,8,8,8,8,8,8,8,8,8,8,8,8,8,8,8,8,8,8,8]⟩
structure g_api_Leaf where
 Body:List UInt8
 At:Int
instance:GoT g_api_Leaf where
 sz:=GoT.sz ((List UInt8)×Int)
 rep m cs x:=GoT.rep (α:=(List UInt8)×Int) m cs (x.Body,x.At)
 len h:=GoT.len (α:=(List UInt8)×Int) h
 up l h:=GoT.up (α:=(List UInt8)×Int) l h
 one h:=GoT.one (α:=(List UInt8)×Int) h
instance:Inhabited g_api_Leaf:=⟨⟨default,default⟩⟩
structure Ah where
 Id:Int
 Key:UInt64
 Delay:Int
 L:List g_api_Leaf
 Hide:List Int
 Wait:List g_api_Leaf
instance:GoT Ah where
 sz:=GoT.sz (Int×UInt64×Int×(List g_api_Leaf)×(List Int)×(List g_api_Leaf))
 rep m cs x:=GoT.rep (α:=Int×UInt64×Int×(List g_api_Leaf)×(List Int)×(List g_api_Leaf)) m cs (x.Id,x.Key,x.Delay,x.L,x.Hide,x.Wait)
 len h:=GoT.len (α:=Int×UInt64×Int×(List g_api_Leaf)×(List Int)×(List g_api_Leaf)) h
 up l h:=GoT.up (α:=Int×UInt64×Int×(List g_api_Leaf)×(List Int)×(List g_api_Leaf)) l h
 one h:=GoT.one (α:=Int×UInt64×Int×(List g_api_Leaf)×(List Int)×(List g_api_Leaf)) h
instance:Inhabited Ah:=⟨⟨default,default,default,default,default,default⟩⟩
structure Fw where
 tag_:Int
 may_:Int
instance:Inhabited Fw:=⟨⟨default,default⟩⟩
structure g_api_Item where
 Tag:Int
 B:List UInt8
 L:List g_api_Item
instance:Inhabited g_api_Item:=⟨⟨default,default,default⟩⟩
def Ac (a:g_api_Item):List D:=[.i a.Tag,.sl _ eB a.B,.rs _ (fun a=> [.i a.Tag,.sl _ eB a.B]) (fun a=> []) (fun a=>a.L) a.L]
instance:GoT g_api_Item:=RO Ac 3
theorem Ael {m:Mem}{cs:List Value}{x:g_api_Item}(h:GoT.rep m cs x): ∃v1,∃v2,cs=[vI x.Tag,v1,v2]∧SlR m v1 x.B∧SlR m v2 x.L:=by
 obtain⟨h,_⟩:=h;obtain⟨u0,us0,rfl,a0,g0⟩:=FRL.cons_inv h;cases a0;obtain⟨u1,us1,rfl,a1,g1⟩:=FRL.cons_inv g0;obtain⟨u2,us2,rfl,a2,g2⟩:=FRL.cons_inv g1;obtain rfl:=FRL.nil_inv g2;exact⟨u1,u2,rfl,Br.ofS Br.b a1,XT (Abr a2) (fun _=>rfl)⟩
theorem Afe {m:Mem}{x:g_api_Item}{v1:Value}{v2:Value}(h1:SlR m v1 x.B)(h2:SlR m v2 x.L):GoT.rep m [vI x.Tag,v1,v2] x:=⟨(FRL.cons (.i _) (FRL.cons (Br.toS Br.b h1) (FRL.cons (.rs (VY h2)) FRL.nil))),rfl⟩
theorem Tp:Br g_api_Item Ac:=⟨fun h=>h.1,fun h=>⟨h,rfl⟩,fun _=>rfl⟩
structure g_api_Sig where
 E:UInt64
 S:UInt64
instance:GoT g_api_Sig where
 sz:=GoT.sz (UInt64×UInt64)
 rep m cs x:=GoT.rep (α:=UInt64×UInt64) m cs (x.E,x.S)
 len h:=GoT.len (α:=UInt64×UInt64) h
 up l h:=GoT.up (α:=UInt64×UInt64) l h
 one h:=GoT.one (α:=UInt64×UInt64) h
instance:Inhabited g_api_Sig:=⟨⟨default,default⟩⟩
structure g_api_Promise where
 Log:Int
 At:Int
 Leaf:UInt64×UInt64
 Sig:g_api_Sig
instance:GoT g_api_Promise where
 sz:=GoT.sz (Int×Int×(UInt64×UInt64)×g_api_Sig)
 rep m cs x:=GoT.rep (α:=Int×Int×(UInt64×UInt64)×g_api_Sig) m cs (x.Log,x.At,x.Leaf,x.Sig)
 len h:=GoT.len (α:=Int×Int×(UInt64×UInt64)×g_api_Sig) h
 up l h:=GoT.up (α:=Int×Int×(UInt64×UInt64)×g_api_Sig) l h
 one h:=GoT.one (α:=Int×Int×(UInt64×UInt64)×g_api_Sig) h
instance:Inhabited g_api_Promise:=⟨⟨default,default,default,default⟩⟩
structure g_api_Cert where
 Serial:Int
 Issuer:ByteArray
 Subject:ByteArray
 Key:UInt64
 Names:List ByteArray
 From:Int
 Until:Int
 Ca:Bool
 Depth:Int
 Permit:List ByteArray
 Proms:List g_api_Promise
 Sig:g_api_Sig
instance:GoT g_api_Cert where
 sz:=GoT.sz (Int×ByteArray×ByteArray×UInt64×(List ByteArray)×Int×Int×Bool×Int×(List ByteArray)×(List g_api_Promise)×g_api_Sig)
 rep m cs x:=GoT.rep (α:=Int×ByteArray×ByteArray×UInt64×(List ByteArray)×Int×Int×Bool×Int×(List ByteArray)×(List g_api_Promise)×g_api_Sig) m cs (x.Serial,x.Issuer,x.Subject,x.Key,x.Names,x.From,x.Until,x.Ca,x.Depth,x.Permit,x.Proms,x.Sig)
 len h:=GoT.len (α:=Int×ByteArray×ByteArray×UInt64×(List ByteArray)×Int×Int×Bool×Int×(List ByteArray)×(List g_api_Promise)×g_api_Sig) h
 up l h:=GoT.up (α:=Int×ByteArray×ByteArray×UInt64×(List ByteArray)×Int×Int×Bool×Int×(List ByteArray)×(List g_api_Promise)×g_api_Sig) l h
 one h:=GoT.one (α:=Int×ByteArray×ByteArray×UInt64×(List ByteArray)×Int×Int×Bool×Int×(List ByteArray)×(List g_api_Promise)×g_api_Sig) h
instance:Inhabited g_api_Cert:=⟨⟨default,default,default,default,default,default,default,default,default,default,default,default⟩⟩
structure Au where
 l_:List g_api_Item
instance:GoT Au where
 sz:=GoT.sz ((List g_api_Item))
 rep m cs x:=GoT.rep (α:=(List g_api_Item)) m cs x.l_
 len h:=GoT.len (α:=(List g_api_Item)) h
 up l h:=GoT.up (α:=(List g_api_Item)) l h
 one h:=GoT.one (α:=(List g_api_Item)) h
instance:Inhabited Au:=⟨⟨default⟩⟩
structure Aj where
 name_:ByteArray
 key_:UInt64
instance:GoT Aj where
 sz:=GoT.sz (ByteArray×UInt64)
 rep m cs x:=GoT.rep (α:=ByteArray×UInt64) m cs (x.name_,x.key_)
 len h:=GoT.len (α:=ByteArray×UInt64) h
 up l h:=GoT.up (α:=ByteArray×UInt64) l h
 one h:=GoT.one (α:=ByteArray×UInt64) h
instance:Inhabited Aj:=⟨⟨default,default⟩⟩
structure AP where
 Who:ByteArray
 Names:List ByteArray
 Key:UInt64
 At:Int
instance:GoT AP where
 sz:=GoT.sz (ByteArray×(List ByteArray)×UInt64×Int)
 rep m cs x:=GoT.rep (α:=ByteArray×(List ByteArray)×UInt64×Int) m cs (x.Who,x.Names,x.Key,x.At)
 len h:=GoT.len (α:=ByteArray×(List ByteArray)×UInt64×Int) h
 up l h:=GoT.up (α:=ByteArray×(List ByteArray)×UInt64×Int) l h
 one h:=GoT.one (α:=ByteArray×(List ByteArray)×UInt64×Int) h
instance:Inhabited AP:=⟨⟨default,default,default,default⟩⟩
structure CL where
 Log:Int
 Size:Int
 Root:UInt64×UInt64
 At:Int
 Sig:g_api_Sig
instance:GoT CL where
 sz:=GoT.sz (Int×Int×(UInt64×UInt64)×Int×g_api_Sig)
 rep m cs x:=GoT.rep (α:=Int×Int×(UInt64×UInt64)×Int×g_api_Sig) m cs (x.Log,x.Size,x.Root,x.At,x.Sig)
 len h:=GoT.len (α:=Int×Int×(UInt64×UInt64)×Int×g_api_Sig) h
 up l h:=GoT.up (α:=Int×Int×(UInt64×UInt64)×Int×g_api_Sig) l h
 one h:=GoT.one (α:=Int×Int×(UInt64×UInt64)×Int×g_api_Sig) h
instance:Inhabited CL:=⟨⟨default,default,default,default,default⟩⟩
structure D4 where
 Log:Int
 Key:UInt64
 Delay:Int
instance:GoT D4 where
 sz:=GoT.sz (Int×UInt64×Int)
 rep m cs x:=GoT.rep (α:=Int×UInt64×Int) m cs (x.Log,x.Key,x.Delay)
 len h:=GoT.len (α:=Int×UInt64×Int) h
 up l h:=GoT.up (α:=Int×UInt64×Int) l h
 one h:=GoT.one (α:=Int×UInt64×Int) h
instance:Inhabited D4:=⟨⟨default,default,default⟩⟩
structure Aq where
 size_:Int
 root_:UInt64×UInt64
instance:GoT Aq where
 sz:=GoT.sz (Int×(UInt64×UInt64))
 rep m cs x:=GoT.rep (α:=Int×(UInt64×UInt64)) m cs (x.size_,x.root_)
 len h:=GoT.len (α:=Int×(UInt64×UInt64)) h
 up l h:=GoT.up (α:=Int×(UInt64×UInt64)) l h
 one h:=GoT.one (α:=Int×(UInt64×UInt64)) h
instance:Inhabited Aq:=⟨⟨default,default⟩⟩
structure BJ where
 Tag:Int
 Len:Int
 At:Int
 E:Int
instance:GoT BJ where
 sz:=GoT.sz (Int×Int×Int×Int)
 rep m cs x:=GoT.rep (α:=Int×Int×Int×Int) m cs (x.Tag,x.Len,x.At,x.E)
 len h:=GoT.len (α:=Int×Int×Int×Int) h
 up l h:=GoT.up (α:=Int×Int×Int×Int) l h
 one h:=GoT.one (α:=Int×Int×Int×Int) h
instance:Inhabited BJ:=⟨⟨default,default,default,default⟩⟩
structure Ao where
 L:List g_api_Item
 Bad:Bool
instance:GoT Ao where
 sz:=GoT.sz ((List g_api_Item)×Bool)
 rep m cs x:=GoT.rep (α:=(List g_api_Item)×Bool) m cs (x.L,x.Bad)
 len h:=GoT.len (α:=(List g_api_Item)×Bool) h
 up l h:=GoT.up (α:=(List g_api_Item)×Bool) l h
 one h:=GoT.one (α:=(List g_api_Item)×Bool) h
instance:Inhabited Ao:=⟨⟨default,default⟩⟩
structure FA where
 lo_:UInt8
 hi_:UInt8
instance:GoT FA where
 sz:=GoT.sz (UInt8×UInt8)
 rep m cs x:=GoT.rep (α:=UInt8×UInt8) m cs (x.lo_,x.hi_)
 len h:=GoT.len (α:=UInt8×UInt8) h
 up l h:=GoT.up (α:=UInt8×UInt8) l h
 one h:=GoT.one (α:=UInt8×UInt8) h
instance:Inhabited FA:=⟨⟨default,default⟩⟩
theorem Aa5 {m:Mem}{cs:List Value}{x:AP}(h:GoT.rep m cs x): ∃v1,cs=[vS x.Who,v1,vU x.Key,vI x.At]∧SlR m v1 x.Names:=by
 obtain⟨_,_,rfl,rfl,⟨_,_,rfl,⟨v1,rfl,h1⟩,⟨_,_,rfl,rfl,rfl⟩⟩⟩:=h;exact⟨v1,rfl,h1⟩
theorem AcX {m:Mem}{x:AP}{v1:Value}(h1:SlR m v1 x.Names):GoT.rep m [vS x.Who,v1,vU x.Key,vI x.At] x:=⟨[vS x.Who],[v1,vU x.Key,vI x.At],rfl,rfl,⟨[v1],[vU x.Key,vI x.At],rfl,⟨_,rfl,h1⟩,⟨[vU x.Key],[vI x.At],rfl,rfl,rfl⟩⟩⟩
theorem ES {m:Mem}{cs:List Value}{x:UInt64×UInt64}(h:GoT.rep m cs x):cs=[vU x.1,vU x.2]:=by
 obtain⟨_,_,rfl,rfl,rfl⟩:=h;exact rfl
theorem HG {m:Mem}{x:UInt64×UInt64}:GoT.rep m [vU x.1,vU x.2] x:=⟨[vU x.1],[vU x.2],rfl,rfl,rfl⟩
theorem Ff {m:Mem}{cs:List Value}{x:Aq}(h:GoT.rep m cs x):cs=[vI x.size_,vU x.root_.1,vU x.root_.2]:=by
 obtain⟨_,_,rfl,rfl,⟨_,_,rfl,rfl,rfl⟩⟩:=h;exact rfl
theorem Im {m:Mem}{x:Aq}:GoT.rep m [vI x.size_,vU x.root_.1,vU x.root_.2] x:=⟨[vI x.size_],[vU x.root_.1,vU x.root_.2],rfl,rfl,⟨[vU x.root_.1],[vU x.root_.2],rfl,rfl,rfl⟩⟩
theorem Aek {m:Mem}{cs:List Value}{x:g_api_Leaf}(h:GoT.rep m cs x): ∃v1,cs=[v1,vI x.At]∧SlR m v1 x.Body:=by
 obtain⟨_,_,rfl,⟨v1,rfl,h1⟩,rfl⟩:=h;exact⟨v1,rfl,h1⟩
theorem Afd {m:Mem}{x:g_api_Leaf}{v1:Value}(h1:SlR m v1 x.Body):GoT.rep m [v1,vI x.At] x:=⟨[v1],[vI x.At],rfl,⟨_,rfl,h1⟩,rfl⟩
theorem AaB {m:Mem}{cs:List Value}{x:g_api_Promise}(h:GoT.rep m cs x):cs=[vI x.Log,vI x.At,vU x.Leaf.1,vU x.Leaf.2,vU x.Sig.E,vU x.Sig.S]:=by
 obtain⟨_,_,rfl,rfl,⟨_,_,rfl,rfl,⟨_,_,rfl,⟨_,_,rfl,rfl,rfl⟩,⟨_,_,rfl,rfl,rfl⟩⟩⟩⟩:=h;exact rfl
theorem Aa9 {m:Mem}{x:g_api_Promise}:GoT.rep m [vI x.Log,vI x.At,vU x.Leaf.1,vU x.Leaf.2,vU x.Sig.E,vU x.Sig.S] x:=⟨[vI x.Log],[vI x.At,vU x.Leaf.1,vU x.Leaf.2,vU x.Sig.E,vU x.Sig.S],rfl,rfl,⟨[vI x.At],[vU x.Leaf.1,vU x.Leaf.2,vU x.Sig.E,vU x.Sig.S],rfl,rfl,⟨[vU x.Leaf.1,vU x.Leaf.2],[vU x.Sig.E,vU x.Sig.S],rfl,⟨[vU x.Leaf.1],[vU x.Leaf.2],rfl,rfl,rfl⟩,⟨[vU x.Sig.E],[vU x.Sig.S],rfl,rfl,rfl⟩⟩⟩⟩
theorem Uy {m:Mem}{cs:List Value}{x:Ah}(h:GoT.rep m cs x): ∃v1,∃v2,∃v3,cs=[vI x.Id,vU x.Key,vI x.Delay,v1,v2,v3]∧SlR m v1 x.L∧SlR m v2 x.Hide∧SlR m v3 x.Wait:=by
 obtain⟨_,_,rfl,rfl,⟨_,_,rfl,rfl,⟨_,_,rfl,rfl,⟨_,_,rfl,⟨v1,rfl,h1⟩,⟨_,_,rfl,⟨v2,rfl,h2⟩,⟨v3,rfl,h3⟩⟩⟩⟩⟩⟩:=h;exact⟨v1,v2,v3,rfl,h1,h2,h3⟩
theorem Py {m:Mem}{x:Ah}{v1:Value}{v2:Value}{v3:Value}(h1:SlR m v1 x.L)(h2:SlR m v2 x.Hide)(h3:SlR m v3 x.Wait):GoT.rep m [vI x.Id,vU x.Key,vI x.Delay,v1,v2,v3] x:=⟨[vI x.Id],[vU x.Key,vI x.Delay,v1,v2,v3],rfl,rfl,⟨[vU x.Key],[vI x.Delay,v1,v2,v3],rfl,rfl,⟨[vI x.Delay],[v1,v2,v3],rfl,rfl,⟨[v1],[v2,v3],rfl,⟨_,rfl,h1⟩,⟨[v2],[v3],rfl,⟨_,rfl,h2⟩,⟨_,rfl,h3⟩⟩⟩⟩⟩⟩
theorem Aem {m:Mem}{cs:List Value}{x:g_api_Cert}(h:GoT.rep m cs x): ∃v1,∃v2,∃v3,cs=[vI x.Serial,vS x.Issuer,vS x.Subject,vU x.Key,v1,vI x.From,vI x.Until,vb x.Ca,vI x.Depth,v2,v3,vU x.Sig.E,vU x.Sig.S]∧SlR m v1 x.Names∧SlR m v2 x.Permit∧SlR m v3 x.Proms:=by
 obtain⟨_,_,rfl,rfl,⟨_,_,rfl,rfl,⟨_,_,rfl,rfl,⟨_,_,rfl,rfl,⟨_,_,rfl,⟨v1,rfl,h1⟩,⟨_,_,rfl,rfl,⟨_,_,rfl,rfl,⟨_,_,rfl,rfl,⟨_,_,rfl,rfl,⟨_,_,rfl,⟨v2,rfl,h2⟩,⟨_,_,rfl,⟨v3,rfl,h3⟩,⟨_,_,rfl,rfl,rfl⟩⟩⟩⟩⟩⟩⟩⟩⟩⟩⟩⟩:=h;exact⟨v1,v2,v3,rfl,h1,h2,h3⟩
theorem Aff {m:Mem}{x:g_api_Cert}{v1:Value}{v2:Value}{v3:Value}(h1:SlR m v1 x.Names)(h2:SlR m v2 x.Permit)(h3:SlR m v3 x.Proms):GoT.rep m [vI x.Serial,vS x.Issuer,vS x.Subject,vU x.Key,v1,vI x.From,vI x.Until,vb x.Ca,vI x.Depth,v2,v3,vU x.Sig.E,vU x.Sig.S] x:=⟨[vI x.Serial],[vS x.Issuer,vS x.Subject,vU x.Key,v1,vI x.From,vI x.Until,vb x.Ca,vI x.Depth,v2,v3,vU x.Sig.E,vU x.Sig.S],rfl,rfl,⟨[vS x.Issuer],[vS x.Subject,vU x.Key,v1,vI x.From,vI x.Until,vb x.Ca,vI x.Depth,v2,v3,vU x.Sig.E,vU x.Sig.S],rfl,rfl,⟨[vS x.Subject],[vU x.Key,v1,vI x.From,vI x.Until,vb x.Ca,vI x.Depth,v2,v3,vU x.Sig.E,vU x.Sig.S],rfl,rfl,⟨[vU x.Key],[v1,vI x.From,vI x.Until,vb x.Ca,vI x.Depth,v2,v3,vU x.Sig.E,vU x.Sig.S],rfl,rfl,⟨[v1],[vI x.From,vI x.Until,vb x.Ca,vI x.Depth,v2,v3,vU x.Sig.E,vU x.Sig.S],rfl,⟨_,rfl,h1⟩,⟨[vI x.From],[vI x.Until,vb x.Ca,vI x.Depth,v2,v3,vU x.Sig.E,vU x.Sig.S],rfl,rfl,⟨[vI x.Until],[vb x.Ca,vI x.Depth,v2,v3,vU x.Sig.E,vU x.Sig.S],rfl,rfl,⟨[vb x.Ca],[vI x.Depth,v2,v3,vU x.Sig.E,vU x.Sig.S],rfl,rfl,⟨[vI x.Depth],[v2,v3,vU x.Sig.E,vU x.Sig.S],rfl,rfl,⟨[v2],[v3,vU x.Sig.E,vU x.Sig.S],rfl,⟨_,rfl,h2⟩,⟨[v3],[vU x.Sig.E,vU x.Sig.S],rfl,⟨_,rfl,h3⟩,⟨[vU x.Sig.E],[vU x.Sig.S],rfl,rfl,rfl⟩⟩⟩⟩⟩⟩⟩⟩⟩⟩⟩⟩
def HD (p q:g_api_Sig):Bool:=[(p.E==q.E),(p.S==q.S)].all id
theorem Yn {p q:g_api_Sig}:EqV Tryz.prog 2 40 (.agg ([vU p.E,vU p.S]:List Value).toArray) (.agg ([vU q.E,vU q.S]:List Value).toArray) (HD p q):=
 EqV.struct (k:=1) (cs:=[vU p.E,vU p.S]) (ds:=[vU q.E,vU q.S]) (bs:=[(p.E==q.E),(p.S==q.S)]) Tryz.underlying40 (by kernel_rfl) ⟨⟨by decide,_,_,fd1 Tryz.isAgg22 Tryz.sizeOf22 rfl,fd1 Tryz.isAgg22 Tryz.sizeOf22 rfl,EqV.mono (EqV.u64 Tryz.underlying22) (by decide)⟩,⟨⟨by decide,_,_,fd1 Tryz.isAgg22 Tryz.sizeOf22 rfl,fd1 Tryz.isAgg22 Tryz.sizeOf22 rfl,EqV.mono (EqV.u64 Tryz.underlying22) (by decide)⟩,trivial⟩⟩
def De (p q:g_api_Promise):Bool:=[(p.Log==q.Log),(p.At==q.At),(Oq p.Leaf q.Leaf),(HD p.Sig q.Sig)].all id
theorem AdA {p q:g_api_Promise}:EqV Tryz.prog 3 82 (.agg ([vI p.Log,vI p.At,vU p.Leaf.1,vU p.Leaf.2,vU p.Sig.E,vU p.Sig.S]:List Value).toArray) (.agg ([vI q.Log,vI q.At,vU q.Leaf.1,vU q.Leaf.2,vU q.Sig.E,vU q.Sig.S]:List Value).toArray) (De p q):=
 EqV.struct (k:=2) (cs:=[vI p.Log,vI p.At,vU p.Leaf.1,vU p.Leaf.2,vU p.Sig.E,vU p.Sig.S]) (ds:=[vI q.Log,vI q.At,vU q.Leaf.1,vU q.Leaf.2,vU q.Sig.E,vU q.Sig.S]) (bs:=[(p.Log==q.Log),(p.At==q.At),(Oq p.Leaf q.Leaf),(HD p.Sig q.Sig)]) Tryz.underlying82 (by kernel_rfl) ⟨⟨by decide,_,_,fd1 Tryz.isAgg3 Tryz.sizeOf3 rfl,fd1 Tryz.isAgg3 Tryz.sizeOf3 rfl,EqV.mono (EqV.int Tryz.underlying3) (by decide)⟩,⟨⟨by decide,_,_,fd1 Tryz.isAgg3 Tryz.sizeOf3 rfl,fd1 Tryz.isAgg3 Tryz.sizeOf3 rfl,EqV.mono (EqV.int Tryz.underlying3) (by decide)⟩,⟨⟨by decide,_,_,fdA Tryz.isAgg38 Tryz.sizeOf38 rfl rfl,fdA Tryz.isAgg38 Tryz.sizeOf38 rfl rfl,EqV.mono (EqV.sum Tryz.underlying38 Tryz.underlying22 Tryz.sizeOf22 Tryz.isAgg22) (by decide)⟩,⟨⟨by decide,_,_,fdA Tryz.isAgg40 Tryz.sizeOf40 rfl rfl,fdA Tryz.isAgg40 Tryz.sizeOf40 rfl rfl,EqV.mono (Yn) (by decide)⟩,trivial⟩⟩⟩⟩
def Bx (p q:Aj):Bool:=[(eqS p.name_ q.name_),(p.key_==q.key_)].all id
theorem AaR {p q:Aj}:EqV Tryz.prog 2 91 (.agg ([vS p.name_,vU p.key_]:List Value).toArray) (.agg ([vS q.name_,vU q.key_]:List Value).toArray) (Bx p q):=
 EqV.struct (k:=1) (cs:=[vS p.name_,vU p.key_]) (ds:=[vS q.name_,vU q.key_]) (bs:=[(eqS p.name_ q.name_),(p.key_==q.key_)]) Tryz.underlying91 (by kernel_rfl) ⟨⟨by decide,_,_,fd1 Tryz.isAgg9 Tryz.sizeOf9 rfl,fd1 Tryz.isAgg9 Tryz.sizeOf9 rfl,EqV.mono (EqV.str Tryz.underlying9) (by decide)⟩,⟨⟨by decide,_,_,fd1 Tryz.isAgg22 Tryz.sizeOf22 rfl,fd1 Tryz.isAgg22 Tryz.sizeOf22 rfl,EqV.mono (EqV.u64 Tryz.underlying22) (by decide)⟩,trivial⟩⟩
theorem OZ {k:Aj}(x:Aj)(h:Bx k x=true):x=k:=by
 cases k; cases x;simp only[Bx,Akv,List.all_nil,id,AkE,AjE,JB,Akg,Oq,AjH]at h;simp[h]
def tab_2:List Fw:=[⟨1,305⟩,⟨2,149⟩,⟨4,306⟩,⟨12,307⟩,⟨48,310⟩]
def Ag (a:g_api_Leaf):List D:=[.sl _ eB a.Body,.i a.At]
def Bn (a:Ah):List D:=[.i a.Id,.u a.Key,.i a.Delay,.sl _ Ag a.L,.sl _ eI a.Hide,.sl _ Ag a.Wait]
def O7 (a:UInt64×UInt64×UInt64):List D:=[.u a.1,.u a.2.1,.u a.2.2]
def AF (a:UInt64×UInt64):List D:=[.u a.1,.u a.2]
def Gs (a:Fw):List D:=[.i a.tag_,.v (fnV a.may_)]
def Rp (a:g_api_Sig):List D:=[.u a.E,.u a.S]
def Ae (a:g_api_Promise):List D:=[.i a.Log,.i a.At,.u a.Leaf.1,.u a.Leaf.2,.u a.Sig.E,.u a.Sig.S]
def Am (a:g_api_Cert):List D:=[.i a.Serial,.s a.Issuer,.s a.Subject,.u a.Key,.sl _ eS a.Names,.i a.From,.i a.Until,.t a.Ca,.i a.Depth,.sl _ eS a.Permit,.sl _ Ae a.Proms,.u a.Sig.E,.u a.Sig.S]
def AH (a:Aj):List D:=[.s a.name_,.u a.key_]
def DH (a:AP):List D:=[.s a.Who,.sl _ eS a.Names,.u a.Key,.i a.At]
def O6 (a:CL):List D:=[.i a.Log,.i a.Size,.u a.Root.1,.u a.Root.2,.i a.At,.u a.Sig.E,.u a.Sig.S]
def WU (a:D4):List D:=[.i a.Log,.u a.Key,.i a.Delay]
def WT (a:BJ):List D:=[.i a.Tag,.i a.Len,.i a.At,.i a.E]
theorem IX:Br g_api_Leaf Ag:=Br.mk' (Br.pair (Br.sl Br.b) Br.i) Ag (fun x=>(x.Body,x.At)) (fun _ _ _=>rfl) (fun _=>rfl) rfl
theorem RC:Br Ah Bn:=Br.mk' (Br.pair Br.i (Br.pair Br.u (Br.pair Br.i (Br.pair (Br.sl IX) (Br.pair (Br.sl Br.i) (Br.sl IX)))))) Bn (fun x=>(x.Id,x.Key,x.Delay,x.L,x.Hide,x.Wait)) (fun _ _ _=>rfl) (fun _=>rfl) rfl
theorem Ms:Br (UInt64×UInt64) AF:=Br.mk' (Br.pair Br.u Br.u) AF (fun x=>x) (fun _ _ _=>rfl) (fun _=>rfl) rfl
end Go.Proofs.YtibojdgdjhngiaaGreatDoor
end
