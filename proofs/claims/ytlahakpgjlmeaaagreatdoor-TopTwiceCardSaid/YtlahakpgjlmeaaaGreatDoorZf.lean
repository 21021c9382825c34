/- Several texts, one behind the other. Conditions: none. -/
import Derived.Test.YtlahakpgjlmeaaaGreatDoorProg
import Derived.Test.YtlahakpgjlmeaaaGreatDoorZe
import Derived.KernelRfl
import Derived.Test.YtlahakpgjlmeaaaGreatDoorZd
set_option linter.unusedSimpArgs false
set_option linter.unusedVariables false
set_option maxHeartbeats 20000000
set_option maxRecDepth 100000
section
namespace Go.Ax
open Go Go.Gw
abbrev ag (l:List D):AV:= .agg (l.map dv)
abbrev sl {α:Type}(E:α→List D)(xs:List α):AV:= .d (.sl α E xs)
abbrev eI (n:Int):List D:=[.i n]
abbrev eU (n:UInt64):List D:=[.u n]
abbrev eB (n:UInt8):List D:=[.b n]
abbrev eS (n:ByteArray):List D:=[.s n]
abbrev eL {α:Type}(E:α→List D)(xs:List α):List D:=[.sl α E xs]
abbrev w8 (n:Int):Int:=IntKind.i8.wrap n
section
variable {P:Program}{ρ:Option Nat}{N:Nat}{D0:Dw}{Q:DJ}{As:List Ow}{η0:Env}{m0:Mem}{cf:Cf}
theorem sp {k:FuncId}{fn:Func}{c:Code}{args:List AV}{obs:List AObj}{n0:Nat}{Po:AV→List AObj→Nat→Prop}(hc: ∀(a:Array Value) w,(callFunc k a).run P w= .ok (.enter k a) w)(hf:P.funcs[k]? =some fn)(hb:fn.body=some c)(hN:fn.ntmps=N)(hle:Nat.ble args.length N=true)(h: ∀D0 As η0 m0,(∀n,η0 n≠none→n<n0)→Go none P N D0 (Q4 P N fn (Ix As η0 m0 Po)) As η0 m0 ⟨Q9 args obs n0,.code c,[]⟩):
 Sp P k args obs n0 Po:=sp_of hc hf hb hN hle h
theorem gi {β:Type}{b:Bool}{x y:Option β}{r:β}(hm:(if b=true then x else y)=some r)(h1:b=true→x=some r→Go ρ P N D0 Q As η0 m0 (way true (aC P N cf)))(h0:b=false→y=some r→Go ρ P N D0 Q As η0 m0 (way false (aC P N cf)))
 (e:(Sz (aC P N cf),bL P N cf)=(some b,bR P N cf):=by kernel_rfl) (hM:P.follows .mixedOrders=true:=by rfl):
 Go ρ P N D0 Q As η0 m0 cf:=Agg hM e (fun h=>h1 h (by rw[h]at hm; exact hm)) fun h=>h0 h (by rw[h]at hm; exact hm)
theorem AhD (g:Nat){β:Type}{b:Bool}{x y:Option β}{r:β}(hm:(if b=true then x else y)=some r)(h1:b=true→x=some r→Go ρ P N D0 Q As η0 m0 (setK g true (Tg g P N 100000 cf).1))(h0:b=false→y=some r→Go ρ P N D0 Q As η0 m0 (setK g false (Tg g P N 100000 cf).1))
 (e:(get (Tg g P N 100000 cf).1.s.sl g,((Tg g P N 100000 cf).2).map (·.1))=(.d (.t b),((Tg g P N 100000 cf).2).map (·.2)):=by kernel_rfl) (hM:P.follows .mixedOrders=true:=by rfl):
 Go ρ P N D0 Q As η0 m0 cf:=go_spl hM e (fun h=>h1 h (by rw[h]at hm; exact hm)) fun h=>h0 h (by rw[h]at hm; exact hm)
theorem gi' {b:Bool}(h1:b=true→Go ρ P N D0 Q As η0 m0 (way true (aC P N cf)))(h0:b=false→Go ρ P N D0 Q As η0 m0 (way false (aC P N cf)))
 (e:(Sz (aC P N cf),bL P N cf)=(some b,bR P N cf):=by kernel_rfl) (hM:P.follows .mixedOrders=true:=by rfl):
 Go ρ P N D0 Q As η0 m0 cf:=Agg hM e h1 h0
theorem gnx {s:ByteArray}{pos:Nat}{β:Type}{x y:Option β}{r:β}(hm:(if pos<s.size then x else y)=some r)(h1:pos<s.size→x=some r→Go ρ P N D0 Q As η0 m0 (push N (aC P N cf) (nxS (aC P N cf))))(h0: ¬pos<s.size→y=some r→Go ρ P N D0 Q As η0 m0 (push N (aC P N cf) (nxE (aC P N cf))))
 (e:((nxK (aC P N cf)).map (fun r=>(r.1,r.2.1)),aL P N cf)=(some (s,pos),aR P N cf):=by kernel_rfl) (hM:P.follows .mixedOrders=true:=by rfl):
 Go ρ P N D0 Q As η0 m0 cf:=go_nx hM e (fun h=>h1 h (by rw[AkA h]at hm; exact hm)) fun h=>h0 h (by rw[Aky h]at hm; exact hm)
theorem Z2 {α β:Type}{a:α}{k:α→β}{r:β}(h:bnd a k=r):k a=r:=h
theorem Adt {fn:Func}{n0 n1:Nat}{er:AV}{eobs:List AObj}(hd: ∀n,η0 n≠none→n<n0)
 (e:(endL P fn (aC P N cf) er eobs n0 n1,(Agt P fn (aC P N cf) er eobs).isSome,bL P N cf)=(endR P fn (aC P N cf) er eobs,true,bR P N cf):=by kernel_rfl) (hM:P.follows .mixedOrders=true:=by rfl):
 Go ρ P N D0 (Q4 P N fn (Ix As η0 m0 (is er eobs n1))) As η0 m0 cf:=AhH hM hd e ⟨rfl,rfl,rfl⟩
theorem PB {fn:Func}{n0 n1:Nat}{β:Type}{r:β}{A:β→AV}{O:β→List AObj}{ov:Value}{X:World→Prop}(hd: ∀n,η0 n≠none→n<n0)
 (e:(endL P fn (aC P N cf) (A r) (O r) n0 n1,(Agt P fn (aC P N cf) (A r) (O r)).isSome,bL P N cf)=(endR P fn (aC P N cf) (A r) (O r),true,bR P N cf):=by kernel_rfl) (hM:P.follows .mixedOrders=true:=by rfl):
 Go ρ P N D0 (Xb P N fn (Ix As η0 m0 (Pos (some r) A O n1)) ov X) As η0 m0 cf:=(AhH hM hd e ⟨r,rfl,rfl,rfl,rfl⟩).mono Ai5
theorem NR {k:FuncId}{ea:List AV}{eobs:List AObj}{n0 n1:Nat}{ov:Value}{β γ:Type}{A:β→AV}{O:β→List AObj}{Xp:Prop}{fn:Func}{R:Value→World→Prop}(hs:Sb P k ea eobs n0 ov (Pos (none:Option β) A O n1) Xp)
 (e:(Ld (aC P N cf) ea eobs n0,QK (aC P N cf),aL P N cf)=
  (some (k,(FH (aC P N cf) ea eobs).1,(FH (aC P N cf) ea eobs).2,true),true,aR P N cf):=by kernel_rfl) (hM:P.follows .mixedOrders=true:=by rfl):
 Go ρ P N D0 (Xb P N fn R ov (Qr As m0 ((none:Option γ)=none))) As η0 m0 cf:=AjH hM hs Ri rfl e
theorem Yf {k:FuncId}{ea:List AV}{eobs:List AObj}{n0 n1:Nat}{ov:Value}{β γ:Type}{A:β→AV}{O:β→List AObj}{Xp:Prop}{fn:Func}{R:Value→World→Prop}(hs:Sb P k ea eobs n0 ov (Pos (none:Option β) A O n1) Xp)
 (e:(Ld (aC P N cf) ea eobs n0,(panD P N (aC P N cf) ea eobs).map (·.1),((aD P N cf)++(PF (aC P N cf)++Ai3 P N (aC P N cf) ea eobs)).map (·.1))=
  (some (k,(FH (aC P N cf) ea eobs).1,(FH (aC P N cf) ea eobs).2,true),some true,((aD P N cf)++(PF (aC P N cf)++Ai3 P N (aC P N cf) ea eobs)).map (·.2)):=by kernel_rfl) (hM:P.follows .mixedOrders=true:=by rfl):
 Go ρ P N D0 (Xb P N fn R ov (Qr As m0 ((none:Option γ)=none))) As η0 m0 cf:=AjG hM hs Ri rfl e
theorem sb {k:FuncId}{fn:Func}{c:Code}{args:List AV}{obs:List AObj}{n0:Nat}{ov:Value}{Po:AV→List AObj→Nat→Prop}{Xp:Prop}(hc: ∀(a:Array Value) w,(callFunc k a).run P w= .ok (.enter k a) w)(hf:P.funcs[k]? =some fn)(hb:fn.body=some c)(hN:fn.ntmps=N)(hle:Nat.ble args.length N=true)(h: ∀D0 As η0 m0,(∀n,η0 n≠none→n<n0)→Go none P N D0 (Xb P N fn (Ix As η0 m0 Po) ov (Qr As m0 Xp)) As η0 m0 ⟨Q9 args obs n0,.code c,[]⟩):
 Sb P k args obs n0 ov Po Xp:=sb_of hc hf hb hN hle h
theorem gat {c:Code}{K:List Kt}{η:Env}{m:Mem}{f:Fr}{w:World}(s:AS)(gm:Gm As s η m f w)(g:Go ρ P N D0 Q As η m ⟨s,.code c,K⟩):
 wpc ρ P N D0 c (pk ρ P N D0 Q K) f w:=g η m f w Env.le_refl (Mem.rfl' m) gm
theorem gthrow {γ:Type}{t:TypeId}{fn:Func}{R:Value→World→Prop}(hc:P.concrete t=true)
 (e:(Abx N (aC P N cf),bL P N cf)=(some t,bR P N cf):=by kernel_rfl) (hM:P.follows .mixedOrders=true:=by rfl):
 Go ρ P N D0 (Xb P N fn R (.iface t (.agg #[])) (Qr As m0 ((none:Option γ)=none))) As η0 m0 cf:=Agd hM hc rfl e
theorem Adn {k:FuncId}{ea:List AV}{eobs:List AObj}{n0 n1 n2:Nat}{ov:Value}{β:Type}{A:β→AV}{O:β→List AObj}{Xp:Prop}{Je:Fr→World→Prop}{J:AS}{ok:Prop}(hs:Sb P k ea eobs n0 ov (Pos (none:Option β) A O n2) Xp)(hx:ok)(hd: ∀n,η0 n≠none→n<n1)
 (e:(Ld (aC P N cf) ea eobs n0,QK (aC P N cf),aL P N cf)=
  (some (k,(FH (aC P N cf) ea eobs).1,(FH (aC P N cf) ea eobs).2,true),true,aR P N cf):=by kernel_rfl) (e2:(vwL (AcG (aC P N cf) ea eobs) J n1,(vwP (AcG (aC P N cf) ea eobs) J).isSome)=(vwR (AcG (aC P N cf) ea eobs) J,true):=by kernel_rfl) (hM:P.follows .mixedOrders=true:=by rfl):
 Go ρ P N D0 (Ze Je ov (Rl As η0 m0 (fun _:Unit=>J) (fun _=>ok))) As η0 m0 cf:=AjF hM hs Ri hx hd e e2
theorem gjU (id:Nat){ι:Type}(J:ι→AS)(ok:ι→Prop)(h1: ∀Jp,Bk As η0 m0 J ok Jp→Go ρ P N D0 Q As η0 m0 (ctnC (Lg id P N 100000 cf).1 Jp))(h2: ∀x,ok x→Go ρ P N D0 Q As η0 m0 ⟨J x,.pop,(Lg id P N 100000 cf).1.K⟩)
 (e:(QP (Lg id P N 100000 cf).1,((Lg id P N 100000 cf).2).map (·.1))=(true,((Lg id P N 100000 cf).2).map (·.2)):=by kernel_rfl) (hM:P.follows .mixedOrders=true:=by rfl):
 Go ρ P N D0 Q As η0 m0 cf:=Agf hM J ok e (h1 _ ⟨fun _ _ h=>h⟩) h2
theorem gj {ι:Type}(J:ι→AS)(ok:ι→Prop)(h1: ∀Jp,Bk As η0 m0 J ok Jp→Go ρ P N D0 Q As η0 m0 (ctnC (aC P N cf) Jp))(h2: ∀x,ok x→Go ρ P N D0 Q As η0 m0 ⟨J x,.pop,(aC P N cf).K⟩)
 (e:(QP (aC P N cf),bL P N cf)=(true,bR P N cf):=by kernel_rfl) (hM:P.follows .mixedOrders=true:=by rfl):
 Go ρ P N D0 Q As η0 m0 cf:=Adp hM J ok e (h1 _ ⟨fun _ _ h=>h⟩) h2
theorem gl {n0:Nat}{ι:Type}(hd: ∀n,η0 n≠none→n<n0)(J:ι→AS)(pre:ι→Prop)(μ:ι→Nat)(x0:ι)(hx:pre x0)(h: ∀x,pre x→∀Jp,Bk As η0 m0 J (fun y=>pre y∧μ y<μ x) Jp→Go ρ P N D0 Q As η0 m0 (rndC (aC P N cf) (J x) Jp))
 (e:((Zw (aC P N cf)).isSome,vwL (aC P N cf).s (J x0) n0,(vwP (aC P N cf).s (J x0)).isSome,bL P N cf)=(true,vwR (aC P N cf).s (J x0),true,bR P N cf):=by kernel_rfl) (hM:P.follows .mixedOrders=true:=by rfl):
 Go ρ P N D0 Q As η0 m0 cf:=AjI hM J pre μ x0 hx hd e fun x hx=>h x hx _ ⟨fun _ _ h=>h⟩
theorem mu_lt {n i:Nat}(hlt:i<n)(hn:n≤9223372036854775807):n-(w64 ((i:Int)+1)).toNat<n-((i:Int)).toNat:=by
 rw[YE hlt hn]; omega
theorem Jd (id:Nat){α:Type}{E:α→List D}{xs:List α}(t:Nat)(h:xs.length≤9223372036854775807→Go ρ P N D0 Q As η0 m0 (Lg id P N 100000 cf).1)
 (e:(QP (Lg id P N 100000 cf).1,lenK (Lg id P N 100000 cf).1.s t,((Lg id P N 100000 cf).2).map (·.1))=(true,some (.sl α E xs),((Lg id P N 100000 cf).2).map (·.2)):=by kernel_rfl) (hM:P.follows .mixedOrders=true:=by rfl):
 Go ρ P N D0 Q As η0 m0 cf:=go_len hM t e h
theorem spR {k:FuncId}{fn:Func}{c:Code}{args:List AV}{obs:List AObj}{n0:Nat}{Po:AV→List AObj→Nat→Prop}(hc: ∀(a:Array Value) w,(callFunc k a).run P w= .ok (.enter k a) w)(hf:P.funcs[k]? =some fn)(hb:fn.body=some c)(hN:fn.ntmps=N)(hle:Nat.ble args.length N=true)(h: ∀D0 As η0 m0,D0.2.2=false→(∀n,η0 n≠none→n<n0)→Go none P N D0 (Q4 P N fn (Ix As η0 m0 Po)) As η0 m0 ⟨Q9 args obs n0,.code c,[]⟩):
 Sp P k args obs n0 Po:=sp_ofR hc hf hb hN hle h
theorem gcutSG {c:Bool}{s z:ByteArray}{lo hi:Int}(hq:c=true→WX s lo hi=some z)(g:Go ρ P N D0 Q As η0 m0 (CK N (aC P N cf) (.d (.s z)) []))
 (e:(gOf (aC P N cf),Aj2 P (aC P N cf),aL P N cf)=(c,some (s,lo,hi),aR P N cf):=by kernel_rfl) (hM:P.follows .mixedOrders=true:=by rfl):
 Go ρ P N D0 Q As η0 m0 cf:=WM (fun h=>hq ((Alc Prod.fst e).symm.trans h)) g (Alc Prod.snd e) hM
theorem gdynG {c:Bool}{x:Int}{ea:List AV}{r:AV}(hs:c=true→∃k:Nat,x=(k:Int)∧Sf P k ea r)(g:Go ρ P N D0 Q As η0 m0 (Pb N (aC P N cf) r))
 (e:(gOf (aC P N cf),(dynP (aC P N cf)).map (fun p=>(p.1,Ah9 (aC P N cf).s.fz ea p.2)),ea.all (okA 0),aL P N cf)=(c,some (fnV x,ea),true,aR P N cf):=by kernel_rfl) (hM:P.follows .mixedOrders=true:=by rfl):
 Go ρ P N D0 Q As η0 m0 cf:=gdyn (fun h=>hs ((Alc Prod.fst e).symm.trans h)) g (Alc Prod.snd e) hM
theorem AhJ {c:Bool}{α:Type}{E:α→List D}{xs:List α}{j:Int}{x:α}(hq:c=true→idx xs j=some x)(g:Go ρ P N D0 Q As η0 m0 (CK N (aC P N cf) (Af2 P (aC P N cf)) (Af3 P (aC P N cf))))
 (e:(gOf (aC P N cf),(AaH P (aC P N cf)).map (fun r=>(r.1,r.2.1,r.2.2.2.2.1)),aL P N cf)=(c,some (.sl α E xs,j,true),aR P N cf):=by kernel_rfl) (hM:P.follows .mixedOrders=true:=by rfl):
 Go ρ P N D0 Q As η0 m0 cf:=G2 (fun h=>hq ((Alc Prod.fst e).symm.trans h)) g (Alc Prod.snd e) hM
theorem gldOG {c:Bool}{k fo nn:Nat}{ag:Bool}{α:Type}{E:α→List D}{xs:List α}{j:Int}{x:α}(hE: ∀x,(E x).length=k)(hq:c=true→idx xs j=some x)(g:Go ρ P N D0 Q As η0 m0 (CK N (aC P N cf) (pkA ag ((((E x).drop fo).take nn).map .d)) (ldOT P (aC P N cf))))
 (e:(gOf (aC P N cf),(ldOP P (aC P N cf)).map (fun r=>(r.1,r.2.1,r.2.2.1,r.2.2.2.1,r.2.2.2.2.1,r.2.2.2.2.2.1,r.2.2.2.2.2.2.1)),aL P N cf)=(c,some (.sl α E xs,j,fo,nn,ag,k,true),aR P N cf):=by kernel_rfl) (hM:P.follows .mixedOrders=true:=by rfl):
 Go ρ P N D0 Q As η0 m0 cf:=Yg hE (fun h=>hq ((Alc Prod.fst e).symm.trans h)) g (Alc Prod.snd e) hM
theorem gcG {c:Bool}{k:FuncId}{ea:List AV}{r:AV}(hs:c=true→Sf P k ea r)(g:Go ρ P N D0 Q As η0 m0 (Pb N (aC P N cf) r))
 (e:(gOf (aC P N cf),AaU (aC P N cf) ea,ea.all (okA 0),aL P N cf)=(c,some (k,ea),true,aR P N cf):=by kernel_rfl) (hM:P.follows .mixedOrders=true:=by rfl):
 Go ρ P N D0 Q As η0 m0 cf:=gc (fun h=>hs ((Alc Prod.fst e).symm.trans h)) g (Alc Prod.snd e) hM
theorem gidxG {c:Bool}{k:Nat}{α:Type}{E:α→List D}{xs:List α}{j:Int}{x:α}(hE: ∀x,(E x).length=k)(hq:c=true→idx xs j=some x)(g:Go ρ P N D0 Q As η0 m0 (CK N (aC P N cf) (.d (.pf (E x))) (idxT P (aC P N cf))))
 (e:(gOf (aC P N cf),(Ajv P (aC P N cf)).map (fun r=>(r.1,r.2.1,r.2.2.1)),aL P N cf)=(c,some (.sl α E xs,j,k),aR P N cf):=by kernel_rfl) (hM:P.follows .mixedOrders=true:=by rfl):
 Go ρ P N D0 Q As η0 m0 cf:=gidx hE (fun h=>hq ((Alc Prod.fst e).symm.trans h)) g (Alc Prod.snd e) hM
theorem gcutG {c:Bool}{k:Nat}{α:Type}{E:α→List D}{xs ys:List α}{lo hi:Int}(hE: ∀x,(E x).length=k)(hq:c=true→cut xs lo hi=some ys)(g:Go ρ P N D0 Q As η0 m0 (CK N (aC P N cf) (.d (.sl α E ys)) (cutT P (aC P N cf))))
 (e:(gOf (aC P N cf),(cutK P (aC P N cf)).map (fun r=>(r.1,r.2.1,r.2.2.1,r.2.2.2.1,r.2.2.2.2.1)),aL P N cf)=(c,some (.sl α E xs,lo,hi,hi,k),aR P N cf):=by kernel_rfl) (hM:P.follows .mixedOrders=true:=by rfl):
 Go ρ P N D0 Q As η0 m0 cf:=gcut hE (fun h=>hq ((Alc Prod.fst e).symm.trans h)) g (Alc Prod.snd e) hM
theorem gB {α β:Type}{a:Option α}{kk:α→Option β}{z:β}(hq:Ab a kk=some z){k:FuncId}{ea:List AV}{R:α→AV}(hs: ∀x,a=some x→Sf P k ea (R x))(g: ∀x,a=some x→kk x=some z→Go ρ P N D0 Q As η0 m0 (Pb N (aC P N cf) (R x)))
 (e:(AaU (aC P N cf) ea,ea.all (okA 0),aL P N cf)=(some (k,ea),true,aR P N cf):=by kernel_rfl) (hM:P.follows .mixedOrders=true:=by rfl):
 Go ρ P N D0 Q As η0 m0 cf:=let ⟨x,h1,h2⟩:=Ac hq; gc (fun _=>hs x h1) (g x h1 h2) e hM
theorem gBo {α β:Type}{a:Option α}{kk:α→Option β}{z:β}(hq:Ab a kk=some z){k:FuncId}{ea:List AV}{eobs:List AObj}{n0 n1:Nat}{R:α→AV}{O:α→List AObj}(hs: ∀x,a=some x→Sp P k ea eobs n0 (is (R x) (O x) n1))(g: ∀x,a=some x→kk x=some z→Go ρ P N D0 Q As η0 m0 (Afs N (aC P N cf) ea eobs n0 (R x) (O x) n1))
 (e: ∀x,(Ld (aC P N cf) ea eobs n0,okA n1 (R x)&&((O x).all (okO n1)&&Nat.ble n0 n1),aL P N cf)=(some (k,(FH (aC P N cf) ea eobs).1,(FH (aC P N cf) ea eobs).2,true),true,aR P N cf):=by intro x; kernel_rfl) (hM:P.follows .mixedOrders=true:=by rfl):
 Go ρ P N D0 Q As η0 m0 cf:=let ⟨x,h1,h2⟩:=Ac hq; gco (hs x h1) (g x h1 h2) (e x) hM
theorem oB {α β:Type}{a:Option α}{kk:α→Option β}{z:β}{G:Prop}(hq:Ab a kk=some z)(g: ∀x,a=some x→kk x=some z→G):G:=let ⟨x,h1,h2⟩:=Ac hq; g x h1 h2
end
end Go.Ax
namespace Go.Proofs.YtlahakpgjlmeaaaGreatDoor
open Go Tryz
theorem mixed:prog.follows .mixedOrders=true:=rfl
end Go.Proofs.YtlahakpgjlmeaaaGreatDoor
end
section
namespace Go.Ax
open Go Go.Gw
structure Br (α:Type) [GoT α](E:α→List D):Prop where
 to: ∀{m:Mem} {cs:List Value} {x:α},GoT.rep m cs x→FRL m (E x) cs
 of: ∀{m:Mem} {cs:List Value} {x:α},FRL m (E x) cs→GoT.rep m cs x
 len: ∀x,(E x).length=GoT.sz α
theorem FRL.c1 {m:Mem}{d:D}{v:Value}(h:FR m d v):FRL m [d] [v]:= .cons h .nil
theorem FRL.c1_inv {m:Mem}{d:D}{cs:List Value}(h:FRL m [d] cs): ∃v,cs=[v]∧FR m d v:=by
 obtain⟨v,us,rfl,h1,h2⟩:=h.cons_inv;have:=h2.nil_inv; subst this;exact⟨v,rfl,h1⟩
theorem FR.i_inv {m:Mem}{n}{v:Value}(h:FR m (.i n) v):v=vI n:=by cases h; rfl
theorem FR.u_inv {m:Mem}{n}{v:Value}(h:FR m (.u n) v):v=vU n:=by cases h; rfl
theorem FR.b_inv {m:Mem}{n}{v:Value}(h:FR m (.b n) v):v=vB n:=by cases h; rfl
theorem FR.t_inv {m:Mem}{n}{v:Value}(h:FR m (.t n) v):v=vb n:=by cases h; rfl
theorem FR.s_inv {m:Mem}{n}{v:Value}(h:FR m (.s n) v):v=vS n:=by cases h; rfl
theorem Br.i:Br Int (fun n=> [.i n]):=⟨fun h=>by have h:_=_:=h; subst h; exact .c1 (.i _),fun h=>by obtain⟨v,rfl,g⟩:=FRL.c1_inv h; exact Alc (fun z=> [z]) g.i_inv,fun _=>rfl⟩
theorem Br.u:Br UInt64 (fun n=> [.u n]):=⟨fun h=>by have h:_=_:=h; subst h; exact .c1 (.u _),fun h=>by obtain⟨v,rfl,g⟩:=FRL.c1_inv h; exact Alc (fun z=> [z]) g.u_inv,fun _=>rfl⟩
theorem Br.b:Br UInt8 (fun n=> [.b n]):=⟨fun h=>by have h:_=_:=h; subst h; exact .c1 (.b _),fun h=>by obtain⟨v,rfl,g⟩:=FRL.c1_inv h; exact Alc (fun z=> [z]) g.b_inv,fun _=>rfl⟩
theorem Br.t:Br Bool (fun n=> [.t n]):=⟨fun h=>by have h:_=_:=h; subst h; exact .c1 (.t _),fun h=>by obtain⟨v,rfl,g⟩:=FRL.c1_inv h; exact Alc (fun z=> [z]) g.t_inv,fun _=>rfl⟩
theorem Br.s:Br ByteArray (fun n=> [.s n]):=⟨fun h=>by have h:_=_:=h; subst h; exact .c1 (.s _),fun h=>by obtain⟨v,rfl,g⟩:=FRL.c1_inv h; exact Alc (fun z=> [z]) g.s_inv,fun _=>rfl⟩
theorem Br.pair {α β:Type} [GoT α] [GoT β]{E:α→List D}{F:β→List D}(a:Br α E)(b:Br β F):Br (α×β) (fun x=>E x.1++F x.2):=
 ⟨fun⟨c,d,e,h1,h2⟩=>by subst e; exact(a.to h1).append (b.to h2),fun {m cs x} h=>by
  have h1:=h.take (E x.1).length;have h2:=h.drop (E x.1).length;rw[List.take_left]at h1;rw[List.drop_left]at h2;exact⟨_,_,(List.take_append_drop _ _).symm,a.of h1,b.of h2⟩,fun x=>by
  rw[Akz,a.len,b.len]; rfl⟩
section
variable {α:Type} [GoT α]{E:α→List D}{m:Mem}{v:Value}
theorem Br.toL (b:Br α E): ∀{xs:List α} {cs:List Value},DU m cs xs→FRL m (xs.flatMap E) cs
 | [],cs,h=>by have h:cs=[]:=h; subst h; exact .nil
 |x::xs,cs,⟨c,d,e,h1,h2⟩=>by subst e; rw[Ak4]; exact(b.to h1).append (b.toL h2)
theorem Br.ofL (b:Br α E): ∀{xs:List α} {cs:List Value},FRL m (xs.flatMap E) cs→DU m cs xs
 | [],cs,h=>show cs=[]from FRL.nil_inv (by simpa using h)
 |x::xs,cs,h=>by
  rw[Ak4]at h;have h1:=h.take (E x).length;have h2:=h.drop (E x).length;rw[List.take_left]at h1;rw[List.drop_left]at h2;exact⟨_,_,(List.take_append_drop _ _).symm,b.of h1,b.ofL h2⟩
theorem Br.toS (b:Br α E){xs:List α}(h:SlR m v xs):FR m (.sl α E xs) v:=by
 obtain⟨cs,h1,h2⟩:=h;have:=b.toL h2;exact .sl h1 (fun x _=>b.len x) this.1 this.2
theorem Br.ofS (b:Br α E){xs:List α}(h:FR m (.sl α E xs) v):SlR m v xs:=by
 cases h with
 | @sl _ _ _ sz' _ cs h hE' hl hr=>
  refine⟨cs,?_,b.ofL ⟨hl,hr⟩⟩;cases xs with
  |nil=>
   have:cs=[]:=by simp at hl; exact List.length_eq_zero_iff.1 hl.symm
   subst this;exact⟨by simp,h.2.1,h.2.2⟩
  |cons x xs=>
   have:sz'=GoT.sz α:=by rw[←hE' x AkN,b.len x]
   subst this; exact h
theorem Br.sl (b:Br α E):Br (List α) (fun xs=> [.sl α E xs]):=
 ⟨fun⟨v,e,h⟩=>by subst e; exact .c1 (b.toS h),fun h=>by obtain⟨v,rfl,g⟩:=FRL.c1_inv h; exact⟨v,rfl,b.ofS g⟩,fun _=>rfl⟩
theorem Br.mk' {β:Type} [GoT β]{F:β→List D}(b:Br β F)(E:α→List D)(f:α→β)(hr: ∀(m:Mem) (cs:List Value) (x:α),GoT.rep m cs x=GoT.rep m cs (f x))(hE: ∀x,F (f x)=E x)(hs:GoT.sz α=GoT.sz β):Br α E:=
 ⟨fun h=>by rw[←hE]; rw[hr]at h; exact b.to h,fun h=>by rw[←hE]at h; rw[hr]; exact b.of h,fun x=>by rw[←hE,b.len,hs]⟩
theorem Br.toA (b:Br α E){η:Env}{x:α}{cs:List Value}(h:GoT.rep m cs x):Rel η m (.agg ((E x).map dv)) (.agg cs.toArray):=by
 have:=BP.ofDv (η:=η) (b.to h);exact .agg this.1 this.2
theorem BP.toD {η:Env}{ds:List D}{vs:List Value}(h:BP η m (ds.map .d) vs):FRL m ds vs:=by
 refine⟨by simpa using h.1,fun k d u a b=> ?_⟩;exact(h.2 k (.d d) u (by simp[a]) b).dd
theorem Br.toR (b:Br α E){η:Env}{n sz:Nat}{cs:List Value}{xs:List α}(hs:GoT.sz α=sz)(hn:η n=some v)(h1:v.oneCell'=true)(h:DU m cs xs): ∀x,Gw.row sz v cs xs.length x→rep η m (.row n sz α E xs) x:=
 fun x hx=>⟨v,cs,hn,h1,b.toL h,fun x _=>(b.len x).trans hs,hx⟩
end
theorem sepC {A B:Ow}{As Bs:List Ow}(h: ∀x,A x→B x)(k: ∀x,sepL As x→sepL Bs x): ∀x,sepL (A::As) x→sepL (B::Bs) x:=
 fun x ⟨h1,h2,a,s,d,e⟩=>⟨h1,h2,h h1 a,k h2 s,d,e⟩
theorem _root_.Go.Gw.St.impL {m:Mem}{As Bs:List Ow}{w:World}(S:St m As w)(h: ∀x,sepL As x→sepL Bs x):St m Bs w:=by
 obtain⟨x,sx,rx⟩:=S.own;exact⟨S.os,S.tape,S.output,x,h x sx,rx⟩
theorem Rel.tup' {η:Env}{m:Mem}{cs:List AV}{vs:List Value}(h:BP η m cs vs):Rel η m (.tup cs) (.tuple vs.toArray):= .tup h.1 h.2
def envL (l:List Value):Env:=fun n=>l[n]?
theorem Ags {l:List Value}{k:Nat}(hk:l.length=k): ∀n,envL l n≠none→n<k:=by
 intro n h;rcases Nat.lt_or_ge n l.length with q|q
 ·omega
 ·exact absurd (List.getElem?_eq_none q) h
theorem dom0 {η:Env}(hd: ∀n,η n≠none→n<0)(η':Env):η.le η':=fun n v h=>absurd (hd n (by rw[h]; simp)) (by omega)
def cvR (ob:List Tok):AV→AV→AV
 | .tup es,.tup az=> .tup (cvV ob es az).1
 |e,a=>(cvA ob e a).1
theorem Aj0 {ob:List Tok}{η:Env}{m:Mem}(k: ∀ns,Kn ob η m ns){e a:AV}{v:Value}(r:Rel η m a v):Rel η m (cvR ob e a) v:=by
 unfold cvR;split
 ·obtain⟨vs,rfl,h⟩:=r.tup_inv;exact .tup' (Qk (k _) h)
 ·exact AdP (k _) r
theorem Sp.fz {P:Program}{k:FuncId}{args:List AV}{er er':AV}{eobs:List AObj}{n1:Nat}(h:Sp P k args [] 0 (is er eobs n1))
  (e:((enO 0 eobs).all (fun p=>KF p.2),okA 0 er',cvR (enO 0 eobs) er' er)=(true,true,er')):Sf P k args er':=by
 simp only[Akt]at e;obtain⟨e1,e2,e3⟩:=e;refine⟨h.1,fun η m As w vs hv hd S=>Ft.mono (h.2 η m As w vs hv hd S) ?_⟩;rintro v w' ⟨M,η',r,obs',n1',hle,hη,⟨rfl,rfl,rfl⟩,hdom,hR,S'⟩;rw[←GV (k:=0)]at S';obtain⟨M2,l2,K,S2⟩:=Lc e1 S';have KN: ∀ns,Kn (enO 0 obs') η' M2 ns:=fun ns n hn d hd=>by
  obtain⟨p,hf,hp,_,hnm⟩:=NF hd;obtain⟨v,a,b⟩:=K p (FG hf);rw[hnm]at a; rw[hp]at b; exact⟨v,a,b⟩
 have hr:=Aj0 KN (e:=er') (hR.up Env.le_refl l2);rw[e3]at hr;exact⟨M2,none0,er',[],0,Mem.tr hle l2,dom0 hd _,⟨rfl,rfl,rfl⟩,fun n h=>absurd rfl h,UZ (fun k hk=>absurd hk (by omega)) e2 hr,S2⟩
theorem Sp.nil0 {P:Program}{k:FuncId}{args:List AV}{sz:Nat}{α:Type}{E:α→List D}{Po:AV→List AObj→Nat→Prop}(h:Sp P k (.ow 0::args) [.row 0 sz α E []] 1 Po)(ha:args.all (okA 0)=true):Sp P k (.d (.v (.slice none 0 0))::args) [] 0 Po:=by
 refine⟨h.1,fun η m As w vs hv hd S=> ?_⟩;obtain⟨v,us,rfl,h1,h2⟩:=hv.cons_inv;have hvv:v= .slice none 0 0:=by have:=h1.dd; cases this; rfl
 subst hvv;have he:η.le (η.put 0 (.slice none 0 0)):=Env.le_put (by cases q:η 0 with|none=>rfl|some u=>exact absurd (hd 0 (by rw[q]; simp)) (by omega));have S1:St m (rep (η.put 0 (.slice none 0 0)) m (.row 0 sz α E [])::As) w:=by
  exact St.closeRow (η:=η.put 0 (.slice none 0 0)) (n:=0) (E:=E) (xs:=[]) Env.put_self rfl (by simpa using FRL.nil) (fun _ h=>by cases h) (St.rowNil S sz)
 have:=h.2 (η.put 0 (.slice none 0 0)) m As w (.slice none 0 0::us) (.cons (.ow Env.put_self rfl) (P8 (n:=0) (fun k hk=>absurd hk (by omega)) ha (h2.up he (Mem.rfl' m)))) (fun n hn=>by
  rcases Env.put_dom hn with q|q
  ·have:=hd n q; omega
  ·omega) S1
 refine Ft.mono this ?_;rintro r w' ⟨M,η',r',obs',n1,a,b,c⟩;exact⟨M,η',r',obs',n1,a,Env.le_tr he b,c⟩
structure VB:Type 1 where
 id:Nat
 nb:Nat
 t:TypeId
 b:List AV
 a:List AV
def AgK (C:List VB):List Tok:=C.map fun c=>(c.id,.box c.nb c.b c.t)
def Abd (C:List VB):List Tok:=C.map fun c=>(c.id,.box c.nb c.a c.t)
def capI (j:Nat):List VB→List AObj
 | []=> []
 |c::r=> .box j c.b c.t::capI (j+1) r
def capO (j:Nat):List VB→List AObj
 | []=> []
 |c::r=> .box j c.a c.t::capO (j+1) r
def capR (C:List VB):AV→AV
 | .pb (j+1) o=>match C[j]? with|some c=> .pb c.nb o|none=> .no
 |a=>a
def capK (C:List VB):AV→Bool
 | .pb 0 _=>false
 | .pb (j+1) _=>Nat.blt j C.length
 |a=>okA 0 a
def capE (η:Env)(y:Value)(C:List VB):Env:=fun k=>match k with
 |0=>some y
 |j+1=>match C[j]? with|some c=>η c.nb|none=>none
def capF (n1:Nat)(C:List VB):Bool:=C.all fun c=>Nat.blt c.nb n1&&(c.b.all (okA 0)&&c.a.all (okA 0))
theorem capRel {η η':Env}{m:Mem}{C:List VB}(he: ∀(j:Nat) (c:VB),C[j]? =some c→η' (j+1)=η c.nb){a:AV}{v:Value}(h:capK C a=true)(r:Rel η m (capR C a) v):Rel η' m a v:=by
 have key: ∀a,okA 0 a=true→Rel η m a v→Rel η' m a v:=fun a ha hr=>UZ (n:=0) (fun k hk=>absurd hk (Nat.not_lt_zero k)) ha hr;cases a with
 |pb j o=>
  cases j with
  |zero=>cases h
  |succ j=>
   have hl:=Cy (show Nat.blt j C.length=true from h);have hc:C[j]? =some C[j]:=AkV hl;have hr:Rel η m (match C[j]? with|some c=>AV.pb c.nb o|none=> .no) v:=r;rw[hc]at hr;obtain⟨b,hb,rfl⟩:=hr.pb_inv;exact .pb (by rw[he j _ hc]; exact hb)
 |_=>exact key _ h r
theorem Ake {η η':Env}{m:Mem}{C:List VB}(he: ∀(j:Nat) (c:VB),C[j]? =some c→η' (j+1)=η c.nb){aq:List AV}{vs:List Value}(h:aq.all (capK C)=true)(r:BP η m (aq.map (capR C)) vs):BP η' m aq vs:=
 ⟨by rw[←r.1,AkW],fun k a u ha hu=>capRel he (AkI.1 h a (AkQ ha)) (r.2 k (capR C a) u (by rw[AkP,ha]; rfl) hu)⟩
theorem capIn {η η':Env}{m:Mem}: ∀{C D:List VB} {j:Nat},(∀(i:Nat) (c:VB),C[i]? =some c→η' (j+i)=η c.nb)→(C.all fun c=>c.b.all (okA 0))=true→
  ∀x,sepL ((AgK C).map fun p=>rep η m p.2) x→sepL ((capI j C).map (rep η' m)) x
 | [],_,_,_,_,x,h=>h
 |c::r,D,j,he,ho,x,h=>by
  simp only[Alf,Aks]at ho;refine sepC (fun y hy=> ?_) (capIn (D:=D) (j:=j+1) (fun i d hd=>by rw[show j+1+i=j+(i+1)from by omega]; exact he (i+1) d (by simpa using hd)) ho.2) x h;obtain⟨b,vs,h1,h2,h3,h4⟩:=hy;exact⟨b,vs,by rw[show j=j+0 from rfl,he 0 c rfl]; exact h1,P8 (n:=0) (fun k hk=>absurd hk (Nat.not_lt_zero k)) ho.1 h2,h3,h4⟩
theorem AhZ {η η':Env}{m:Mem}: ∀{C D:List VB} {j:Nat},(∀(i:Nat) (c:VB),C[i]? =some c→∀v,η' (j+i)=some v→η c.nb=some v)→(C.all fun c=>c.a.all (okA 0))=true→
  ∀x,sepL ((capO j C).map (rep η' m)) x→sepL ((Abd C).map fun p=>rep η m p.2) x
 | [],_,_,_,_,x,h=>h
 |c::r,D,j,he,ho,x,h=>by
  simp only[Alf,Aks]at ho;refine sepC (fun y hy=> ?_) (AhZ (D:=D) (j:=j+1) (fun i d hd v hv=>he (i+1) d (by simpa using hd) v (by rw[show j+(i+1)=j+1+i from by omega]; exact hv)) ho.2) x h;obtain⟨b,vs,h1,h2,h3,h4⟩:=hy;exact⟨b,vs,he 0 c rfl _ h1,P8 (n:=0) (fun k hk=>absurd hk (Nat.not_lt_zero k)) ho.1 h2,h3,h4⟩
theorem YU {A:Ow}: ∀{l:List Ow} {x:PH},A∈l→sepL l x→∃y,A y
 | [],_,h,_=>by cases h
 |B::l,x,h,⟨k1,k2,a,s,_,_⟩=>by
  rcases Ak1.1 h with rfl|h
  ·exact⟨k1,a⟩
  ·exact YU h s
theorem Ae5 {A B C D:List Ow}(h1: ∀x,sepL A x→sepL C x)(h2: ∀x,sepL B x→sepL D x)(x:PH)(h:sepL (A++B) x):sepL (C++D) x:=by
 obtain⟨k1,k2,s1,s2,dd,rfl⟩:=Nb h;exact O8 (h1 _ s1) (h2 _ s2) dd
section
variable {P:Program}{N:Nat}{D0:Dw}{Q:DJ}{As:List Ow}{η0:Env}{m0:Mem}
theorem Lb (hD:D0.2.2=false){n0:Nat}(n1 nx:Nat)(C:List VB){cf:Cf}{ι κ α:Type}{gt:Nat}{ps:List Nat}{gf:FuncId}{cs:List AV}{r0:AV}(sl0:Sl)(oJ:ι→List Tok)(oK:κ→List Tok)
  (A:α→List AV) (sB:ι→α→AS) (p:ι→α→Option (ι⊕κ)) (x0:ι) {s1:ι⊕κ} (hd: ∀n,η0 n≠none→n<n0)
  (hs: ∀(g:Value) (R:(ι⊕κ)→Mem→Ow),Aab P g A R (XN p)→Sp P gf (.ow 0::cs) (.hp 0 (.cb g (ι⊕κ) R (.inl x0))::capI 1 C) (C.length+1) (is r0 (.hp 0 (.cb g (ι⊕κ) R s1)::capO 1 C) (C.length+1)))
  (hsl:get sl0 gt= .fn (.func gf) [] (cs.map (capR C))) (hAl: ∀a,ps.length=(A a).length)
  (hJ: ∀x,(Xc (tids (oJ x))&&Ws nx (tids (oJ x)))=true) (hJC: ∀x,(Xc (tids (oJ x++Abd C))&&Ws nx (tids (oJ x++Abd C)))=true) (hK: ∀y,(Xc (tids (oK y++Abd C))&&Ws nx (tids (oK y++Abd C)))=true)
  (hA: ∀x a s',p x a=some s'→∀l D0 As η0 m0,(∀n,η0 n≠none→n<n1)→∀Jp,Bk As η0 m0 (fun _:Unit=>sB x a) (fun _=>True) Jp→Go (some l) P N D0 (retQ fun _ _=>False) As η0 m0 (asgC (aC P N cf) ⟨slz N sl0 ps (A a),oJ x,[],nx⟩ Jp))
  (hB: ∀x a s',p x a=some s'→∀l D0 As η0 m0,(∀n,η0 n≠none→n<n1)→∀Jp,Bk As η0 m0 (fun y=>⟨sl0,oJ y,[],nx⟩) (fun y=>s'= .inl y) Jp→∀Jr,Bk As η0 m0 (fun y=>⟨sl0,oK y,[],nx⟩) (fun y=>s'= .inr y) Jr→
   Go (some l) P N D0 (retQ Jr) As η0 m0 (bodC (aC P N cf) (sB x a) Jp))
  (h1: ∀x,s1= .inl x→Go none P N D0 Q As η0 m0 ⟨⟨sl0,oJ x++Abd C,[],nx⟩,.pop,(aC P N cf).K⟩)
  (h2: ∀y,s1= .inr y→Go none P N D0 Q As η0 m0 ⟨⟨sl0,oK y++Abd C,[],nx⟩,.ret,(aC P N cf).K⟩)
  (e:(rgK (aC P N cf),vwL (aC P N cf).s ⟨sl0,oJ x0++AgK C,[],nx⟩ n0,(vwP (aC P N cf).s ⟨sl0,oJ x0++AgK C,[],nx⟩).isSome,bL P N cf)=(some (gt,ps),vwR (aC P N cf).s ⟨sl0,oJ x0++AgK C,[],nx⟩,true,bR P N cf):=by kernel_rfl)
  (hok:(cs.all (capK C)&&((sl0.map (·.2)).all (okA n1)&&(Nat.ble n0 n1&&capF n1 C)))=true:=by kernel_rfl) (hm:P.follows .mixedOrders=true:=by rfl):Go none P N D0 Q As η0 m0 cf:=by
 simp only[Akt]at e;obtain⟨e1,e2,e4,e3⟩:=e;refine AP hm (.of e3) ?_;generalize aC P N cf=c0 at*;obtain⟨s,md,K⟩:=c0;unfold rgK at e1;split at e1
 ·rename_i g' ps' asg bo hmd;simp only at hmd; subst hmd;simp only[Akv,Akt]at e1;obtain⟨rfl,rfl⟩:=e1;simp only[Aks]at hok;obtain⟨o1,o2,o3,o4⟩:=hok;have o3:=AkG o3;have o4': ∀c∈C,c.nb<n1∧c.b.all (okA 0)=true∧c.a.all (okA 0)=true:=fun c hc=>by
   have:=AkI.1 o4 c hc;simp only[Aks]at this;exact⟨Cy this.1,this.2.1,this.2.2⟩
  intro η m f w a1 a2 g;obtain⟨η1,m1,l1,le1,g1⟩:=M7 e2 e4 hd a1 g;have hfn:Rel η1 m1 (get sl0 g') (f g'):=g1.slr g';rw[hsl]at hfn;obtain⟨us,caps,hv,hu,hc⟩:=hfn.fn_inv;have:=hu.nil_inv; subst this;have he: ∀k,k<n1→TR η1 n1 k=η1 k:=fun k hk=>AkA hk;have hslc: ∀t,Rel (TR η1 n1) m1 (get sl0 t) (f t):=fun t=>UZ he (Adr o2 t) (g1.slr t);have hle:η0.le (TR η1 n1):=fun k v hk=>by
   unfold TR; rw[AkA (Alw (hd k (by rw[hk]; simp)) o3)]; exact le1 k v hk
  have hdc: ∀n,TR η1 n1 n≠none→n<n1:=fun k hk=>by
   unfold TR at hk;split at hk
   ·assumption
   ·exact absurd rfl hk
  have hce:(TR η1 n1).le η1:=fun k v hk=>by
   unfold TR at hk;split at hk
   ·exact hk
   ·cases hk
  have eg: ∀(args:Array Value) w,(callFunc gf args).run P w= .ok (.enter gf args) w:=
   (hs undef (fun _ _ _=>False) (fun s x r _ m vs As w _ S=>by
    obtain⟨h,⟨h1,h2,⟨_,_,ff⟩,_⟩,_⟩:=S.own;exact ff.elim)).1
  have hps:ps'.toList.toArray=ps':=by simp
  rw[←hps];have gst:St m1 (reps η1 m1 (oJ x0)++As++(AgK C).map fun p=>rep η1 m1 p.2) w:=by
   have:=g1.st;rw[show(⟨sl0,oJ x0++AgK C,[],nx⟩:AS).ob=oJ x0++AgK C from rfl,AU,Akw]at this;refine this.perm ?_;rw[Akw];exact AkU _ List.perm_append_comm
  have hnb: ∀c∈C,∃b,η1 c.nb=some (pt b 0):=fun c hc=>by
   obtain⟨x,hx,_⟩:=gst.own;obtain⟨y,b,vs,hb,_⟩:=YU (A:=rep η1 m1 (.box c.nb c.b c.t)) (List.mem_append_right _ (List.mem_map.2 ⟨_,List.mem_map.2 ⟨c,hc,rfl⟩,rfl⟩)) hx;exact⟨b,hb⟩
  refine T5 gst (show ev f (.tmp g')=_ from hv) eg (fun l i w1 hi S1=> ?_) hD;have hcb:Aab P (.func (.yield l) #[] #[]) A (rgR l i oJ oK As (TR η1 n1) m1 nx) (XN p):=rg_cb hi hdc hslc hAl hJ (fun x a s' h l D0 As η0 m0 hd=>hA x a s' h l D0 As η0 m0 hd _ ⟨fun _ _ h=>h⟩) (fun x a s' h l D0 As η0 m0 hd=>hB x a s' h l D0 As η0 m0 hd _ ⟨fun _ _ h=>h⟩ _ ⟨fun _ _ h=>h⟩);have hE: ∀(j:Nat) (c:VB),C[j]? =some c→capE η1 (.func (.yield l) #[] #[]) C (j+1)=η1 c.nb:=fun j c h=>by
   show(match C[j]? with|some c=>η1 c.nb|none=>none)=_;rw[h]
  have sp:=(hs _ _ hcb).2 (capE η1 (.func (.yield l) #[] #[]) C) m1 [] w1 (.func (.yield l) #[] #[]::caps) (BP.cons (.ow rfl rfl) (Ake hE o1 hc))
   (fun k hk=>by
    cases k with
    |zero=>omega
    |succ j=>
     by_cases hj:j<C.length
     ·omega
     ·exact absurd (show(match C[j]? with|some c=>η1 c.nb|none=>none)=none from by rw[List.getElem?_eq_none (by omega)]) hk)
   (by
    obtain⟨x,hx,hr⟩:=S1.own;refine⟨S1.os,S1.tape,S1.output,x,?_,hr⟩;rw[AkX];have hx':sepL ([fun h=>sepL (Lp l i .ready none::(reps η1 m1 (oJ x0)++As)) h]++(AgK C).map fun p=>rep η1 m1 p.2) x:=by
     have hx:sepL ((Lp l i .ready none::(reps η1 m1 (oJ x0)++As))++(AgK C).map fun p=>rep η1 m1 p.2) x:=hx;obtain⟨k1,k2,s1,s2,dd,rfl⟩:=Nb hx;exact O8 (YT s1) s2 dd
    show sepL ([rep (capE η1 (.func (.yield l) #[] #[]) C) m1 (AObj.hp 0 (.cb (.func (.yield l) #[] #[]) (ι⊕κ) (rgR l i oJ oK As (TR η1 n1) m1 nx) (.inl x0)))]++(capI 1 C).map (rep (capE η1 (.func (.yield l) #[] #[]) C) m1)) x;exact Ae5 (fun y hy=>by
     have hy:=AbQ hy;exact YT ⟨0,rfl,m1,Mem.rfl' m1,η1,hce,Mem.rfl' m1,fun n hn=>g1.dom n hn,hy⟩) (capIn (D:=C) (j:=1) (fun i c h=>by rw[Nat.add_comm]; exact hE i c h) (AkI.2 fun c hc=>(o4' c hc).2.1)) x hx')
  refine sp.mono ?_;rintro v w2 ⟨M,η2,r,obs',n2,l2,le2,⟨rfl,rfl,rfl⟩,dom2,rr,S2⟩;obtain⟨x,hx,hr⟩:=S2.own;rw[AkX]at hx;obtain⟨k1,k2,⟨b,hb,M0,lM,η3,c1,c2,c3,c4⟩,s2,dd,rfl⟩:=hx;have hn3: ∀c∈C,∀v,η1 c.nb=some v→η3 c.nb=some v:=fun c hc v hv=>c1 _ _ (by rw[he _ (o4' c hc).1]; exact hv);have s3:=AhZ (η:=η3) (D:=C) (j:=1) (fun i c h v hv=>by
   have hc:=AkQ h;cases hq:η1 c.nb with
   |none=>
    obtain⟨b,hb⟩:=hnb c hc;rw[hb]at hq; cases hq
   |some u=>
    have:=le2 (i+1) u (by rw[hE i c h]; exact hq);rw[Nat.add_comm]at hv;rw[this]at hv;rw[←Akr hv]; exact hn3 c hc u hq) (AkI.2 fun c hc=>(o4' c hc).2.2) k2 s2
  have S3:St M (Lp l i (rgSt s1).1 (rgSt s1).2::(reps η3 M0 (rgOb oJ oK s1)++As++(Abd C).map fun p=>rep η3 M p.2)) w2:=by
   refine⟨S2.os,S2.tape,S2.output,_,?_,hr⟩;have:=O8 c4 s3 dd;exact this
  refine⟨M,(rgSt s1).1,(rgSt s1).2,_,l2,(by cases s1<;>exact fun h=>(by cases h)),S3,fun M' w3 lM' S4=> ?_⟩;have S4a:St M' (reps η3 M0 (rgOb oJ oK s1)++(As++(Abd C).map fun p=>rep η3 M p.2)) w3:=by rw[←Akw]; exact S4
  have S4b:=St.ru Env.le_refl (Mem.tr lM lM') S4a;have S4c:St M' (reps η3 M (Abd C)++(reps η3 M' (rgOb oJ oK s1)++As)) w3:=S4b.perm (by
   rw[←Akw]; exact List.perm_append_comm)
  have S5:St M' (reps η3 M' (rgOb oJ oK s1++Abd C)++As) w3:=(St.ru Env.le_refl lM' S4c).perm (by
   rw[AU,Akw];exact AkE _ _ _)
  have lm:m0≤M':=Mem.tr a2 (Mem.tr l1 (Mem.tr l2 lM'));have hsr: ∀t,Rel η3 M' (get sl0 t) (f t):=fun t=>(hslc t).up c1 (Mem.tr l2 lM');cases s1 with
  |inl x1=>
   have hj:=hJC x1;simp only[Aks]at hj;exact h1 x1 rfl η3 M' f w3 (Env.le_tr hle c1) lm ⟨hsr,fun n d h=>(by cases h),c3,S5,E1 hj.1,fun t ht=>Pw hj.2 t ht⟩
  |inr y=>
   have hj:=hK y;simp only[Aks]at hj;have gr:=Wm hm (cf:=⟨⟨sl0,oK y++Abd C,[],nx⟩,.code .ret,K⟩) rfl trivial (h2 y rfl);exact gr η3 M' f w3 (Env.le_tr hle c1) lm ⟨hsr,fun n d h=>(by cases h),c3,S5,E1 hj.1,fun t ht=>Pw hj.2 t ht⟩
 ·cases e1
end
def pN {σ α:Type}(b:α→σ→Option σ)(s:σ)(x:α):Option (σ⊕Unit):=(b x s).map .inl
def fJ {σ:Type}(z:σ×Nat):σ⊕(σ×Nat):=if z.2=0 then .inl z.1 else .inr z
def pJ {σ α:Type}(b:α→σ×Nat→Option (σ×Nat))(s:σ)(x:α):Option (σ⊕(σ×Nat)):=(b x (s,0)).map fJ
theorem hyN {σ α:Type}{b:α→σ→Option σ}: ∀(s:σ) (x:α) (r:Bool×σ),(fun(s:σ) (x:α)=>Ab (b x s) fun y=>some (true,y)) s x=some r→XN (pN b) (.inl s) x=some (r.1,.inl r.2):=fun s x r h=>by
 obtain⟨y,hy,h⟩:=Ac h;cases h;show((b x s).map Sum.inl).map _=_;rw[hy]; rfl
theorem hyJ {σ α:Type}{b:α→σ×Nat→Option (σ×Nat)}: ∀(s:σ×Nat) (x:α) (r:Bool×(σ×Nat)),(fun(s:σ×Nat) (x:α)=>if s.2=0 then Ab (b x s) fun y=>some (y.2==0,y)else none) s x=some r→XN (pJ b) (fJ s) x=some (r.1,fJ r.2):=fun s x r h=>by
 obtain⟨s1,k⟩:=s;by_cases hk:k=0
 ·subst hk;have h:(Ab (b x (s1,0)) fun y=>some (y.2==0,y))=some r:=h;obtain⟨y,hy,h⟩:=Ac h;cases h;show((b x (s1,0)).map fJ).map _=_;rw[hy];obtain⟨y1,k⟩:=y;show some (isL (fJ (y1,k)),fJ (y1,k))=some (k==0,fJ (y1,k));unfold fJ;by_cases hk:k=0
  ·subst hk; rfl
  ·rw[Aky (show¬(y1,k).2=0 from hk)];have:(k==0)=false:=by simpa using hk
   rw[this]; rfl
 ·have h:(if k=0 then _ else none)=some r:=h;rw[Aky hk]at h; cases h
theorem ZM {σ:Type}{z:σ×Nat}{x:σ}(h:fJ z= .inl x):z.2=0∧z.1=x:=by
 unfold fJ at h;split at h
 ·rename_i hz; exact⟨hz,Sum.inl.inj h⟩
 ·cases h
theorem ZL {σ:Type}{z y:σ×Nat}(h:fJ z= .inr y): ¬z.2=0∧z=y:=by
 unfold fJ at h;split at h
 ·cases h
 ·rename_i hz; exact⟨hz,Sum.inr.inj h⟩
section
variable {P:Program}
theorem via {τ ι κ α:Type}{A:α→List AV}{y:τ→α→Option (Bool×τ)}{p:ι→α→Option (ι⊕κ)}(f:τ→ι⊕κ){gf:FuncId}{args:List AV}{O O':List AObj}{n:Nat}{r0:AV}{t0 t1:τ}{x0:ι}
  (hy: ∀s x r,y s x=some r→XN p (f s) x=some (r.1,f r.2)) (h0:f t0= .inl x0)
  (hs: ∀(g:Value) (R:τ→Mem→Ow),Aab P g A R y→Sp P gf args (.hp 0 (.cb g τ R t0)::O) n (is r0 (.hp 0 (.cb g τ R t1)::O') n)) (g:Value) (R:(ι⊕κ)→Mem→Ow) (hc:Aab P g A R (XN p)):
  Sp P gf args (.hp 0 (.cb g (ι⊕κ) R (.inl x0))::O) n (is r0 (.hp 0 (.cb g (ι⊕κ) R (f t1))::O') n):=by
 have h:=hs g (fun s=>R (f s)) (fun s x r h m vs As w hv S=>hc (f s) x (r.1,f r.2) (hy s x r h) m vs As w hv S);rw[←h0];refine⟨h.1,fun η m As w vs hv hd S=> ?_⟩;refine(h.2 η m As w vs hv hd S).mono ?_;rintro v w' ⟨M,η',r,obs',n',l,le,⟨rfl,rfl,rfl⟩,dom,rr,S'⟩;exact⟨M,η',_,_,_,l,le,⟨rfl,rfl,rfl⟩,dom,rr,S'⟩
end
section
variable {P:Program}{ρ:Option Nat}{N:Nat}{D0:Dw}{Q:DJ}{As:List Ow}{η0:Env}{m0:Mem}{cf:Cf}{n0:Nat}{σ τ α:Type}
def Nx (As:List Ow)(η0:Env)(m0:Mem)(J:σ→AS)(b:σ→Option (σ⊕τ))(x:τ)(Jl:Fr→World→Prop)(y:σ⊕τ):Prop:= ∃n,Bk As η0 m0 (fun p:Nat×σ=>J p.2) (fun p=>iter b p.1 p.2=some x∧p.1<n+1) Jl∧((∃s,y= .inl s∧iter b n s=some x)∨y= .inr x)
theorem gI {b:σ→Option (σ⊕τ)}{n:Nat}{s0:σ}{x:τ}(q:iter b n s0=some x)(J:σ→AS)(h: ∀s y Jl,b s=some y→Nx As η0 m0 J b x Jl y→Go ρ P N D0 Q As η0 m0 (rndC (aC P N cf) (J s) Jl))(hd: ∀n,η0 n≠none→n<n0:=by assumption)
  (e:((Zw (aC P N cf)).isSome,vwL (aC P N cf).s (J s0) n0,(vwP (aC P N cf).s (J s0)).isSome,bL P N cf)=(true,vwR (aC P N cf).s (J s0),true,bR P N cf):=by kernel_rfl) (hM:P.follows .mixedOrders=true:=by rfl):
  Go ρ P N D0 Q As η0 m0 cf:=
 gl hd (fun p:Nat×σ=>J p.2) (fun p=>iter b p.1 p.2=some x) (fun p=>p.1) (n,s0) q (by
  rintro⟨n,s⟩ hq Jl bl;cases n with
  |zero=>exact(Ade hq).elim
  |succ n=>obtain⟨y,h1,h2⟩:=WB hq; exact h s y Jl h1 ⟨n,bl,h2⟩) e hM
theorem gN {J:σ→AS}{b:σ→Option (σ⊕τ)}{x:τ}{Jl:Fr→World→Prop}{y:σ⊕τ}{s:σ}(nx:Nx As η0 m0 J b x Jl y)(q:some (Sum.inl s)=some y)(hd: ∀n,η0 n≠none→n<n0:=by assumption)
  (e:(AaX (aC P N cf),vwL (aC P N cf).s (J s) n0,(vwP (aC P N cf).s (J s)).isSome,bL P N cf)=(some Jl,vwR (aC P N cf).s (J s),true,bR P N cf):=by kernel_rfl) (hM:P.follows .mixedOrders=true:=by rfl):
  Go ρ P N D0 Q As η0 m0 cf:=by
 cases q; obtain⟨n,bl,h⟩:=nx;rcases h with ⟨s',hs,h⟩|h
 ·cases hs; exact gb bl hd (n,_) ⟨h,AkO _⟩ e hM
 ·cases h
theorem nR {J:σ→AS}{b:σ→Option (σ⊕τ)}{x v:τ}{Jl:Fr→World→Prop}{y:σ⊕τ}(nx:Nx As η0 m0 J b x Jl y)(q:some (Sum.inr v)=some y):v=x:=by
 cases q; obtain⟨n,-,⟨s,h,-⟩|h⟩:=nx
 ·cases h
 ·cases h; rfl
structure Pr (σ:Type) where
 n:Nat
 p:Nat→σ→Prop
def E0 (b:Int→α→σ→Option σ)(xs:List α)(x:σ):Pr σ:=⟨xs.length,fun i s=>Et b (xs.drop i) i s=some x⟩
def ER (b:Int→α→σ→Option (σ⊕τ))(xs:List α)(x:σ⊕τ):Pr σ:=⟨xs.length,fun i s=>D1 b (xs.drop i) i s=some x⟩
def EM (b:Int→σ→Option σ)(n:Nat)(x:σ):Pr σ:=⟨n,fun i s=>Cg b (n-i) i s=some x⟩
def EN (b:Int→σ→Option (σ⊕τ))(n:Nat)(x:σ⊕τ):Pr σ:=⟨n,fun i s=>Es b (n-i) i s=some x⟩
def Ng (As:List Ow)(η0:Env)(m0:Mem)(J:Int→σ→AS)(r:Pr σ)(Jl:Fr→World→Prop)(i:Nat):Prop:=i<r.n∧Bk As η0 m0 (fun p:Int×σ=>J p.1 p.2) (fun p=>(∃i:Nat,p.1=(i:Int)∧i≤r.n∧r.p i p.2)∧r.n-p.1.toNat<r.n-((i:Int)).toNat) Jl
def Nf (As:List Ow)(η0:Env)(m0:Mem)(J:Int→σ→AS)(r:Pr σ)(Jl:Fr→World→Prop)(i:Nat)(s:σ):Prop:=r.p i s∧(i<r.n→Ng As η0 m0 J r Jl i)
theorem gF (r:Pr σ){s0:σ}(q:r.p 0 s0)(J:Int→σ→AS)(h: ∀(i:Nat) s Jl,Nf As η0 m0 J r Jl i s→Go ρ P N D0 Q As η0 m0 (rndC (aC P N cf) (J i s) Jl))(hd: ∀n,η0 n≠none→n<n0:=by assumption)
  (e:((Zw (aC P N cf)).isSome,vwL (aC P N cf).s (J 0 s0) n0,(vwP (aC P N cf).s (J 0 s0)).isSome,bL P N cf)=(true,vwR (aC P N cf).s (J 0 s0),true,bR P N cf):=by kernel_rfl) (hM:P.follows .mixedOrders=true:=by rfl):
  Go ρ P N D0 Q As η0 m0 cf:=
 gl hd (fun p:Int×σ=>J p.1 p.2) (fun p=> ∃i:Nat,p.1=(i:Int)∧i≤r.n∧r.p i p.2) (fun p=>r.n-p.1.toNat) (0,s0) ⟨0,rfl,Als _,q⟩ (by
  rintro⟨_,s⟩ ⟨i,rfl,hi,h1⟩ Jl bl;exact h i s Jl ⟨h1,fun hl=>⟨hl,bl⟩⟩) e hM
theorem gG {J:Int→σ→AS}{r:Pr σ}{Jl:Fr→World→Prop}{i:Nat}{s:σ}(ng:Ng As η0 m0 J r Jl i)(hn:r.n≤9223372036854775807)(q:r.p (i+1) s)(hd: ∀n,η0 n≠none→n<n0:=by assumption)
 (e:(AaX (aC P N cf),vwL (aC P N cf).s (J (w64 ((i:Int)+1)) s) n0,(vwP (aC P N cf).s (J (w64 ((i:Int)+1)) s)).isSome,bL P N cf)=(some Jl,vwR (aC P N cf).s (J (w64 ((i:Int)+1)) s),true,bR P N cf):=by kernel_rfl) (hM:P.follows .mixedOrders=true:=by rfl):
 Go ρ P N D0 Q As η0 m0 cf:=gb ng.2 hd (w64 ((i:Int)+1),s) ⟨⟨i+1,YE ng.1 hn,ng.1,q⟩,mu_lt ng.1 hn⟩ e hM
theorem gC {J:Int→σ→AS}{r:Pr σ}{Jl:Fr→World→Prop}{i:Nat}{s:σ}(nf:Nf As η0 m0 J r Jl i s)(t:Int)(ht:(i:Int)<t↔i<r.n)(h1:i<r.n→Ng As η0 m0 J r Jl i→r.p i s→Go ρ P N D0 Q As η0 m0 (way true (aC P N cf)))(h0: ¬i<r.n→r.p i s→Go ρ P N D0 Q As η0 m0 (way false (aC P N cf)))
 (e:(Sz (aC P N cf),bL P N cf)=(some (decide ((i:Int)<t)),bR P N cf):=by kernel_rfl) (hM:P.follows .mixedOrders=true:=by rfl):
 Go ρ P N D0 Q As η0 m0 cf:=gi' (fun h=>have h:=ht.1 (of_decide_eq_true h); h1 h (nf.2 h) nf.1) (fun h=>h0 (fun h'=>of_decide_eq_false h (ht.2 h')) nf.1) e hM
theorem c0 {b:Int→α→σ→Option σ}{xs:List α}{x:σ}{J:Int→σ→AS}{Jl:Fr→World→Prop}{i:Nat}{s:σ}(nf:Nf As η0 m0 J (E0 b xs x) Jl i s)(h1: ∀z y,idx xs i=some z→b i z s=some y→Ng As η0 m0 J (E0 b xs x) Jl i∧(E0 b xs x).p (i+1) y→Go ρ P N D0 Q As η0 m0 (way true (aC P N cf)))(h0:x=s→Go ρ P N D0 Q As η0 m0 (way false (aC P N cf)))
 (e:(Sz (aC P N cf),bL P N cf)=(some (decide ((i:Int)<(xs.length:Int))),bR P N cf):=by kernel_rfl) (hM:P.follows .mixedOrders=true:=by rfl):
 Go ρ P N D0 Q As η0 m0 cf:=gC nf _ Int.ofNat_lt (fun hl ng q=>let ⟨z,y,a,b,c⟩:=Agy q hl; h1 z y a b ⟨ng,c⟩) (fun hl q=>h0 (AdJ q hl)) e hM
theorem cR {b:Int→α→σ→Option (σ⊕τ)}{xs:List α}{x:σ⊕τ}{J:Int→σ→AS}{Jl:Fr→World→Prop}{i:Nat}{s:σ}(nf:Nf As η0 m0 J (ER b xs x) Jl i s)(h1: ∀z y,idx xs i=some z→b i z s=some y→Ng As η0 m0 J (ER b xs x) Jl i∧((∃s',y= .inl s'∧(ER b xs x).p (i+1) s')∨(∃t,y= .inr t∧x= .inr t))→Go ρ P N D0 Q As η0 m0 (way true (aC P N cf)))(h0: .inl s=x→Go ρ P N D0 Q As η0 m0 (way false (aC P N cf)))
 (e:(Sz (aC P N cf),bL P N cf)=(some (decide ((i:Int)<(xs.length:Int))),bR P N cf):=by kernel_rfl) (hM:P.follows .mixedOrders=true:=by rfl):
 Go ρ P N D0 Q As η0 m0 cf:=gC nf _ Int.ofNat_lt (fun hl ng q=>let ⟨z,y,a,b,c⟩:=Agu q hl; h1 z y a b ⟨ng,c⟩) (fun hl q=>h0 (AdG q hl).symm) e hM
theorem cM {b:Int→σ→Option σ}{n:Nat}{x:σ}{J:Int→σ→AS}{Jl:Fr→World→Prop}{i:Nat}{s:σ}(nf:Nf As η0 m0 J (EM b n x) Jl i s)(t:Int)(h1: ∀y,b i s=some y→Ng As η0 m0 J (EM b n x) Jl i∧(EM b n x).p (i+1) y→Go ρ P N D0 Q As η0 m0 (way true (aC P N cf)))(h0:x=s→Go ρ P N D0 Q As η0 m0 (way false (aC P N cf)))
 (e:(Sz (aC P N cf),bL P N cf)=(some (decide ((i:Int)<t)),bR P N cf):=by kernel_rfl) (ht:(i:Int)<t↔i<n:=by first|omega|exact Int.lt_toNat.symm) (hM:P.follows .mixedOrders=true:=by rfl):
 Go ρ P N D0 Q As η0 m0 cf:=gC nf t ht (fun hl ng q=>let ⟨y,b,c⟩:=AdI q hl; h1 y b ⟨ng,c⟩) (fun hl q=>h0 (AaN q hl)) e hM
theorem cN {b:Int→σ→Option (σ⊕τ)}{n:Nat}{x:σ⊕τ}{J:Int→σ→AS}{Jl:Fr→World→Prop}{i:Nat}{s:σ}(nf:Nf As η0 m0 J (EN b n x) Jl i s)(t:Int)(h1: ∀y,b i s=some y→Ng As η0 m0 J (EN b n x) Jl i∧((∃s',y= .inl s'∧(EN b n x).p (i+1) s')∨(∃t,y= .inr t∧x= .inr t))→Go ρ P N D0 Q As η0 m0 (way true (aC P N cf)))(h0: .inl s=x→Go ρ P N D0 Q As η0 m0 (way false (aC P N cf)))
 (e:(Sz (aC P N cf),bL P N cf)=(some (decide ((i:Int)<t)),bR P N cf):=by kernel_rfl) (ht:(i:Int)<t↔i<n:=by first|omega|exact Int.lt_toNat.symm) (hM:P.follows .mixedOrders=true:=by rfl):
 Go ρ P N D0 Q As η0 m0 cf:=gC nf t ht (fun hl ng q=>let ⟨y,b,c⟩:=Agv q hl; h1 y b ⟨ng,c⟩) (fun hl q=>h0 (AdH q hl).symm) e hM
theorem gM {J:Int→σ→AS}{r:Pr σ}{Jl:Fr→World→Prop}{i:Nat}{s y:σ}(ng:Ng As η0 m0 J r Jl i∧r.p (i+1) y)(hn:r.n≤9223372036854775807)(q:some s=some y)(hd: ∀n,η0 n≠none→n<n0:=by assumption)
 (e:(AaX (aC P N cf),vwL (aC P N cf).s (J (w64 ((i:Int)+1)) s) n0,(vwP (aC P N cf).s (J (w64 ((i:Int)+1)) s)).isSome,bL P N cf)=(some Jl,vwR (aC P N cf).s (J (w64 ((i:Int)+1)) s),true,bR P N cf):=by kernel_rfl) (hM:P.follows .mixedOrders=true:=by rfl):
 Go ρ P N D0 Q As η0 m0 cf:=gG ng.1 hn (by cases q; exact ng.2) hd e hM
theorem gT {J:Int→σ→AS}{r:Pr σ}{Jl:Fr→World→Prop}{i:Nat}{s:σ}{x y:σ⊕τ}(ng:Ng As η0 m0 J r Jl i∧((∃s',y= .inl s'∧r.p (i+1) s')∨(∃t,y= .inr t∧x= .inr t)))(hn:r.n≤9223372036854775807)(q:some (Sum.inl s)=some y)(hd: ∀n,η0 n≠none→n<n0:=by assumption)
 (e:(AaX (aC P N cf),vwL (aC P N cf).s (J (w64 ((i:Int)+1)) s) n0,(vwP (aC P N cf).s (J (w64 ((i:Int)+1)) s)).isSome,bL P N cf)=(some Jl,vwR (aC P N cf).s (J (w64 ((i:Int)+1)) s),true,bR P N cf):=by kernel_rfl) (hM:P.follows .mixedOrders=true:=by rfl):
 Go ρ P N D0 Q As η0 m0 cf:=gG ng.1 hn (by
  cases q; obtain⟨-,⟨s',h,h2⟩|⟨t,h,-⟩⟩:=ng
  ·cases h; exact h2
  ·cases h) hd e hM
theorem nT {A:Prop}{p:σ→Prop}{v:τ}{x y:σ⊕τ}(ng:A∧((∃s',y= .inl s'∧p s')∨(∃t,y= .inr t∧x= .inr t)))(q:some (Sum.inr v)=some y): .inr v=x:=by
 cases q; obtain⟨-,⟨s',h,-⟩|⟨t,h,h2⟩⟩:=ng
 ·cases h
 ·cases h; exact h2.symm
theorem gE {fn:Func}{n1:Nat}{er:AV}{eobs:List AObj}(hd: ∀n,η0 n≠none→n<n0:=by assumption)
 (e:(endL P fn (aC P N cf) er eobs n0 n1,(Agt P fn (aC P N cf) er eobs).isSome,bL P N cf)=(endR P fn (aC P N cf) er eobs,true,bR P N cf):=by kernel_rfl) (hM:P.follows .mixedOrders=true:=by rfl):
 Go ρ P N D0 (Q4 P N fn (Ix As η0 m0 (is er eobs n1))) As η0 m0 cf:=Adt hd e hM
theorem bE {β γ:Type}{a:β}{k:β→γ}{z:γ}{G:Prop}(q:bnd a k=z)(g:let x:=a; k x=z→G):G:=g q
theorem gx {xs:List α}{j:Int}{x:α}(E:α→List D)(k:Nat)(q:idx xs j=some x)(g:Go ρ P N D0 Q As η0 m0 (CK N (aC P N cf) (.d (.pf (E x))) (idxT P (aC P N cf))))
 (e:((Ajv P (aC P N cf)).map (fun r=>(r.1,r.2.1,r.2.2.1)),aL P N cf)=(some (.sl α E xs,j,k),aR P N cf):=by kernel_rfl) (hE: ∀x,(E x).length=k:=by intro x; rfl) (hM:P.follows .mixedOrders=true:=by rfl):Go ρ P N D0 Q As η0 m0 cf:=gidx hE (fun _=>q) g e hM
theorem gxG [Inhabited α]{c:Bool}{xs:List α}{j:Int}{x:α}(E:α→List D)(k:Nat)(q:gu c (idx xs j)=some x)(g:Go ρ P N D0 Q As η0 m0 (CK N (aC P N cf) (.d (.pf (E x))) (idxT P (aC P N cf))))
 (e:(gOf (aC P N cf),(Ajv P (aC P N cf)).map (fun r=>(r.1,r.2.1,r.2.2.1)),aL P N cf)=(c,some (.sl α E xs,j,k),aR P N cf):=by kernel_rfl) (hE: ∀x,(E x).length=k:=by intro x; rfl) (hM:P.follows .mixedOrders=true:=by rfl):Go ρ P N D0 Q As η0 m0 cf:=gidxG hE (fun h=>Af7 h q) g e hM
theorem gk {xs ys:List α}{lo hi:Int}(E:α→List D)(k:Nat)(q:cut xs lo hi=some ys)(g:Go ρ P N D0 Q As η0 m0 (CK N (aC P N cf) (.d (.sl α E ys)) (cutT P (aC P N cf))))
 (e:((cutK P (aC P N cf)).map (fun r=>(r.1,r.2.1,r.2.2.1,r.2.2.2.1,r.2.2.2.2.1)),aL P N cf)=(some (.sl α E xs,lo,hi,hi,k),aR P N cf):=by kernel_rfl) (hE: ∀x,(E x).length=k:=by intro x; rfl) (hM:P.follows .mixedOrders=true:=by rfl):Go ρ P N D0 Q As η0 m0 cf:=gcut hE (fun _=>q) g e hM
theorem gp {b:Nat}{xs ys zs:List α}(E:α→List D)(k:Nat)(q:app b xs ys=some zs)(g:Go ρ P N D0 Q As η0 m0 (push N (aC P N cf) (appS P (aC P N cf).s (aC P N cf) k α E zs)))
 (e:(appK P (aC P N cf),aL P N cf)=(some (.sl α E xs,.sl α E ys,b,k,true),aR P N cf):=by kernel_rfl) (hE: ∀x,(E x).length=k:=by intro x; rfl) (hM:P.follows .mixedOrders=true:=by rfl):Go ρ P N D0 Q As η0 m0 cf:=gapp hE q g e hM
theorem gq (E:α→List D)(k:Nat)(xs:List α)(g:Go ρ P N D0 Q As η0 m0 (CK N (aC P N cf) (.d (.sl α E xs)) []))
 (e:(litG P (aC P N cf),aL P N cf)=(some ((xs.flatMap E).map dv,xs.length,k,true),aR P N cf):=by kernel_rfl) (hE: ∀x,(E x).length=k:=by intro x; rfl) (hM:P.follows .mixedOrders=true:=by rfl):Go ρ P N D0 Q As η0 m0 cf:=glitF E xs hE g e hM
theorem gcH {β:Type} [Inhabited β]{c:Bool}{k:FuncId}{ea:List AV}{a:Option β}{x:β}{r:AV}(q:gu c a=some x)(hs:a=some x→Sf P k ea r)(g:Go ρ P N D0 Q As η0 m0 (Pb N (aC P N cf) r))
 (e:(gOf (aC P N cf),AaU (aC P N cf) ea,ea.all (okA 0),aL P N cf)=(c,some (k,ea),true,aR P N cf):=by kernel_rfl) (hM:P.follows .mixedOrders=true:=by rfl):Go ρ P N D0 Q As η0 m0 cf:=gcG (fun h=>hs (Af7 h q)) g e hM
theorem gA {β γ:Type}{a:Option β}{kk:β→Option γ}{z:γ}(hq:Ab a kk=some z){k:FuncId}{ea:List AV}{R:β→AV}(hs: ∀{x},a=some x→Sf P k ea (R x))(g: ∀x,a=some x→kk x=some z→Go ρ P N D0 Q As η0 m0 (Pb N (aC P N cf) (R x)))
 (e:(AaU (aC P N cf) ea,ea.all (okA 0),aL P N cf)=(some (k,ea),true,aR P N cf):=by kernel_rfl) (hM:P.follows .mixedOrders=true:=by rfl):
 Go ρ P N D0 Q As η0 m0 cf:=gB hq (fun _=>hs) g e hM
theorem gD {β γ:Type}{a:Option β}{kk:β→Option γ}{z:γ}(hq:Ab a kk=some z){k:FuncId}{ea:List AV}{eobs:List AObj}{n1:Nat}{R:β→AV}{O:β→List AObj}(hs: ∀{x},a=some x→Sp P k ea eobs n0 (is (R x) (O x) n1))(g: ∀x,a=some x→kk x=some z→Go ρ P N D0 Q As η0 m0 (Afs N (aC P N cf) ea eobs n0 (R x) (O x) n1))
 (e: ∀x,(Ld (aC P N cf) ea eobs n0,okA n1 (R x)&&((O x).all (okO n1)&&Nat.ble n0 n1),aL P N cf)=(some (k,(FH (aC P N cf) ea eobs).1,(FH (aC P N cf) ea eobs).2,true),true,aR P N cf):=by intro x; kernel_rfl) (hM:P.follows .mixedOrders=true:=by rfl):
 Go ρ P N D0 Q As η0 m0 cf:=gBo hq (fun _=>hs) g e hM
theorem lk {n:Nat}(h:Nat.ble n 9223372036854775807=true:=by rfl):n≤9223372036854775807:=AkG h
theorem sq {k:FuncId}{fn:Func}{c:Code}{args:List AV}{obs:List AObj}{Po:AV→List AObj→Nat→Prop}(h: ∀D0 As η0 m0,(∀n,η0 n≠none→n<n0)→Go none P N D0 (Q4 P N fn (Ix As η0 m0 Po)) As η0 m0 ⟨Q9 args obs n0,.code c,[]⟩)(hf:P.funcs[k]? =some fn:=by rfl)(hb:fn.body=some c:=by rfl)(hN:fn.ntmps=N:=by rfl)(hc: ∀(a:Array Value) w,(callFunc k a).run P w= .ok (.enter k a) w:=by intros; rfl)(hle:Nat.ble args.length N=true:=by rfl):
 Sp P k args obs n0 Po:=sp hc hf hb hN hle h
end
section
variable {P:Program}{ρ:Option Nat}{N:Nat}{D0:Dw}{Q:DJ}{As:List Ow}{η0:Env}{m0:Mem}{cf:Cf}
def mksK (P:Program)(cf:Cf):Option (AV×AV×Nat×Value):=
 match Gt cf with
 |some a=>match a.g,a.o.op with
  |none,.makeSlice t x y=>match P.underlying t with
   |some (.slice e)=>match JK P e with
    |some i=>match i.z with
     |some z=>bif Nat.beq i.sz 1 then some (aev a.sl x,aev a.sl y,i.by_,z)else none
     |none=>none
    |none=>none
   |_=>none
  |_,_=>none
 |none=>none
def mkS {α:Type}(b:Nat)(x0:α)(k:Int):Option (List α):=if 0≤k∧k*b≤140737488355328∧k≤140737488355328 then some (List.replicate k.toNat x0)else none
theorem gmks {α:Type}{k:Int}{xs:List α}(E:α→List D)(x0:α)(zd:D)(b:Nat)(q:mkS b x0 k=some xs)(g:Go ρ P N D0 Q As η0 m0 (push N (aC P N cf) (Afc (aC P N cf).s 1 α E xs)))
  (e:(mksK P (aC P N cf),sc zd,aL P N cf)=(some (.d (.i k),.d (.i k),b,scV zd),true,aR P N cf):=by kernel_rfl) (hE: ∀x,(E x).length=1:=by intro x; rfl) (hz:E x0=[zd]:=by rfl) (hM:P.follows .mixedOrders=true:=by rfl):Go ρ P N D0 Q As η0 m0 cf:=by
 simp only[Akt]at e;obtain⟨e1,hsc,e3⟩:=e;obtain⟨he1,-⟩:=KB e3;refine AP hM he1 ?_;generalize aC P N cf=c0 at*;unfold mkS at q;split at q
 ·rename_i hq; cases q;unfold mksK at e1;split at e1
  ·rename_i a ha;split at e1
   ·rename_i t x y hg hop;split at e1
    ·rename_i e' hu;split at e1
     ·rename_i i hi;split at e1
      ·rename_i z hz';cases hb:Nat.beq i.sz 1
       ·rw[hb]at e1; cases e1
       ·rw[hb]at e1;simp only[cond_true,Akv,Akt]at e1;obtain⟨ex,ey,eb,ez⟩:=e1;have hb:=Aku hb;refine DC ha hg ⟨Ale _,fun rest Q η m f w As hr hfz hn S hk=> ?_⟩ Oy g;have hgd:=BG ha hg;obtain⟨l,⟨dst,op,ty,pos,af,gd⟩,gg,sl,es⟩:=a;simp only at hop hgd hk ex ey hr⊢; subst hop hgd;have rx:=Am hr x; rw[ex]at rx;have ry:=Am hr y; rw[ey]at ry;obtain⟨p1,p2,p3,p4,p5,p6⟩:=G5 hi;letI:=PQ E 1;have hzc:(scV zd).cells= #[scV zd]:=Wk (AbS (m:=m) hsc).one;have hrep: @GoT.rep α (PQ E 1) m [scV zd] x0:=⟨by rw[hz]; exact .cons (AbS hsc) .nil,hE x0⟩;refine s_mk1 (k:=k) (x0:=x0) (bytes:=b) S rx.i_inv ry.i_inv hq hu p1 (z:=scV zd) (z0:=scV zd) (by rw[←p5,hz',ez]) (by rw[←p4,hb]) (by rw[←p6,eb]) hzc hrep fun v cs w' S' hc=> ?_;obtain⟨hc1,-⟩:=XW hc;have h0:=hn c0.s.nx (AkC _) (AkO _);have h1:=Nc S';refine hk (η.put c0.s.nx v) m w' v (Env.le_put h0) (Mem.rfl' m) (fun n q=> ?_) (.ow Env.put_self h1) (St.closeRow Env.put_self h1 hc1 (fun x _=>hE x) S');rcases Env.put_dom q with q|q
        ·exact .inl q
        ·subst q; exact .inr ⟨AkC _,AkO _⟩
      ·cases e1
     ·cases e1
    ·cases e1
   ·cases e1
  ·cases e1
 ·cases q
end
def nilK (P:Program)(cf:Cf):Option D:=
 match cf.md with
 | .ops false l [⟨dst,.binOp .eql t x (.const (.slice none 0 0)) t',ty,pos,af,none⟩] h=>match P.underlying t,aev cf.s.sl x with
  |some (.slice _),.d d=>some d
  |_,_=>none
 |_=>none
def AeC (N:Nat)(b:Bool)(cf:Cf):Cf:=match cf.md with| .ops _ _ (o::_) _=>⟨after N cf.s o ⟨.d (.t b),[],[],[],cf.s.nx,[]⟩,.pop,cf.K⟩|_=>cf
section
variable {ρ:Option Nat}{P:Program}{N:Nat}{D0:Dw}{Q:DJ}{As:List Ow}{η0:Env}{m0:Mem}
theorem AhI {s:AS}{η:Env}{m:Mem}{f:Fr}{w:World}{o:Oper}{d:AV}{v:Value}(g:Gm As s η m f w)(h:Rel η m d v):Gm As (after N s o ⟨d,[],[],[],s.nx,[]⟩) η m (upo N f o.dst v) w:=
 ⟨Ro (fun t=>g.slr t) h,g.fz,fun n hn=>g.dom n hn,by
  have e:DY ([]:List Nat) s.ob=s.ob:=List.filter_eq_self.2 fun p _=>by simp[Fh]
  show St m (reps η m (DY ([]:List Nat) s.ob++[])++As) w;rw[e,AkX]; exact g.st,Ms g.wf ⟨fun x hx=>by simp at hx,by simp[tids],by simp[tids],fun t ht=>by simp[tids]at ht⟩ (AkC _)⟩
theorem AfE {c0:Cf}{α:Type}{E:α→List D}{xs:List α}(e:nilK P c0=some (.sl α E xs))(g0:Go ρ P N D0 Q As η0 m0 (AeC N false c0))(g1:xs=[]→Go ρ P N D0 Q As η0 m0 (AeC N true c0)):Go ρ P N D0 Q As η0 m0 c0:=by
 obtain⟨s,md,K⟩:=c0;unfold nilK at e;split at e
 ·rename_i l dst t x t' ty pos af h hmd;simp only at hmd; subst hmd;split at e
  ·rename_i el d hu hx;cases e;refine .inr (.inl ⟨rfl,fun η m f w a b gm=> ?_⟩);have rx:=Am gm.slr x;rw[hx]at rx;have fx:=rx.dd;have hv: ∃u c,ev f x= .slice u xs.length c∧(u=none→xs=[]):=by
    generalize ev f x=v at fx;cases fx with
    |sl h=>
     obtain⟨_,_,⟨h0,a,c,rfl⟩|⟨b,off,cap,l,e,fr,rfl,_⟩⟩:=h
     ·exact⟨a,c,by rw[h0],fun _=>List.eq_nil_of_length_eq_zero h0⟩
     ·exact⟨_,_,rfl,fun h=>by cases h⟩
   obtain⟨u,c,hv,hn⟩:=hv;have key:(Op.equal t (.slice u xs.length c) (.slice none 0 0)).run P w= .ok (ZE (.slice u xs.length c)) w:=by
    show(Op.equalIn (9999+1) _ _ _).run P w=_;unfold Op.equalIn;cases u<;>simp[AkD hu,ZE]
   have hg:(eqGuard .eql t x (.const (.slice none 0 0)) (.slice u xs.length c) (.slice none 0 0)).run P w= .ok () w:=by simp[eqGuard]
   have hc:ev f (.const (.slice none 0 0))= .slice none 0 0:=rfl;refine Aq (v:= .bool (ZE (.slice u xs.length c))) (w':=w) rfl (fun _ e=>by cases e) ?_ (Co ?_)
   ·simp only[execOp,hv,hc];simp[hg,binOp,key]
   ·cases u with
    |none=>exact g1 (hn rfl) η m _ w a b (AhI gm (.d (.t _)))
    |some q=>exact g0 η m _ w a b (AhI gm (.d (.t _)))
  ·cases e
 ·cases e
theorem gnq {cf:Cf}{α:Type}(E:α→List D)(xs:List α)(g1:xs=[]→Go ρ P N D0 Q As η0 m0 (way true (aC P N (AeC N true (aC P N cf)))))(g0:Go ρ P N D0 Q As η0 m0 (way false (aC P N (AeC N false (aC P N cf)))))
  (e:(nilK P (aC P N cf),bL P N cf,Sz (aC P N (AeC N false (aC P N cf))),bL P N (AeC N false (aC P N cf)),Sz (aC P N (AeC N true (aC P N cf))),bL P N (AeC N true (aC P N cf)))
   =(some (.sl α E xs),bR P N cf,some false,bR P N (AeC N false (aC P N cf)),some true,bR P N (AeC N true (aC P N cf))):=by kernel_rfl) (hm:P.follows .mixedOrders=true:=by rfl):Go ρ P N D0 Q As η0 m0 cf:=by
 simp only[Akt]at e;obtain⟨e1,e2,e3,e4,e5,e6⟩:=e;refine AP hm (.of e2) (AfE e1 ?_ fun h=> ?_)
 ·exact Agg hm (n:=100000) (by simp only[Akt]; exact⟨e3,e4⟩) (fun h=>by cases h) fun _=>g0
 ·exact Agg hm (n:=100000) (by simp only[Akt]; exact⟨e5,e6⟩) (fun _=>g1 h) fun h=>by cases h
structure CutP where
 d:D
 j:Int
 sz:Nat
 tok:List Tok
def cutO (P:Program)(cf:Cf):Option CutP:=
 match Gt cf with
 |some a=>match a.g,a.o.op with
  |none,.slice t x none (some h) none=>match aev a.sl x,OK a.sl h,P.underlying t with
   | .ow n,some (_,j),some (.slice el)=>match find n cf.s.ob,JK P el with
    |some (i,.row k sz α E xs),some ti=>bif Nat.beq k n&&Nat.beq ti.sz sz then some ⟨.sl α E xs,j,sz,[(i,.row k sz α E xs)]⟩else none
    |_,_=>none
   |_,_,_=>none
  |_,_=>none
 |none=>none
def Aj4 (P:Program)(cf:Cf):Option (D×Int×Nat):=match cutO P cf with|some p=>some (p.d,p.j,p.sz)|none=>none
def Aj3 (P:Program)(cf:Cf)(sz:Nat)(α:Type)(E:α→List D)(xs:List α):Stp:=match cutO P cf with|some p=>⟨.ow cf.s.nx,[],p.tok,[(cf.s.nx,.row cf.s.nx sz α E xs)],cf.s.nx+1,[]⟩|none=>Afc cf.s sz α E xs
theorem Sm {α:Type}{E:α→List D}{sz:Nat}: ∀{xs:List α} (h: ∀x∈xs,(E x).length=sz) (q:Nat),(xs.take q).flatMap E=(xs.flatMap E).take (q*sz)
 | [],_,q=>by simp
 |y::ys,h,0=>by simp
 |y::ys,h,q+1=>by
  rw[List.take_succ_cons,Ak4,Ak4,Sm (fun x hx=>h x (AkT _ hx)) q,Nat.succ_mul,Nat.add_comm,List.take_append,h y AkN,Nat.add_sub_cancel_left,Ak5 (l:=E y) (by rw[h y AkN]; exact Nat.le_add_right _ _)]
theorem gcO {cf:Cf}{α:Type}{xs:List α}{j:Int}(E:α→List D)(k:Nat)(h0:0≤j)(hn:j≤(xs.length:Int))(g:Go ρ P N D0 Q As η0 m0 (push N (aC P N cf) (Aj3 P (aC P N cf) k α E (xs.take j.toNat))))
  (e:(Aj4 P (aC P N cf),bL P N cf)=(some (.sl α E xs,j,k),bR P N cf):=by kernel_rfl) (hE: ∀x,(E x).length=k:=by intro x; rfl) (hm:P.follows .mixedOrders=true:=by rfl):Go ρ P N D0 Q As η0 m0 cf:=by
 simp only[Akt]at e;obtain⟨e1,e2⟩:=e;refine AP hm (.of e2) ?_;generalize aC P N cf=c0 at*;cases hp:cutO P c0 with
 |none=>unfold Aj4 at e1; rw[hp]at e1; cases e1
 |some p=>
  have gS:Aj3 P c0 k α E (xs.take j.toNat)=⟨.ow c0.s.nx,[],p.tok,[(c0.s.nx,.row c0.s.nx k α E (xs.take j.toNat))],c0.s.nx+1,[]⟩:=by unfold Aj3; rw[hp]
  rw[gS]at g;unfold Aj4 at e1;rw[hp]at e1;simp only[Akv,Akt]at e1;obtain⟨ed,ej,ek⟩:=e1;unfold cutO at hp;split at hp
  ·rename_i a ha;split at hp
   ·rename_i t x h hg hop;split at hp
    ·rename_i n ik j' el hx hj hu;split at hp
     ·rename_i i kk sz α' E' xs' ti hf hti;cases hb:Nat.beq kk n&&Nat.beq ti.sz sz
      ·rw[hb]at hp; cases hp
      ·rw[hb]at hp;simp only[cond_true]at hp;cases hp;simp only[Aks]at hb;have:=Aku hb.1; subst this;have hsz:=Aku hb.2;simp only at ed ej ek;cases ed;subst ej ek;have hgd:=BG ha hg;refine DC ha hg ?_ ⟨fun q hq=>by simp at hq; subst hq; exact FG hf,by simp[tids],by simp[tids],fun q hq=>by simp[tids]at hq; subst hq; exact⟨AkC _,AkO _⟩⟩ g;obtain⟨ll,⟨dst,op',ty,pos,af,gd⟩,gg,sl,es⟩:=a;simp only at hop hgd hx hj⊢; subst hop hgd;refine⟨Ale _,fun rest Q η m f w As hr hfz hnn S hk=> ?_⟩;simp only[AkX]at S hk hnn;obtain⟨v,cs,h1,h2,h3,h4,S1⟩:=St.openRow S;have rx:=Am hr x; rw[hx]at rx;have ev_:=rx.ow_inv.1;rw[h1]at ev_; cases ev_;have ej:=B6 hj hr;refine AbX (i:=0) S1 rfl rfl hu (by rw[←hsz]; exact Cc hti) rfl ej h0 hn fun v' S2=> ?_;have hn0:=hnn c0.s.nx (AkC _) (AkO _);have le:=Env.le_put (v:=v') hn0;have hlen:(xs.take j'.toNat).length=j'.toNat:=by rw[Ak7]; omega
       have S3:St m (Gw.row sz v' (cs.take (j'.toNat*sz)) (xs.take j'.toNat).length::As) w:=by rw[hlen]; exact S2
       have ho:v'.oneCell'=true:=(St.rowVal (i:=0) S3 rfl).1|>fun⟨a,c,e⟩=>by rw[e]; rfl
       have hfl:(xs.take j'.toNat).flatMap E=(xs.flatMap E).take (j'.toNat*sz):=Sm h4 _;refine hk (η.put c0.s.nx v') m w v' le (Mem.rfl' m) (fun n hn=> ?_) (.ow Env.put_self ho) ?_
       ·rcases Env.put_dom hn with q|q
        ·exact .inl q
        ·subst q; exact .inr ⟨AkC _,AkO _⟩
       ·refine St.closeRow (η:=η.put c0.s.nx v') (E:=E) Env.put_self ho ?_ (fun x hx=>h4 x (List.mem_of_mem_take hx)) S3;rw[hfl]; exact h3.take _
     ·cases hp
    ·cases hp
   ·cases hp
  ·cases hp
theorem gnl {P:Program}{k:FuncId}{α:Type} [GoT α]{E:α→List D}{a1:Int}{r:List α}{sz:Nat}(hc: ∀(a:Array Value) w,(callFunc k a).run P w= .ok (.enter k a) w)(b:Br α E)
  (h: ∀{m:Mem} {As:List Ow} {w:World},St m As w→Ft P k #[.slice none 0 0,vI a1] w fun v w'=> ∃(M:Mem),m≤M∧∃(rv0:Value) (rc0:List Value),St M ((Gw.row sz rv0 rc0 r.length)::As) w'∧v=rv0∧DU M rc0 r) (hs:GoT.sz α=sz:=by rfl):
  Sp P k [.d (.v (.slice none 0 0)),.d (.i a1)] [] 0 (is (.ow 0) [.row 0 sz _ E r] 1):=
 ⟨hc,fun η m As w vs hv0 hd S=>by
  have S:St m As w:=S;obtain⟨v0,u0,rfl,r0,hv1⟩:=BP.cons_inv hv0;have e0:v0= .slice none 0 0:=by have:=r0.dd; cases this; rfl
  subst e0;obtain⟨v1,u1,rfl,r1,hv2⟩:=BP.cons_inv hv1;obtain rfl:=r1.i_inv;obtain rfl:=BP.nil_inv hv2;refine Ft.mono (h S) ?_;rintro v w' ⟨M,hle,y0,c0,S0,rfl,h0⟩;exact⟨M,(envL [v]),_,_,_,hle,dom0 hd _,⟨rfl,rfl,rfl⟩,Ags rfl,(.ow rfl (Nc S0)),(St.impL S0 (sepC (Br.toR b hs rfl (Nc S0) h0) fun _ h=>h))⟩⟩
def rot (n:Nat):Nat→Nat
 |0=>n-1
 |k+1=>k
theorem sepM {f g:AObj→Ow}{As:List Ow}: ∀{os:List AObj},(∀o∈os,∀x,f o x→g o x)→∀x,sepL (os.map f++As) x→sepL (os.map g++As) x
 | [],_=>fun _ h=>h
 |o::os,h=>sepC (h o AkN) (sepM fun p q=>h p (AkT _ q))
def TE (η:Env):Env:=fun n=>match n with|0=>some (.slice none 0 0)|n+1=>η n
def YZ (n1:Nat)(η:Env):Env:=fun n=>if n=n1-1 then η 0 else η (n+1)
theorem Sp.nilR {P:Program}{k:FuncId}{sz:Nat}{α:Type}{E:α→List D}{r:AV}{obs1:List AObj}{n1:Nat}(args:List AV)(obs:List AObj)(n0:Nat)
  (h:Sp P k (.ow 0::args.map (Rh Nat.succ)) (.row 0 sz α E []::obs.map (PO Nat.succ)) (n0+1) (is r obs1 n1)) (hk:(args.all (okA n0)&&obs.all (okO n0)&&okA n1 r&&obs1.all (okO n1))=true):
  Sp P k (.d (.v (.slice none 0 0))::args) obs n0 (is (Rh (rot n1) r) (obs1.map (PO (rot n1))) n1):=by
 simp only[Aks]at hk;obtain⟨⟨⟨k1,k2⟩,k3⟩,k4⟩:=hk;refine⟨h.1,fun η m As w vs hv hd S=> ?_⟩;obtain⟨v,us,rfl,h1,h2⟩:=hv.cons_inv;have hvv:v= .slice none 0 0:=by have:=h1.dd; cases this; rfl
 subst hvv;have hs: ∀k,k<n0→∀u,η k=some u→TE η (Nat.succ k)=some u:=fun k _ u q=>q;have S0:St m ((obs.map (PO Nat.succ)).map (rep (TE η) m)++As) w:=by
  rw[List.map_map];exact St.impL S (sepM fun o ho x hx=>UP hs (AkI.1 k2 o ho) hx)
 have S1:St m (rep (TE η) m (.row 0 sz α E [])::((obs.map (PO Nat.succ)).map (rep (TE η) m)++As)) w:=
  St.closeRow (η:=TE η) (n:=0) (E:=E) (xs:=[]) rfl rfl (by simpa using FRL.nil) (fun _ h=>by cases h) (St.rowNil S0 sz)
 have:=h.2 (TE η) m As w (.slice none 0 0::us) (.cons (.ow rfl rfl) (Ab9 hs k1 h2)) (fun n hn=>by
  cases n with
  |zero=>omega
  |succ n=>have:=hd n hn; omega) S1
 refine Ft.mono this ?_;rintro v' w' ⟨M,η3,r',obs',n',hle,hη,⟨rfl,rfl,rfl⟩,hdom,hR,S2⟩;have h0:0<n':=hdom 0 (by rw[hη 0 _ rfl]; simp);have ht: ∀k,k<n'→∀u,η3 k=some u→YZ n' η3 (rot n' k)=some u:=fun k hk u q=>by
  cases k with
  |zero=>unfold YZ rot; rw[AkA rfl]; exact q
  |succ k=>show(if k=n'-1 then _ else _)=_; rw[Aky (by omega)]; exact q
 refine⟨M,YZ n' η3,_,_,_,hle,fun n u q=> ?_,⟨rfl,rfl,rfl⟩,fun n hn=> ?_,UQ ht k3 hR,?_⟩
 ·have e:=hη (n+1) u q;have:=hdom (n+1) (by rw[e]; simp);show(if n=n'-1 then _ else _)=_;rw[Aky (by omega)]; exact e
 ·unfold YZ at hn;by_cases q:n=n'-1
  ·omega
  ·rw[Aky q]at hn;have:=hdom _ hn; omega
 ·rw[List.map_map];exact St.impL S2 (sepM fun o ho x hx=>UP ht (AkI.1 k4 o ho) hx)
end
end Go.Ax
end
section
namespace Go.Gw
open Go
theorem Yi {l:List Value}: ∀(n i:Nat),i<n*l.length→(List.replicate n l).flatten[i]? =l[i%l.length]?
 |0,i,h=>by omega
 |n+1,i,h=>by
  rw[List.replicate_succ,List.flatten_cons];by_cases c:i<l.length
  ·rw[List.getElem?_append_left c,Ak0 c]
  ·have c:l.length≤i:=by omega
   rw[Nat.succ_mul]at h;rw[List.getElem?_append_right c,Yi n _ (by omega),←Nat.mod_eq_sub_mod c]
theorem zeroN {zs:List Value}(h0:0<zs.length)(k:Nat):(Builtin.zeroCells zs.toArray k).toList=(List.replicate k zs).flatten:=by
 apply List.ext_getElem?;intro i;by_cases c:i<k*zs.length
 ·have hm:i%zs.length<zs.length:=Alk _ h0;rw[Yi k i c,AkV hm,Array.getElem?_toList];simp[Builtin.zeroCells,c,hm]
 ·rw[List.getElem?_eq_none (l:=(Builtin.zeroCells zs.toArray k).toList) (by simp[Builtin.zeroCells]; omega),List.getElem?_eq_none (by simp; omega)]
theorem Ab6 {zs:List Value}{k:Nat}(h:k=0):(List.replicate k zs).flatten=[]:=by subst h; rfl
section
variable {ρ:Option Nat}{P:Program}{N:Nat}{D:Dw}{ops:Array Oper}{rest:List Oper}{Q:DJ}{f:Fr}{w:World}{v:Value}
variable {t ty ty2:TypeId}{pos pos2:String}{af af2:Array Edge}{x:Operand}{m:Mem}{As:List Ow}
theorem Ag6 {α:Type}{l:List α}{i:Nat}{a b:α}(h:l[i]? =some a)(e:b=a):l.set i b=l:=by
 subst e;apply List.ext_getElem?;intro j;rw[List.getElem?_set];by_cases q:i=j
 ·subst q;rw[AkA rfl];have:=(AkR.1 h).1;rw[AkA this,h]
 ·rw[Aky q]
theorem s_clrO {i n d1 sz:Nat}{cs zs:List Value}{lo:Operand}{e:TypeId}{k:IntKind}{j:Int}{z:Value}(hS:St m As w)(hx:ev f x=v)(hA:As[i]? =some (row sz v cs n))(hu:P.underlying t=some (.slice e))(hs: ∀w,(sizeOf e).run P w= .ok sz w)(hz: ∀w,(zeroValue e).run P w= .ok z w)(hzc:z.cells=zs.toArray)(hzl:zs.length=sz)(hs0:0<sz)(hz1: ∀c∈zs,c.oneCell'=true)
  (hj:ev f lo= .int k j) (h0:0≤j) (hn:j≤n) (hd:Nat.blt d1 N=true)
  (h: ∀u w',St m (As.set i (row sz v (cs.take (j.toNat*sz)++(List.replicate (n-j.toNat) zs).flatten) n)) w'→wpl ρ P N D ops rest Q (upo N f (some d1) u) w'):
  wpl ρ P N D ops (⟨some d1,.slice t x (some lo) none none,ty,pos,af,none⟩::⟨none,.call ⟨.builtin .clear, #[.tmp d1], #[t]⟩,ty2,pos2,af2,none⟩::rest) Q f w:=by
 have hev: ∀u,ev (upo N f (some d1) u) (.tmp d1)=u:=fun u=>by
  show(upo N f (some d1) u) d1=u;simp only[upo,up,hd,Ala];simp
 obtain⟨j,rfl⟩:=Int.eq_ofNat_of_zero_le h0;simp only[Alg]at h;have hA0:=hA;obtain⟨q,ha,hg,_,back⟩:=hS.take hA;rcases ha with ⟨rfl,rfl,rfl,rfl⟩|⟨b,cap,l,e',fr,rfl,rfl,hcl,htk,hls,hnc,hcm,hfr⟩
 ·have hrun:=Lt (P:=P) (w:=w) (t:=t) (ao:=none) (len:=0) (cap:=0) (lo:=some (.int k (j:Int))) (hi:=none) (mx:=none) hu hs (.inr ⟨k,rfl⟩) (.inl ⟨rfl,rfl⟩) (.inl ⟨rfl,rfl⟩) (by omega) (AkC 0) (AkC 0);refine P4 hx hu (by simp only[Option.map_none,AkL,hj]; exact hrun) ?_;refine Aq (v:= .tuple #[]) (w':=w) rfl (fun _ e=>by cases e) ?_ (h _ w (by rw[Ag6 hA0 (by rw[Ab6 (by omega)]; simp)]; exact hS));simp[execOp,resolve,invoke,builtin,Builtin.clear_,hev,AkD hu]
 ·have hrun:=Lt (P:=P) (w:=w) (t:=t) (ao:=some ⟨b,0,none⟩) (len:=n) (cap:=cap) (lo:=some (.int k (j:Int))) (hi:=none) (mx:=none) hu hs (.inr ⟨k,rfl⟩) (.inl ⟨rfl,rfl⟩) (.inl ⟨rfl,rfl⟩) (by omega) hnc (AkC cap);refine P4 hx hu (by simp only[Option.map_none,AkL,hj]; exact hrun) ?_;have hb:=PH.agree_one.1 hg;have hlt:=(AkM.1 hb).1;have hjn:j≤n:=by omega
  have hA':j*sz≤n*sz:=Nat.mul_le_mul_right _ hjn;have hB':n*sz≤cap*sz:=Nat.mul_le_mul_right _ hnc;have hD':(n-j)*sz=n*sz-j*sz:=Nat.sub_mul ..;by_cases hz0:n-j=0
  ·have hjn':j=n:=by omega
   refine Aq (v:= .tuple #[]) (w':=w) rfl (fun _ e=>by cases e) ?_ (h _ w (by rw[Ag6 hA0 (by rw[Ab6 hz0,AkX,Ak5 (by rw[hjn']; omega)])]; exact hS));rw[hz0];split<;>simp[execOp,resolve,invoke,builtin,Builtin.clear_,hev,AkD hu]
  ·have hne: ¬cap=j:=by omega
   have hzl2:((List.replicate (n-j) zs).flatten).length=n*sz-j*sz:=by rw[←hD']; simp[hzl]
   have hst:=Hs (P:=P) (off:=j*sz) (e:=e') (fr:=fr) (List.replicate (n-j) zs).flatten (fun c hc=>by
    obtain⟨l1,h1,h2⟩:=List.mem_flatten.1 hc;rw[List.eq_of_mem_replicate h1]at h2;exact hz1 c h2) l.toList 0 (by rw[hzl2,Array.length_toList,hls]; omega) (by simpa using hfr.1) (by simpa using hb)
   rw[hzl2]at hst;simp only[Nat.add_zero]at hst;have hsize:(l.toList.take (j*sz)++(List.replicate (n-j) zs).flatten++l.toList.drop (j*sz+(n*sz-j*sz))).toArray.size=l.size:=by
    rw[List.size_toArray,Akz,Akz,hzl2,Ak7,Aln,Array.length_toList,hls]; omega
   have hadd:(Option.map (fun x:Addr=>x.add (j*sz)) (some ⟨b,0,none⟩))=some ⟨b,j*sz,none⟩:=by
    rw[AkL,Eg]; simp
   rw[Aky hne,hadd];refine Aq (v:= .tuple #[]) (w':={w with heap:=w.heap.setIfInBounds b (.cells (l.toList.take (j*sz)++(List.replicate (n-j) zs).flatten++l.toList.drop (j*sz+(n*sz-j*sz))).toArray e' fr)}) rfl (fun _ e=>by cases e) ?_ (h _ _ ?_) (Kd.set hb CI rfl)
   ·obtain⟨r,hr⟩: ∃r,n-j=r+1:=⟨n-j-1,by omega⟩;have hzn:=zeroN (zs:=zs) (by omega) (n-j);rw[hr]at hst hzn⊢;simp[execOp,resolve,invoke,builtin,Builtin.clear_,hev,AkD hu,hz,hzc,hzn,hst]
   ·refine back _ (PH.one b (.cells (l.toList.take (j*sz)++(List.replicate (n-j) zs).flatten++l.toList.drop (j*sz+(n*sz-j*sz))).toArray e' fr)) _ (.inr ⟨b,_,_,e',fr,rfl,rfl,?_,?_,hsize.trans hls,hnc,hcm,by rw[hsize]; exact hfr⟩) ?_ ?_ ?_ rfl rfl rfl (fun _=> .one CI)
    ·rw[Akz,Ak7,hzl2,hcl]; omega
    ·rw[←htk];have e1:(l.toList.take (n*sz)).take (j*sz)=l.toList.take (j*sz):=by rw[List.take_take,Nat.min_eq_left hA']
     rw[e1];show List.take (n*sz) (l.toList.take (j*sz)++(List.replicate (n-j) zs).flatten++l.toList.drop (j*sz+(n*sz-j*sz)))=_;rw[List.take_append_of_le_length (by rw[Akz,Ak7,hzl2,Array.length_toList,hls]; omega),Ak5 (by rw[Akz,Ak7,hzl2]; omega)]
    ·intro k hk; left; simp only[PH.one]at hk⊢;by_cases e:k=b
     ·rw[AkA e]; simp
     ·rw[Aky e]at hk; exact absurd rfl hk
    ·rw[PH.agree_one]; simp[hlt]
    ·intro k _ hk; simp only[PH.one]at hk;split at hk
     ·cases hk
     ·rename_i hne; rw[Array.getElem?_setIfInBounds_ne (by omega)]
end
end Go.Gw
namespace Go.Ax
open Go Go.Gw
def clrT {α:Type}(z:α)(xs:List α)(j:Int):Option (List α):=if 0≤j∧j≤(xs.length:Int)then some (xs.take j.toNat++List.replicate (xs.length-j.toNat) z)else none
structure ClrP where
 d:D
 j:Int
 z:List Value
 n:Nat
 tok:Tok
 k:Nat
 o:Oper
def clrK (P:Program)(N:Nat)(cf:Cf):Option ClrP:=
 match cf.md with
 | .ops false _ [⟨some d1,.slice t x (some lo) none none,ty,pos,af,none⟩,⟨none,.call ⟨.builtin .clear,⟨[.tmp d2]⟩,⟨[t2]⟩⟩,_,_,_,none⟩] _=>
  match aev cf.s.sl x,OK cf.s.sl lo,P.underlying t with
  | .ow n,some (_,j),some (.slice el)=>match find n cf.s.ob,JK P el with
   |some (i,.row k sz α E xs),some ti=>match ti.z with
    |some z=>bif (Nat.beq k n&&(Nat.beq ti.sz sz&&(Nat.blt 0 sz&&Nat.beq z.cells.toList.length sz)))&&(Nat.beq d1 d2&&(Nat.beq t t2&&Nat.blt d1 N))then
     some ⟨.sl α E xs,j,z.cells.toList,sz,(i,.row k sz α E xs),k,⟨some d1,.slice t x (some lo) none none,ty,pos,af,none⟩⟩else none
    |none=>none
   |_,_=>none
  |_,_,_=>none
 |_=>none
def Akc (P:Program)(N:Nat)(cf:Cf):Option (D×Int×List Value×Nat):=match clrK P N cf with|some p=>some (p.d,p.j,p.z,p.n)|none=>none
def clrG (P:Program)(N:Nat)(cf:Cf)(α:Type)(E:α→List D)(ys:List α):Cf:=match clrK P N cf with|some p=>⟨after N cf.s p.o ⟨.any,[],[p.tok],[(cf.s.nx,.row p.k p.n α E ys)],cf.s.nx+1,[]⟩,.pop,cf.K⟩|none=>cf
theorem YW {m:Mem}: ∀{zds:List D},zds.all sc=true→FRL m zds (zds.map scV)
 | [],_=> .nil
 |z::l,h=>by
  simp only[Alf,Aks]at h;exact .cons (AbS h.1) (YW h.2)
theorem Adu {m:Mem}{α:Type}{E:α→List D}{z0:α}{zds:List D}(hz:E z0=zds)(hs:zds.all sc=true): ∀k,FRL m ((List.replicate k z0).flatMap E) (List.replicate k (zds.map scV)).flatten
 |0=> .nil
 |k+1=>by
  rw[List.replicate_succ,List.replicate_succ,Ak4,List.flatten_cons,hz];exact(YW hs).append (Adu hz hs k)
section
variable {ρ:Option Nat}{P:Program}{N:Nat}{D0:Dw}{Q:DJ}{As:List Ow}{η0:Env}{m0:Mem}
theorem gclr {cf:Cf}{α:Type}{xs ys:List α}{j:Int}(E:α→List D)(z0:α)(zds:List D)(q:clrT z0 xs j=some ys)(g:Go ρ P N D0 Q As η0 m0 (clrG P N (aC P N cf) α E ys))
  (e:(Akc P N (aC P N cf),zds.all sc,bL P N cf)=(some (.sl α E xs,j,zds.map scV,zds.length),true,bR P N cf):=by kernel_rfl) (hE: ∀x,(E x).length=zds.length:=by intro x; rfl) (hz:E z0=zds:=by rfl) (hm:P.follows .mixedOrders=true:=by rfl):Go ρ P N D0 Q As η0 m0 cf:=by
 simp only[Akt]at e;obtain⟨e1,hsc,e2⟩:=e;unfold clrT at q;obtain⟨⟨h0,hn⟩,q⟩:(0≤j∧j≤(xs.length:Int))∧xs.take j.toNat++List.replicate (xs.length-j.toNat) z0=ys:=by
  by_cases h:0≤j∧j≤(xs.length:Int)
  ·rw[AkA h]at q; exact⟨h,Akr q⟩
  ·rw[Aky h]at q; cases q
 refine AP hm (.of e2) ?_;generalize aC P N cf=c0 at*;cases hp:clrK P N c0 with
 |none=>unfold Akc at e1; rw[hp]at e1; cases e1
 |some p=>
  have gS:clrG P N c0 α E ys=⟨after N c0.s p.o ⟨.any,[],[p.tok],[(c0.s.nx,.row p.k p.n α E ys)],c0.s.nx+1,[]⟩,.pop,c0.K⟩:=by unfold clrG; rw[hp]
  rw[gS]at g;unfold Akc at e1;rw[hp]at e1;simp only[Akv,Akt]at e1;obtain⟨ed,ej,ez,en⟩:=e1;obtain⟨s,md,K⟩:=c0;unfold clrK at hp;split at hp
  ·rename_i l d1 t x lo ty pos af d2 t2 ty2 pos2 af2 hh hmd;simp only at hmd; subst hmd;split at hp
   ·rename_i n ik j' el hx hj hu;split at hp
    ·rename_i i k sz α' E' xs' ti hf hti;split at hp
     ·rename_i z hzv;cases hb:(Nat.beq k n&&(Nat.beq ti.sz sz&&(Nat.blt 0 sz&&Nat.beq z.cells.toList.length sz)))&&(Nat.beq d1 d2&&(Nat.beq t t2&&Nat.blt d1 N))
      ·rw[hb]at hp; cases hp
      ·rw[hb]at hp;simp only[cond_true]at hp;cases hp;simp only[Aks]at hb;obtain⟨⟨b1,b2,b3,b7⟩,b4,b5,b6⟩:=hb;have b1:=Aku b1;have b2:=Aku b2;have b4:=Aku b4;have b5:=Aku b5;subst b1 b4 b5;simp only at ed ej ez en;cases ed;subst ej en;refine .inr (.inl ⟨rfl,fun η m f w a b gm=> ?_⟩);have hmem:=FG hf;have S0:=St.rp gm.st (HW (ts:=[(i,AObj.row k zds.length α E xs)]) gm.wf.nd (by simp[tids]) (fun p hp=>by rw[AlB.1 hp]; exact hmem));obtain⟨v,cs,h1,h2,h3,h4,S1⟩:=St.openRow (As:=reps η m (DY (tids [(i,AObj.row k zds.length α E xs)]) s.ob)++As) S0;have rx:=Am gm.slr x;rw[hx]at rx;have ev_:=rx.ow_inv.1;rw[h1]at ev_; cases ev_;have hcell:=YW (m:=m) hsc;have hzc:z.cells=(zds.map scV).toArray:=by rw[←ez]
       refine s_clrO (i:=0) S1 rfl rfl hu (by have:=Cc hti; rw[b2]at this; exact this) (O6 hti hzv) hzc (by simp) (Cy b3) hcell.one (B6 hj gm.slr) h0 hn b6 fun u w' S2=> ?_;refine Co ?_;have hyl:ys.length=xs.length:=by rw[←q,Akz,Ak7,List.length_replicate]; omega
       refine g η m _ w' a b ⟨(show∀t,Rel η m (get (setS N s.sl (some d1) .any) t) (upo N f (some d1) u t)from Ro (fun t=>gm.slr t) (.any u)),gm.fz,fun n hn=>Nat.lt_succ_of_lt (gm.dom n hn),?_,Ms gm.wf ⟨fun p hp=>by simp at hp; subst hp; exact hmem,by simp[tids],by simp[tids],fun t ht=>by simp[tids]at ht; subst ht; exact⟨AkC _,AkO _⟩⟩ (Ale _)⟩;show St m (reps η m (DY [i] s.ob++[(s.nx,AObj.row k zds.length α E ys)])++As) w';rw[AU,Akw];have S3:St m (Gw.row zds.length (ev f x) (cs.take (j'.toNat*zds.length)++(List.replicate (xs.length-j'.toNat) (zds.map scV)).flatten) ys.length::(reps η m (DY [i] s.ob)++As)) w':=by rw[hyl]; exact S2
       have S4:=St.closeRow (η:=η) (n:=k) (E:=E) h1 h2 (by
        rw[←q,List.flatMap_append,Sm (fun x _=>hE x)];exact(h3.take _).append (Adu hz hsc _)) (fun y _=>hE y) S3
       exact S4.perm List.perm_middle.symm
     ·cases hp
    ·cases hp
   ·cases hp
  ·cases hp
end
end Go.Ax
end
