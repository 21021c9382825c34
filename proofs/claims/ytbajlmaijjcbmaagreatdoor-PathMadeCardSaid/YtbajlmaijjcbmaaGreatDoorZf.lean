/- Several texts, one behind the other. Conditions: none. -/
import Derived.Test.YtbajlmaijjcbmaaGreatDoorProg
import Derived.Test.YtbajlmaijjcbmaaGreatDoorZe
import Derived.KernelRfl
import Derived.Test.YtbajlmaijjcbmaaGreatDoorZd
set_option linter.unusedSimpArgs false
set_option linter.unusedVariables false
set_option maxHeartbeats 20000000
set_option maxRecDepth 100000
section
namespace Go.Ax
open Go Go.Gw
abbrev ag (l:List D):AV:= .agg (l.map dv)
abbrev sl {α:Type}(E:α→List D)(xs:List α):AV:= .d (.sl α E xs)
abbrev eI (n:Int):List D:=[.i n]
abbrev eU (n:UInt64):List D:=[.u n]
abbrev eW (n:UInt32):List D:=[.w n]
abbrev eB (n:UInt8):List D:=[.b n]
abbrev eR (n:Int):List D:=[.r n]
abbrev eT (n:Bool):List D:=[.t n]
abbrev eS (n:ByteArray):List D:=[.s n]
abbrev eL {α:Type}(E:α→List D)(xs:List α):List D:=[.sl α E xs]
abbrev w8 (n:Int):Int:=IntKind.i8.wrap n
abbrev eF:Int→List D:=fun x=> [.v (fnV x)]
section
variable {P:Program}{ρ:Option Nat}{N:Nat}{D0:Dw}{Q:C5}{As:List Ow}{η0:Env}{m0:Mem}{cf:Cf}
theorem sp {k:FuncId}{fn:Func}{c:Code}{args:List AV}{obs:List AObj}{n0:Nat}{Po:AV→List AObj→Nat→Prop}(hc: ∀(a:Array Value) w,(callFunc k a).run P w= .ok (.enter k a) w)(hf:P.funcs[k]? =some fn)(hb:fn.body=some c)(hN:fn.ntmps=N)(hle:Nat.ble args.length N=true)(h: ∀D0 As η0 m0,(∀n,η0 n≠none→n<n0)→Go none P N D0 (UU P N fn (N1 As η0 m0 Po)) As η0 m0 ⟨OS args obs n0,.code c,[]⟩):
 Sp P k args obs n0 Po:=sp_of hc hf hb hN hle h
theorem gi {β:Type}{b:Bool}{x y:Option β}{r:β}(hm:(if b=true then x else y)=some r)(h1:b=true→x=some r→Go ρ P N D0 Q As η0 m0 (way true (aC P N cf)))(h0:b=false→y=some r→Go ρ P N D0 Q As η0 m0 (way false (aC P N cf)))
 (e:(V1 (aC P N cf),bL P N cf)=(some b,bR P N cf):=by kernel_rfl) (hM:P.follows .mixedOrders=true:=by rfl):
 Go ρ P N D0 Q As η0 m0 cf:=go_if hM e (fun h=>h1 h (by rw[h]at hm; exact hm)) fun h=>h0 h (by rw[h]at hm; exact hm)
theorem gspl (g:Nat){β:Type}{b:Bool}{x y:Option β}{r:β}(hm:(if b=true then x else y)=some r)(h1:b=true→x=some r→Go ρ P N D0 Q As η0 m0 (setK g true (LM g P N 100000 cf).1))(h0:b=false→y=some r→Go ρ P N D0 Q As η0 m0 (setK g false (LM g P N 100000 cf).1))
 (e:(get (LM g P N 100000 cf).1.s.sl g,((LM g P N 100000 cf).2).map (·.1))=(.d (.t b),((LM g P N 100000 cf).2).map (·.2)):=by kernel_rfl) (hM:P.follows .mixedOrders=true:=by rfl):
 Go ρ P N D0 Q As η0 m0 cf:=go_spl hM e (fun h=>h1 h (by rw[h]at hm; exact hm)) fun h=>h0 h (by rw[h]at hm; exact hm)
theorem gi' {b:Bool}(h1:b=true→Go ρ P N D0 Q As η0 m0 (way true (aC P N cf)))(h0:b=false→Go ρ P N D0 Q As η0 m0 (way false (aC P N cf)))
 (e:(V1 (aC P N cf),bL P N cf)=(some b,bR P N cf):=by kernel_rfl) (hM:P.follows .mixedOrders=true:=by rfl):
 Go ρ P N D0 Q As η0 m0 cf:=go_if hM e h1 h0
theorem gnx {s:ByteArray}{pos:Nat}{β:Type}{x y:Option β}{r:β}(hm:(if pos<s.size then x else y)=some r)(h1:pos<s.size→x=some r→Go ρ P N D0 Q As η0 m0 (push N (aC P N cf) (nxS (aC P N cf))))(h0: ¬pos<s.size→y=some r→Go ρ P N D0 Q As η0 m0 (push N (aC P N cf) (nxE (aC P N cf))))
 (e:((nxK (aC P N cf)).map (fun r=>(r.1,r.2.1)),aL P N cf)=(some (s,pos),aR P N cf):=by kernel_rfl) (hM:P.follows .mixedOrders=true:=by rfl):
 Go ρ P N D0 Q As η0 m0 cf:=go_nx hM e (fun h=>h1 h (by rw[if_pos h]at hm; exact hm)) fun h=>h0 h (by rw[if_neg h]at hm; exact hm)
theorem B4 {α β:Type}{a:α}{b:β}(h:(Sum.inl a:α⊕β)= .inr b):False:=by cases h
theorem GN {α β:Type}{a:α}{b:β}(h:(Sum.inr b:α⊕β)= .inl a):False:=by cases h
theorem Ba {α β:Type}{a:α}{k:α→β}{r:β}(h:bnd a k=r):k a=r:=h
theorem AO {fn:Func}{n0 n1:Nat}{er:AV}{eobs:List AObj}(hd: ∀n,η0 n≠none→n<n0)
 (e:(endL P fn (aC P N cf) er eobs n0 n1,(endP P fn (aC P N cf) er eobs).isSome,bL P N cf)=(endR P fn (aC P N cf) er eobs,true,bR P N cf):=by kernel_rfl) (hM:P.follows .mixedOrders=true:=by rfl):
 Go ρ P N D0 (UU P N fn (N1 As η0 m0 (is er eobs n1))) As η0 m0 cf:=go_fin hM hd e ⟨rfl,rfl,rfl⟩
theorem sb {k:FuncId}{fn:Func}{c:Code}{args:List AV}{obs:List AObj}{n0:Nat}{ov:Value}{Po:AV→List AObj→Nat→Prop}{Xp:Prop}(hc: ∀(a:Array Value) w,(callFunc k a).run P w= .ok (.enter k a) w)(hf:P.funcs[k]? =some fn)(hb:fn.body=some c)(hN:fn.ntmps=N)(hle:Nat.ble args.length N=true)(h: ∀D0 As η0 m0,(∀n,η0 n≠none→n<n0)→Go none P N D0 (outB P N fn (N1 As η0 m0 Po) ov (PostX As m0 Xp)) As η0 m0 ⟨OS args obs n0,.code c,[]⟩):
 Sb P k args obs n0 ov Po Xp:=sb_of hc hf hb hN hle h
theorem gjU (id:Nat){ι:Type}(J:ι→AS)(ok:ι→Prop)(h1: ∀Jp,Bk As η0 m0 J ok Jp→Go ρ P N D0 Q As η0 m0 (ctnC (GD id P N 100000 cf).1 Jp))(h2: ∀x,ok x→Go ρ P N D0 Q As η0 m0 ⟨J x,.pop,(GD id P N 100000 cf).1.K⟩)
 (e:(JN (GD id P N 100000 cf).1,((GD id P N 100000 cf).2).map (·.1))=(true,((GD id P N 100000 cf).2).map (·.2)):=by kernel_rfl) (hM:P.follows .mixedOrders=true:=by rfl):
 Go ρ P N D0 Q As η0 m0 cf:=VN hM J ok e (h1 _ ⟨fun _ _ h=>h⟩) h2
theorem gj {ι:Type}(J:ι→AS)(ok:ι→Prop)(h1: ∀Jp,Bk As η0 m0 J ok Jp→Go ρ P N D0 Q As η0 m0 (ctnC (aC P N cf) Jp))(h2: ∀x,ok x→Go ρ P N D0 Q As η0 m0 ⟨J x,.pop,(aC P N cf).K⟩)
 (e:(JN (aC P N cf),bL P N cf)=(true,bR P N cf):=by kernel_rfl) (hM:P.follows .mixedOrders=true:=by rfl):
 Go ρ P N D0 Q As η0 m0 cf:=T7 hM J ok e (h1 _ ⟨fun _ _ h=>h⟩) h2
theorem gl {n0:Nat}{ι:Type}(hd: ∀n,η0 n≠none→n<n0)(J:ι→AS)(pre:ι→Prop)(μ:ι→Nat)(x0:ι)(hx:pre x0)(h: ∀x,pre x→∀Jp,Bk As η0 m0 J (fun y=>pre y∧μ y<μ x) Jp→Go ρ P N D0 Q As η0 m0 (rndC (aC P N cf) (J x) Jp))
 (e:((WE (aC P N cf)).isSome,vwL (aC P N cf).s (J x0) n0,(vwP (aC P N cf).s (J x0)).isSome,bL P N cf)=(true,vwR (aC P N cf).s (J x0),true,bR P N cf):=by kernel_rfl) (hM:P.follows .mixedOrders=true:=by rfl):
 Go ρ P N D0 Q As η0 m0 cf:=Yq hM J pre μ x0 hx hd e fun x hx=>h x hx _ ⟨fun _ _ h=>h⟩
theorem Gl {n i:Nat}(hlt:i<n)(hn:n≤9223372036854775807):n-(w64 ((i:Int)+1)).toNat<n-((i:Int)).toNat:=by
 rw[Bc hlt hn]; omega
theorem Mq (id:Nat){α:Type}{E:α→List D}{xs:List α}(t:Nat)(h:xs.length≤9223372036854775807→Go ρ P N D0 Q As η0 m0 (GD id P N 100000 cf).1)
 (e:(JN (GD id P N 100000 cf).1,lenK (GD id P N 100000 cf).1.s t,((GD id P N 100000 cf).2).map (·.1))=(true,some (.sl α E xs),((GD id P N 100000 cf).2).map (·.2)):=by kernel_rfl) (hM:P.follows .mixedOrders=true:=by rfl):
 Go ρ P N D0 Q As η0 m0 cf:=go_len hM t e h
theorem spR {k:FuncId}{fn:Func}{c:Code}{args:List AV}{obs:List AObj}{n0:Nat}{Po:AV→List AObj→Nat→Prop}(hc: ∀(a:Array Value) w,(callFunc k a).run P w= .ok (.enter k a) w)(hf:P.funcs[k]? =some fn)(hb:fn.body=some c)(hN:fn.ntmps=N)(hle:Nat.ble args.length N=true)(h: ∀D0 As η0 m0,D0.2.2=false→(∀n,η0 n≠none→n<n0)→Go none P N D0 (UU P N fn (N1 As η0 m0 Po)) As η0 m0 ⟨OS args obs n0,.code c,[]⟩):
 Sp P k args obs n0 Po:=sp_ofR hc hf hb hN hle h
theorem WO (hD:D0.2.2=false){n0:Nat}(n1 nx:Nat){ι κ α:Type}{gt:Nat}{ps:List Nat}{gf:FuncId}{cs:List AV}{r0:AV}(sl0:Sl)(oJ:ι→List Tok)(oK:κ→List Tok)(A:α→List AV)(sB:ι→α→AS)(p:ι→α→Option (ι⊕κ))(x0:ι){s1:ι⊕κ}(hd: ∀n,η0 n≠none→n<n0)(hs: ∀(g:Value) (R:(ι⊕κ)→Mem→Ow),CbOk P g A R (Rt p)→Sp P gf (.ow 0::cs) [.hp 0 (.cb g (ι⊕κ) R (.inl x0))] 1 (is r0 [.hp 0 (.cb g (ι⊕κ) R s1)] 1))(hsl:get sl0 gt= .fn (.func gf) [] cs)(hAl: ∀a,ps.length=(A a).length)(hJ: ∀x,(N2 (tids (oJ x))&&NB nx (tids (oJ x)))=true)(hK: ∀y,(N2 (tids (oK y))&&NB nx (tids (oK y)))=true)(hA: ∀x a s',p x a=some s'→∀l D0 As η0 m0,(∀n,η0 n≠none→n<n1)→∀Jp,Bk As η0 m0 (fun _:Unit=>sB x a) (fun _=>True) Jp→Go (some l) P N D0 (XE fun _ _=>False) As η0 m0 (asgC (aC P N cf) ⟨slz N sl0 ps (A a),oJ x,[],nx⟩ Jp))(hB: ∀x a s',p x a=some s'→∀l D0 As η0 m0,(∀n,η0 n≠none→n<n1)→∀Jp,Bk As η0 m0 (fun y=>⟨sl0,oJ y,[],nx⟩) (fun y=>s'= .inl y) Jp→∀Jr,Bk As η0 m0 (fun y=>⟨sl0,oK y,[],nx⟩) (fun y=>s'= .inr y) Jr→
  Go (some l) P N D0 (XE Jr) As η0 m0 (bodC (aC P N cf) (sB x a) Jp)) (h1: ∀x,s1= .inl x→Go none P N D0 Q As η0 m0 ⟨⟨sl0,oJ x,[],nx⟩,.pop,(aC P N cf).K⟩) (h2: ∀y,s1= .inr y→Go none P N D0 Q As η0 m0 ⟨⟨sl0,oK y,[],nx⟩,.ret,(aC P N cf).K⟩)
 (e:(rgK (aC P N cf),vwL (aC P N cf).s ⟨sl0,oJ x0,[],nx⟩ n0,(vwP (aC P N cf).s ⟨sl0,oJ x0,[],nx⟩).isSome,bL P N cf)=(some (gt,ps),vwR (aC P N cf).s ⟨sl0,oJ x0,[],nx⟩,true,bR P N cf):=by kernel_rfl) (hok:(cs.all (okA 0)&&((sl0.map (·.2)).all (okA n1)&&Nat.ble n0 n1))=true:=by kernel_rfl) (hM:P.follows .mixedOrders=true:=by rfl):
 Go none P N D0 Q As η0 m0 cf:=VM hM hD n1 nx sl0 oJ oK A sB p x0 hd hs e hsl hok hAl hJ hK (fun x a s' h l D0 As η0 m0 hd=>hA x a s' h l D0 As η0 m0 hd _ ⟨fun _ _ h=>h⟩)
 (fun x a s' h l D0 As η0 m0 hd=>hB x a s' h l D0 As η0 m0 hd _ ⟨fun _ _ h=>h⟩ _ ⟨fun _ _ h=>h⟩) h1 h2
theorem gcutSG {c:Bool}{s z:ByteArray}{lo hi:Int}(hq:c=true→Ly s lo hi=some z)(g:Go ρ P N D0 Q As η0 m0 (B9 N (aC P N cf) (.d (.s z)) []))
 (e:(gOf (aC P N cf),YI P (aC P N cf),aL P N cf)=(c,some (s,lo,hi),aR P N cf):=by kernel_rfl) (hM:P.follows .mixedOrders=true:=by rfl):
 Go ρ P N D0 Q As η0 m0 cf:=VP (fun h=>hq ((congrArg Prod.fst e).symm.trans h)) g (congrArg Prod.snd e) hM
theorem gdynG {c:Bool}{x:Int}{ea:List AV}{r:AV}(hs:c=true→∃k:Nat,x=(k:Int)∧Sf P k ea r)(g:Go ρ P N D0 Q As η0 m0 (J0 N (aC P N cf) r))
 (e:(gOf (aC P N cf),(dynP (aC P N cf)).map (fun p=>(p.1,U0 (aC P N cf).s.fz ea p.2)),ea.all (okA 0),aL P N cf)=(c,some (fnV x,ea),true,aR P N cf):=by kernel_rfl) (hM:P.follows .mixedOrders=true:=by rfl):
 Go ρ P N D0 Q As η0 m0 cf:=gdyn (fun h=>hs ((congrArg Prod.fst e).symm.trans h)) g (congrArg Prod.snd e) hM
theorem gcG {c:Bool}{k:FuncId}{ea:List AV}{r:AV}(hs:c=true→Sf P k ea r)(g:Go ρ P N D0 Q As η0 m0 (J0 N (aC P N cf) r))
 (e:(gOf (aC P N cf),YN (aC P N cf) ea,ea.all (okA 0),aL P N cf)=(c,some (k,ea),true,aR P N cf):=by kernel_rfl) (hM:P.follows .mixedOrders=true:=by rfl):
 Go ρ P N D0 Q As η0 m0 cf:=gc (fun h=>hs ((congrArg Prod.fst e).symm.trans h)) g (congrArg Prod.snd e) hM
theorem T9 {c:Bool}{k:Nat}{α:Type}{E:α→List D}{xs:List α}{j:Int}{x:α}(hE: ∀x,(E x).length=k)(hq:c=true→idx xs j=some x)(g:Go ρ P N D0 Q As η0 m0 (B9 N (aC P N cf) (.d (.pf (E x))) (idxT P (aC P N cf))))
 (e:(gOf (aC P N cf),(idxK P (aC P N cf)).map (fun r=>(r.1,r.2.1,r.2.2.1)),aL P N cf)=(c,some (.sl α E xs,j,k),aR P N cf):=by kernel_rfl) (hM:P.follows .mixedOrders=true:=by rfl):
 Go ρ P N D0 Q As η0 m0 cf:=Hs hE (fun h=>hq ((congrArg Prod.fst e).symm.trans h)) g (congrArg Prod.snd e) hM
theorem gcutG {c:Bool}{k:Nat}{α:Type}{E:α→List D}{xs ys:List α}{lo hi:Int}(hE: ∀x,(E x).length=k)(hq:c=true→cut xs lo hi=some ys)(g:Go ρ P N D0 Q As η0 m0 (B9 N (aC P N cf) (.d (.sl α E ys)) (cutT P (aC P N cf))))
 (e:(gOf (aC P N cf),(cutK P (aC P N cf)).map (fun r=>(r.1,r.2.1,r.2.2.1,r.2.2.2.1,r.2.2.2.2.1)),aL P N cf)=(c,some (.sl α E xs,lo,hi,hi,k),aR P N cf):=by kernel_rfl) (hM:P.follows .mixedOrders=true:=by rfl):
 Go ρ P N D0 Q As η0 m0 cf:=gcut hE (fun h=>hq ((congrArg Prod.fst e).symm.trans h)) g (congrArg Prod.snd e) hM
theorem gnckG {c:Bool}{p:Bool}{ds ds':List D}(hq:c=true→p=true∧ds=ds')(g:Go ρ P N D0 Q As η0 m0 (B9 N (aC P N cf) (.d (.pf ds')) []))
 (e:(gOf (aC P N cf),nckK (aC P N cf),aL P N cf)=(c,some (p,ds),aR P N cf):=by kernel_rfl) (hM:P.follows .mixedOrders=true:=by rfl):
 Go ρ P N D0 Q As η0 m0 cf:=gnck (fun h=>hq ((congrArg Prod.fst e).symm.trans h)) g (congrArg Prod.snd e) hM
end
end Go.Ax
namespace Go.Proofs.YtbajlmaijjcbmaaGreatDoor
open Go Tryz
theorem Vv:prog.follows .mixedOrders=true:=rfl
end Go.Proofs.YtbajlmaijjcbmaaGreatDoor
end
section
namespace Go.Ax
open Go Go.Gw
structure Br (α:Type) [GoT α](E:α→List D):Prop where
 to: ∀{m:Mem} {cs:List Value} {x:α},GoT.rep m cs x→FRL m (E x) cs
 of: ∀{m:Mem} {cs:List Value} {x:α},FRL m (E x) cs→GoT.rep m cs x
 len: ∀x,(E x).length=GoT.sz α
theorem FRL.c1 {m:Mem}{d:D}{v:Value}(h:FR m d v):FRL m [d] [v]:= .cons h .nil
theorem FRL.c1_inv {m:Mem}{d:D}{cs:List Value}(h:FRL m [d] cs): ∃v,cs=[v]∧FR m d v:=by
 obtain⟨v,us,rfl,h1,h2⟩:=h.cons_inv;have:=h2.nil_inv; subst this;exact⟨v,rfl,h1⟩
theorem FR.i_inv {m:Mem}{n}{v:Value}(h:FR m (.i n) v):v=vI n:=by cases h; rfl
theorem FR.u_inv {m:Mem}{n}{v:Value}(h:FR m (.u n) v):v=vU n:=by cases h; rfl
theorem FR.b_inv {m:Mem}{n}{v:Value}(h:FR m (.b n) v):v=vB n:=by cases h; rfl
theorem FR.t_inv {m:Mem}{n}{v:Value}(h:FR m (.t n) v):v=vb n:=by cases h; rfl
theorem FR.s_inv {m:Mem}{n}{v:Value}(h:FR m (.s n) v):v=vS n:=by cases h; rfl
theorem Br.i:Br Int (fun n=> [.i n]):=⟨fun h=>by have h:_=_:=h; subst h; exact .c1 (.i _),fun h=>by obtain⟨v,rfl,g⟩:=FRL.c1_inv h; exact congrArg (fun z=> [z]) g.i_inv,fun _=>rfl⟩
theorem Br.u:Br UInt64 (fun n=> [.u n]):=⟨fun h=>by have h:_=_:=h; subst h; exact .c1 (.u _),fun h=>by obtain⟨v,rfl,g⟩:=FRL.c1_inv h; exact congrArg (fun z=> [z]) g.u_inv,fun _=>rfl⟩
theorem Br.b:Br UInt8 (fun n=> [.b n]):=⟨fun h=>by have h:_=_:=h; subst h; exact .c1 (.b _),fun h=>by obtain⟨v,rfl,g⟩:=FRL.c1_inv h; exact congrArg (fun z=> [z]) g.b_inv,fun _=>rfl⟩
theorem Br.t:Br Bool (fun n=> [.t n]):=⟨fun h=>by have h:_=_:=h; subst h; exact .c1 (.t _),fun h=>by obtain⟨v,rfl,g⟩:=FRL.c1_inv h; exact congrArg (fun z=> [z]) g.t_inv,fun _=>rfl⟩
theorem Br.s:Br ByteArray (fun n=> [.s n]):=⟨fun h=>by have h:_=_:=h; subst h; exact .c1 (.s _),fun h=>by obtain⟨v,rfl,g⟩:=FRL.c1_inv h; exact congrArg (fun z=> [z]) g.s_inv,fun _=>rfl⟩
theorem Br.pair {α β:Type} [GoT α] [GoT β]{E:α→List D}{F:β→List D}(a:Br α E)(b:Br β F):Br (α×β) (fun x=>E x.1++F x.2):=
 ⟨fun⟨c,d,e,h1,h2⟩=>by subst e; exact(a.to h1).append (b.to h2),fun {m cs x} h=>by
  have h1:=h.take (E x.1).length;have h2:=h.drop (E x.1).length;rw[List.take_left]at h1;rw[List.drop_left]at h2;exact⟨_,_,(List.take_append_drop _ _).symm,a.of h1,b.of h2⟩,fun x=>by
  rw[List.length_append,a.len,b.len]; rfl⟩
section
variable {α:Type} [GoT α]{E:α→List D}{m:Mem}{v:Value}
theorem Br.toL (b:Br α E): ∀{xs:List α} {cs:List Value},Bq m cs xs→FRL m (xs.flatMap E) cs
 | [],cs,h=>by have h:cs=[]:=h; subst h; exact .nil
 |x::xs,cs,⟨c,d,e,h1,h2⟩=>by subst e; rw[List.flatMap_cons]; exact(b.to h1).append (b.toL h2)
theorem Br.ofL (b:Br α E): ∀{xs:List α} {cs:List Value},FRL m (xs.flatMap E) cs→Bq m cs xs
 | [],cs,h=>show cs=[]from FRL.nil_inv (by simpa using h)
 |x::xs,cs,h=>by
  rw[List.flatMap_cons]at h;have h1:=h.take (E x).length;have h2:=h.drop (E x).length;rw[List.take_left]at h1;rw[List.drop_left]at h2;exact⟨_,_,(List.take_append_drop _ _).symm,b.of h1,b.ofL h2⟩
theorem Br.toS (b:Br α E){xs:List α}(h:SlR m v xs):FR m (.sl α E xs) v:=by
 obtain⟨cs,h1,h2⟩:=h;have:=b.toL h2;exact .sl h1 (fun x _=>b.len x) this.1 this.2
theorem Br.ofS (b:Br α E){xs:List α}(h:FR m (.sl α E xs) v):SlR m v xs:=by
 cases h with
 | @sl _ _ _ sz' _ cs h hE' hl hr=>
  refine⟨cs,?_,b.ofL ⟨hl,hr⟩⟩;cases xs with
  |nil=>
   have:cs=[]:=by simp at hl; exact List.length_eq_zero_iff.1 hl.symm
   subst this;exact⟨by simp,h.2.1,h.2.2⟩
  |cons x xs=>
   have:sz'=GoT.sz α:=by rw[←hE' x List.mem_cons_self,b.len x]
   subst this; exact h
theorem Br.sl (b:Br α E):Br (List α) (fun xs=> [.sl α E xs]):=
 ⟨fun⟨v,e,h⟩=>by subst e; exact .c1 (b.toS h),fun h=>by obtain⟨v,rfl,g⟩:=FRL.c1_inv h; exact⟨v,rfl,b.ofS g⟩,fun _=>rfl⟩
theorem Br.mk' {β:Type} [GoT β]{F:β→List D}(b:Br β F)(E:α→List D)(f:α→β)(hr: ∀(m:Mem) (cs:List Value) (x:α),GoT.rep m cs x=GoT.rep m cs (f x))(hE: ∀x,F (f x)=E x)(hs:GoT.sz α=GoT.sz β):Br α E:=
 ⟨fun h=>by rw[←hE]; rw[hr]at h; exact b.to h,fun h=>by rw[←hE]at h; rw[hr]; exact b.of h,fun x=>by rw[←hE,b.len,hs]⟩
theorem Br.toA (b:Br α E){η:Env}{x:α}{cs:List Value}(h:GoT.rep m cs x):Rel η m (.agg ((E x).map dv)) (.agg cs.toArray):=by
 have:=Bj.ofDv (η:=η) (b.to h);exact .agg this.1 this.2
theorem Br.toR (b:Br α E){η:Env}{n sz:Nat}{cs:List Value}{xs:List α}(hs:GoT.sz α=sz)(hn:η n=some v)(h1:v.oneCell'=true)(h:Bq m cs xs): ∀x,Gw.row sz v cs xs.length x→rep η m (.row n sz α E xs) x:=
 fun x hx=>⟨v,cs,hn,h1,b.toL h,fun x _=>(b.len x).trans hs,hx⟩
end
theorem sepC {A B:Ow}{As Bs:List Ow}(h: ∀x,A x→B x)(k: ∀x,sepL As x→sepL Bs x): ∀x,sepL (A::As) x→sepL (B::Bs) x:=
 fun x ⟨h1,h2,a,s,d,e⟩=>⟨h1,h2,h h1 a,k h2 s,d,e⟩
theorem _root_.Go.Gw.St.impL {m:Mem}{As Bs:List Ow}{w:World}(S:St m As w)(h: ∀x,sepL As x→sepL Bs x):St m Bs w:=by
 obtain⟨x,sx,rx⟩:=S.own;exact⟨S.os,S.tape,S.output,x,h x sx,rx⟩
theorem Rel.tup' {η:Env}{m:Mem}{cs:List AV}{vs:List Value}(h:Bj η m cs vs):Rel η m (.tup cs) (.tuple vs.toArray):= .tup h.1 h.2
def YE (l:List Value):Env:=fun n=>l[n]?
theorem H8 {l:List Value}{k:Nat}(hk:l.length=k): ∀n,YE l n≠none→n<k:=by
 intro n h;rcases Nat.lt_or_ge n l.length with q|q
 ·omega
 ·exact absurd (List.getElem?_eq_none q) h
theorem RM {η:Env}(hd: ∀n,η n≠none→n<0)(η':Env):η.le η':=fun n v h=>absurd (hd n (by rw[h]; simp)) (by omega)
def cvR (ob:List Tok):AV→AV→AV
 | .tup es,.tup az=> .tup (cvV ob es az).1
 |e,a=>(cvA ob e a).1
theorem YF {ob:List Tok}{η:Env}{m:Mem}(k: ∀ns,Kn ob η m ns){e a:AV}{v:Value}(r:Rel η m a v):Rel η m (cvR ob e a) v:=by
 unfold cvR;split
 ·obtain⟨vs,rfl,h⟩:=r.tup_inv;exact .tup' (Ll (k _) h)
 ·exact Uq (k _) r
theorem Sp.fz {P:Program}{k:FuncId}{args:List AV}{er er':AV}{eobs:List AObj}{n1:Nat}(h:Sp P k args [] 0 (is er eobs n1))
  (e:((enO 0 eobs).all (fun p=>GC p.2),okA 0 er',cvR (enO 0 eobs) er' er)=(true,true,er')):Sf P k args er':=by
 simp only[Prod.mk.injEq]at e;obtain⟨e1,e2,e3⟩:=e;refine⟨h.1,fun η m As w vs hv hd S=>Az.mono (h.2 η m As w vs hv hd S) ?_⟩;rintro v w' ⟨M,η',r,obs',n1',hle,hη,⟨rfl,rfl,rfl⟩,hdom,hR,S'⟩;rw[←Gx (k:=0)]at S';obtain⟨M2,l2,K,S2⟩:=HP e1 S';have KN: ∀ns,Kn (enO 0 obs') η' M2 ns:=fun ns n hn d hd=>by
  obtain⟨p,hf,hp,_,hnm⟩:=I3 hd;obtain⟨v,a,b⟩:=K p (Em hf);rw[hnm]at a; rw[hp]at b; exact⟨v,a,b⟩
 have hr:=YF KN (e:=er') (hR.up Env.le_refl l2);rw[e3]at hr;exact⟨M2,none0,er',[],0,Mem.tr hle l2,RM hd _,⟨rfl,rfl,rfl⟩,fun n h=>absurd rfl h,PK (fun k hk=>absurd hk (by omega)) e2 hr,S2⟩
theorem Sp.nil0 {P:Program}{k:FuncId}{args:List AV}{sz:Nat}{α:Type}{E:α→List D}{Po:AV→List AObj→Nat→Prop}(h:Sp P k (.ow 0::args) [.row 0 sz α E []] 1 Po)(ha:args.all (okA 0)=true):Sp P k (.d (.v (.slice none 0 0))::args) [] 0 Po:=by
 refine⟨h.1,fun η m As w vs hv hd S=> ?_⟩;obtain⟨v,us,rfl,h1,h2⟩:=hv.cons_inv;have hvv:v= .slice none 0 0:=by have:=h1.dd; cases this; rfl
 subst hvv;have he:η.le (η.put 0 (.slice none 0 0)):=Env.le_put (by cases q:η 0 with|none=>rfl|some u=>exact absurd (hd 0 (by rw[q]; simp)) (by omega));have S1:St m (rep (η.put 0 (.slice none 0 0)) m (.row 0 sz α E [])::As) w:=by
  exact St.closeRow (η:=η.put 0 (.slice none 0 0)) (n:=0) (E:=E) (xs:=[]) Env.put_self rfl (by simpa using FRL.nil) (fun _ h=>by cases h) (St.rowNil S sz)
 have:=h.2 (η.put 0 (.slice none 0 0)) m As w (.slice none 0 0::us) (.cons (.ow Env.put_self rfl) (Jq (n:=0) (fun k hk=>absurd hk (by omega)) ha (h2.up he (Mem.rfl' m)))) (fun n hn=>by
  rcases Env.put_dom hn with q|q
  ·have:=hd n q; omega
  ·omega) S1
 refine Az.mono this ?_;rintro r w' ⟨M,η',r',obs',n1,a,b,c⟩;exact⟨M,η',r',obs',n1,a,Env.le_tr he b,c⟩
end Go.Ax
end
section
namespace Go.Proofs.YtbajlmaijjcbmaaGreatDoor
open Go Go.Gw Go.Ax Tryz
def str_0:ByteArray:=⟨#[0,1,2,2,3,3,3,3,4,4,4,4,4,4,4,4,5,5,5,5,5,5,5,5,5,5,5,5,5,5,5,5,6,6,6,6,6,6,6,6,6,6,6,6,6,6,6,6,6,6,6,6,6,6,6,6,6,6,6,6,6,6,6,6,7,7,7,7,7,7,7,7,7,7,7,7,7,7,7,7,7,7,7,7,7,7,7,7,7,7,7,7,7,7,7,7,7,7,7,7,7,7,7,7,7,7,7,7,7,7,7,7,7,7,7,7,7,7,7,7,7,7,7,7,7,7,7,7,8,8,8,8,8,8,8,8,8,8,8,8,8,8,8,8,8,8,8,8,8,8,8,8,8,8,8,8,8,8,8,8,8,8,8,8,8,8,8,8,8,8,8,8,8,8,8,8,8,8,8,8,8,8,8,8,8,8,8,8,8,8,8,8,8,8,8,8,8,8,8,8,8,8,8,8,8,8,8,8,8,8,8,8,8,8,8,8,8,8,8,8,8,8,8,8,8,8,8,8,8,8,8,8,8,8,8,8,8,8,8,8,8,8,8,8,8,8,8,8,8,8,8,8,8,8,8,8]⟩
structure g_api_Sig where
 E:UInt64
 S:UInt64
instance:GoT g_api_Sig where
 sz:=GoT.sz (UInt64×UInt64)
 rep m cs x:=GoT.rep (α:=UInt64×UInt64) m cs (x.E,x.S)
 len h:=GoT.len (α:=UInt64×UInt64) h
 up l h:=GoT.up (α:=UInt64×UInt64) l h
 one h:=GoT.one (α:=UInt64×UInt64) h
instance:Inhabited g_api_Sig:=⟨⟨default,default⟩⟩
structure g_api_Promise where
 Log:Int
 At:Int
 Leaf:UInt64×UInt64
 Sig:g_api_Sig
instance:GoT g_api_Promise where
 sz:=GoT.sz (Int×Int×(UInt64×UInt64)×g_api_Sig)
 rep m cs x:=GoT.rep (α:=Int×Int×(UInt64×UInt64)×g_api_Sig) m cs (x.Log,x.At,x.Leaf,x.Sig)
 len h:=GoT.len (α:=Int×Int×(UInt64×UInt64)×g_api_Sig) h
 up l h:=GoT.up (α:=Int×Int×(UInt64×UInt64)×g_api_Sig) l h
 one h:=GoT.one (α:=Int×Int×(UInt64×UInt64)×g_api_Sig) h
instance:Inhabited g_api_Promise:=⟨⟨default,default,default,default⟩⟩
structure g_api_Cert where
 Serial:Int
 Issuer:ByteArray
 Subject:ByteArray
 Key:UInt64
 Names:List ByteArray
 From:Int
 Until:Int
 Ca:Bool
 Depth:Int
 Permit:List ByteArray
 Proms:List g_api_Promise
 Sig:g_api_Sig
instance:GoT g_api_Cert where
 sz:=GoT.sz (Int×ByteArray×ByteArray×UInt64×(List ByteArray)×Int×Int×Bool×Int×(List ByteArray)×(List g_api_Promise)×g_api_Sig)
 rep m cs x:=GoT.rep (α:=Int×ByteArray×ByteArray×UInt64×(List ByteArray)×Int×Int×Bool×Int×(List ByteArray)×(List g_api_Promise)×g_api_Sig) m cs (x.Serial,x.Issuer,x.Subject,x.Key,x.Names,x.From,x.Until,x.Ca,x.Depth,x.Permit,x.Proms,x.Sig)
 len h:=GoT.len (α:=Int×ByteArray×ByteArray×UInt64×(List ByteArray)×Int×Int×Bool×Int×(List ByteArray)×(List g_api_Promise)×g_api_Sig) h
 up l h:=GoT.up (α:=Int×ByteArray×ByteArray×UInt64×(List ByteArray)×Int×Int×Bool×Int×(List ByteArray)×(List g_api_Promise)×g_api_Sig) l h
 one h:=GoT.one (α:=Int×ByteArray×ByteArray×UInt64×(List ByteArray)×Int×Int×Bool×Int×(List ByteArray)×(List g_api_Promise)×g_api_Sig) h
instance:Inhabited g_api_Cert:=⟨⟨default,default,default,default,default,default,default,default,default,default,default,default⟩⟩
structure Cs where
 tag_:Int
 may_:Int
instance:Inhabited Cs:=⟨⟨default,default⟩⟩
structure g_api_Item where
 Tag:Int
 B:List UInt8
 L:List g_api_Item
instance:Inhabited g_api_Item:=⟨⟨default,default,default⟩⟩
def Ai (a:g_api_Item):List D:=[.i a.Tag,.sl _ eB a.B,.rs _ (fun a=> [.i a.Tag,.sl _ eB a.B]) (fun a=> []) (fun a=>a.L) a.L]
instance:GoT g_api_Item:=Kg Ai 3
theorem UQ {m:Mem}{cs:List Value}{x:g_api_Item}(h:GoT.rep m cs x): ∃v1,∃v2,cs=[vI x.Tag,v1,v2]∧SlR m v1 x.B∧SlR m v2 x.L:=by
 obtain⟨h,_⟩:=h;obtain⟨u0,us0,rfl,a0,g0⟩:=FRL.cons_inv h;cases a0;obtain⟨u1,us1,rfl,a1,g1⟩:=FRL.cons_inv g0;obtain⟨u2,us2,rfl,a2,g2⟩:=FRL.cons_inv g1;obtain rfl:=FRL.nil_inv g2;exact⟨u1,u2,rfl,Br.ofS Br.b a1,RG (Sa a2) (fun _=>rfl)⟩
theorem Nz {m:Mem}{x:g_api_Item}{v1:Value}{v2:Value}(h1:SlR m v1 x.B)(h2:SlR m v2 x.L):GoT.rep m [vI x.Tag,v1,v2] x:=⟨(FRL.cons (.i _) (FRL.cons (Br.toS Br.b h1) (FRL.cons (.rs (Oq h2)) FRL.nil))),rfl⟩
theorem Jv:Br g_api_Item Ai:=⟨fun h=>h.1,fun h=>⟨h,rfl⟩,fun _=>rfl⟩
structure g_path_trip where
 roots_:List g_api_Cert
 chain_:List g_api_Cert
 name_:ByteArray
 now_:Int
instance:GoT g_path_trip where
 sz:=GoT.sz ((List g_api_Cert)×(List g_api_Cert)×ByteArray×Int)
 rep m cs x:=GoT.rep (α:=(List g_api_Cert)×(List g_api_Cert)×ByteArray×Int) m cs (x.roots_,x.chain_,x.name_,x.now_)
 len h:=GoT.len (α:=(List g_api_Cert)×(List g_api_Cert)×ByteArray×Int) h
 up l h:=GoT.up (α:=(List g_api_Cert)×(List g_api_Cert)×ByteArray×Int) l h
 one h:=GoT.one (α:=(List g_api_Cert)×(List g_api_Cert)×ByteArray×Int) h
instance:Inhabited g_path_trip:=⟨⟨default,default,default,default⟩⟩
structure DZ where
 lo_:UInt8
 hi_:UInt8
instance:GoT DZ where
 sz:=GoT.sz (UInt8×UInt8)
 rep m cs x:=GoT.rep (α:=UInt8×UInt8) m cs (x.lo_,x.hi_)
 len h:=GoT.len (α:=UInt8×UInt8) h
 up l h:=GoT.up (α:=UInt8×UInt8) l h
 one h:=GoT.one (α:=UInt8×UInt8) h
instance:Inhabited DZ:=⟨⟨default,default⟩⟩
theorem SX {m:Mem}{cs:List Value}{x:UInt64×UInt64×UInt64}(h:GoT.rep m cs x):cs=[vU x.1,vU x.2.1,vU x.2.2]:=by
 obtain⟨_,_,rfl,rfl,⟨_,_,rfl,rfl,rfl⟩⟩:=h;exact rfl
theorem UW {m:Mem}{x:UInt64×UInt64×UInt64}:GoT.rep m [vU x.1,vU x.2.1,vU x.2.2] x:=⟨[vU x.1],[vU x.2.1,vU x.2.2],rfl,rfl,⟨[vU x.2.1],[vU x.2.2],rfl,rfl,rfl⟩⟩
theorem SY {m:Mem}{cs:List Value}{x:UInt64×UInt64}(h:GoT.rep m cs x):cs=[vU x.1,vU x.2]:=by
 obtain⟨_,_,rfl,rfl,rfl⟩:=h;exact rfl
theorem LH {m:Mem}{x:UInt64×UInt64}:GoT.rep m [vU x.1,vU x.2] x:=⟨[vU x.1],[vU x.2],rfl,rfl,rfl⟩
theorem RB {m:Mem}{cs:List Value}{x:g_api_Promise}(h:GoT.rep m cs x):cs=[vI x.Log,vI x.At,vU x.Leaf.1,vU x.Leaf.2,vU x.Sig.E,vU x.Sig.S]:=by
 obtain⟨_,_,rfl,rfl,⟨_,_,rfl,rfl,⟨_,_,rfl,⟨_,_,rfl,rfl,rfl⟩,⟨_,_,rfl,rfl,rfl⟩⟩⟩⟩:=h;exact rfl
theorem RV {m:Mem}{x:g_api_Promise}:GoT.rep m [vI x.Log,vI x.At,vU x.Leaf.1,vU x.Leaf.2,vU x.Sig.E,vU x.Sig.S] x:=⟨[vI x.Log],[vI x.At,vU x.Leaf.1,vU x.Leaf.2,vU x.Sig.E,vU x.Sig.S],rfl,rfl,⟨[vI x.At],[vU x.Leaf.1,vU x.Leaf.2,vU x.Sig.E,vU x.Sig.S],rfl,rfl,⟨[vU x.Leaf.1,vU x.Leaf.2],[vU x.Sig.E,vU x.Sig.S],rfl,⟨[vU x.Leaf.1],[vU x.Leaf.2],rfl,rfl,rfl⟩,⟨[vU x.Sig.E],[vU x.Sig.S],rfl,rfl,rfl⟩⟩⟩⟩
theorem UR {m:Mem}{cs:List Value}{x:g_api_Cert}(h:GoT.rep m cs x): ∃v1,∃v2,∃v3,cs=[vI x.Serial,vS x.Issuer,vS x.Subject,vU x.Key,v1,vI x.From,vI x.Until,vb x.Ca,vI x.Depth,v2,v3,vU x.Sig.E,vU x.Sig.S]∧SlR m v1 x.Names∧SlR m v2 x.Permit∧SlR m v3 x.Proms:=by
 obtain⟨_,_,rfl,rfl,⟨_,_,rfl,rfl,⟨_,_,rfl,rfl,⟨_,_,rfl,rfl,⟨_,_,rfl,⟨v1,rfl,h1⟩,⟨_,_,rfl,rfl,⟨_,_,rfl,rfl,⟨_,_,rfl,rfl,⟨_,_,rfl,rfl,⟨_,_,rfl,⟨v2,rfl,h2⟩,⟨_,_,rfl,⟨v3,rfl,h3⟩,⟨_,_,rfl,rfl,rfl⟩⟩⟩⟩⟩⟩⟩⟩⟩⟩⟩⟩:=h;exact⟨v1,v2,v3,rfl,h1,h2,h3⟩
theorem Vu {m:Mem}{x:g_api_Cert}{v1:Value}{v2:Value}{v3:Value}(h1:SlR m v1 x.Names)(h2:SlR m v2 x.Permit)(h3:SlR m v3 x.Proms):GoT.rep m [vI x.Serial,vS x.Issuer,vS x.Subject,vU x.Key,v1,vI x.From,vI x.Until,vb x.Ca,vI x.Depth,v2,v3,vU x.Sig.E,vU x.Sig.S] x:=⟨[vI x.Serial],[vS x.Issuer,vS x.Subject,vU x.Key,v1,vI x.From,vI x.Until,vb x.Ca,vI x.Depth,v2,v3,vU x.Sig.E,vU x.Sig.S],rfl,rfl,⟨[vS x.Issuer],[vS x.Subject,vU x.Key,v1,vI x.From,vI x.Until,vb x.Ca,vI x.Depth,v2,v3,vU x.Sig.E,vU x.Sig.S],rfl,rfl,⟨[vS x.Subject],[vU x.Key,v1,vI x.From,vI x.Until,vb x.Ca,vI x.Depth,v2,v3,vU x.Sig.E,vU x.Sig.S],rfl,rfl,⟨[vU x.Key],[v1,vI x.From,vI x.Until,vb x.Ca,vI x.Depth,v2,v3,vU x.Sig.E,vU x.Sig.S],rfl,rfl,⟨[v1],[vI x.From,vI x.Until,vb x.Ca,vI x.Depth,v2,v3,vU x.Sig.E,vU x.Sig.S],rfl,⟨_,rfl,h1⟩,⟨[vI x.From],[vI x.Until,vb x.Ca,vI x.Depth,v2,v3,vU x.Sig.E,vU x.Sig.S],rfl,rfl,⟨[vI x.Until],[vb x.Ca,vI x.Depth,v2,v3,vU x.Sig.E,vU x.Sig.S],rfl,rfl,⟨[vb x.Ca],[vI x.Depth,v2,v3,vU x.Sig.E,vU x.Sig.S],rfl,rfl,⟨[vI x.Depth],[v2,v3,vU x.Sig.E,vU x.Sig.S],rfl,rfl,⟨[v2],[v3,vU x.Sig.E,vU x.Sig.S],rfl,⟨_,rfl,h2⟩,⟨[v3],[vU x.Sig.E,vU x.Sig.S],rfl,⟨_,rfl,h3⟩,⟨[vU x.Sig.E],[vU x.Sig.S],rfl,rfl,rfl⟩⟩⟩⟩⟩⟩⟩⟩⟩⟩⟩⟩
def H7 (p q:g_api_Sig):Bool:=[(p.E==q.E),(p.S==q.S)].all id
theorem P4 {p q:g_api_Sig}:EqV Tryz.prog 2 26 (.agg ([vU p.E,vU p.S]:List Value).toArray) (.agg ([vU q.E,vU q.S]:List Value).toArray) (H7 p q):=
 EqV.struct (k:=1) (cs:=[vU p.E,vU p.S]) (ds:=[vU q.E,vU q.S]) (bs:=[(p.E==q.E),(p.S==q.S)]) Tryz.underlying26 (by kernel_rfl) ⟨⟨by decide,_,_,fd1 Tryz.isAgg22 Tryz.sizeOf22 rfl,fd1 Tryz.isAgg22 Tryz.sizeOf22 rfl,EqV.mono (EqV.u64 Tryz.underlying22) (by decide)⟩,⟨⟨by decide,_,_,fd1 Tryz.isAgg22 Tryz.sizeOf22 rfl,fd1 Tryz.isAgg22 Tryz.sizeOf22 rfl,EqV.mono (EqV.u64 Tryz.underlying22) (by decide)⟩,trivial⟩⟩
def Ik (p q:g_api_Promise):Bool:=[(p.Log==q.Log),(p.At==q.At),(RL p.Leaf q.Leaf),(H7 p.Sig q.Sig)].all id
theorem Ug {p q:g_api_Promise}:EqV Tryz.prog 3 86 (.agg ([vI p.Log,vI p.At,vU p.Leaf.1,vU p.Leaf.2,vU p.Sig.E,vU p.Sig.S]:List Value).toArray) (.agg ([vI q.Log,vI q.At,vU q.Leaf.1,vU q.Leaf.2,vU q.Sig.E,vU q.Sig.S]:List Value).toArray) (Ik p q):=
 EqV.struct (k:=2) (cs:=[vI p.Log,vI p.At,vU p.Leaf.1,vU p.Leaf.2,vU p.Sig.E,vU p.Sig.S]) (ds:=[vI q.Log,vI q.At,vU q.Leaf.1,vU q.Leaf.2,vU q.Sig.E,vU q.Sig.S]) (bs:=[(p.Log==q.Log),(p.At==q.At),(RL p.Leaf q.Leaf),(H7 p.Sig q.Sig)]) Tryz.underlying86 (by kernel_rfl) ⟨⟨by decide,_,_,fd1 Tryz.isAgg3 Tryz.sizeOf3 rfl,fd1 Tryz.isAgg3 Tryz.sizeOf3 rfl,EqV.mono (EqV.int Tryz.underlying3) (by decide)⟩,⟨⟨by decide,_,_,fd1 Tryz.isAgg3 Tryz.sizeOf3 rfl,fd1 Tryz.isAgg3 Tryz.sizeOf3 rfl,EqV.mono (EqV.int Tryz.underlying3) (by decide)⟩,⟨⟨by decide,_,_,fdA Tryz.isAgg84 Tryz.sizeOf84 rfl rfl,fdA Tryz.isAgg84 Tryz.sizeOf84 rfl rfl,EqV.mono (EqV.sum Tryz.underlying84 Tryz.underlying22 Tryz.sizeOf22 Tryz.isAgg22) (by decide)⟩,⟨⟨by decide,_,_,fdA Tryz.isAgg26 Tryz.sizeOf26 rfl rfl,fdA Tryz.isAgg26 Tryz.sizeOf26 rfl rfl,EqV.mono (P4) (by decide)⟩,trivial⟩⟩⟩⟩
structure D9 where
 k:Nat
 a:g_path_trip
def tab_0:List Cs:=[⟨1,252⟩,⟨2,157⟩,⟨4,253⟩,⟨12,254⟩,⟨48,257⟩]
def HS (a:g_api_Sig):List D:=[.u a.E,.u a.S]
def Ak (a:g_api_Promise):List D:=[.i a.Log,.i a.At,.u a.Leaf.1,.u a.Leaf.2,.u a.Sig.E,.u a.Sig.S]
def Ae (a:g_api_Cert):List D:=[.i a.Serial,.s a.Issuer,.s a.Subject,.u a.Key,.sl _ eS a.Names,.i a.From,.i a.Until,.t a.Ca,.i a.Depth,.sl _ eS a.Permit,.sl _ Ak a.Proms,.u a.Sig.E,.u a.Sig.S]
def Et (a:Cs):List D:=[.i a.tag_,.v (fnV a.may_)]
def Lj (a:UInt64×UInt64):List D:=[.u a.1,.u a.2]
def C4 (a:g_path_trip):List D:=[.sl _ Ae a.roots_,.sl _ Ae a.chain_,.s a.name_,.i a.now_]
def Li (a:D9):List D:=[.cl a.k (C4 a.a)]
def Un (a:UInt64×UInt64×UInt64):List D:=[.u a.1,.u a.2.1,.u a.2.2]
theorem UH:Br (UInt64×UInt64) Lj:=Br.mk' (Br.pair Br.u Br.u) Lj (fun x=>x) (fun _ _ _=>rfl) (fun _=>rfl) rfl
theorem Pb:Br g_api_Sig HS:=Br.mk' (Br.pair Br.u Br.u) HS (fun x=>(x.E,x.S)) (fun _ _ _=>rfl) (fun _=>rfl) rfl
theorem NY:Br g_api_Promise Ak:=Br.mk' (Br.pair Br.i (Br.pair Br.i (Br.pair UH Pb))) Ak (fun x=>(x.Log,x.At,x.Leaf,x.Sig)) (fun _ _ _=>rfl) (fun _=>rfl) rfl
theorem Ie:Br g_api_Cert Ae:=Br.mk' (Br.pair Br.i (Br.pair Br.s (Br.pair Br.s (Br.pair Br.u (Br.pair (Br.sl Br.s) (Br.pair Br.i (Br.pair Br.i (Br.pair Br.t (Br.pair Br.i (Br.pair (Br.sl Br.s) (Br.pair (Br.sl NY) Pb))))))))))) Ae (fun x=>(x.Serial,x.Issuer,x.Subject,x.Key,x.Names,x.From,x.Until,x.Ca,x.Depth,x.Permit,x.Proms,x.Sig)) (fun _ _ _=>rfl) (fun _=>rfl) rfl
theorem b_a3_eU:Br (UInt64×UInt64×UInt64) Un:=Br.mk' (Br.pair Br.u (Br.pair Br.u Br.u)) Un (fun x=>x) (fun _ _ _=>rfl) (fun _=>rfl) rfl
end Go.Proofs.YtbajlmaijjcbmaaGreatDoor
end
