/- Several texts, one behind the other. Conditions: none. -/
import Derived.Test.YtibojdgdjhngiaaGreatDoorProg
import Derived.Test.YtibojdgdjhngiaaGreatDoorZe
import Derived.Test.YtibojdgdjhngiaaGreatDoorZd
set_option linter.unusedSimpArgs false
set_option linter.unusedVariables false
set_option maxHeartbeats 20000000
set_option maxRecDepth 100000
section
namespace Go.Proofs.YtibojdgdjhngiaaGreatDoor
open Go Go.Gw Go.Ax Tryz
theorem Cn:prog.follows .mixedOrders=true:=rfl
structure G (ρ:Option Nat)(N:Nat)(D0:Dw)(Q:Et)(As:List Ow)(η0:Env)(m0:Mem)(cf:Cf):Prop where
 h:Ax.Go ρ prog N D0 Q As η0 m0 cf
abbrev ag (l:List D):AV:= .agg (l.map dv)
abbrev sl {α:Type}(E:α→List D)(xs:List α):AV:= .d (.sl α E xs)
abbrev eI (n:Int):List D:=[.i n]
abbrev eU (n:UInt64):List D:=[.u n]
abbrev eW (n:UInt32):List D:=[.w n]
abbrev eB (n:UInt8):List D:=[.b n]
abbrev eR (n:Int):List D:=[.r n]
abbrev eT (n:Bool):List D:=[.t n]
abbrev eS (n:ByteArray):List D:=[.s n]
abbrev eL {α:Type}(E:α→List D)(xs:List α):List D:=[.sl α E xs]
section
variable {ρ:Option Nat}{N:Nat}{D0:Dw}{Q:Et}{As:List Ow}{η0:Env}{m0:Mem}{cf:Cf}
theorem sp {k:FuncId}{fn:Func}{c:Code}{args:List AV}{obs:List AObj}{n0:Nat}{Po:AV→List AObj→Nat→Prop}(hc: ∀(a:Array Value) w,(callFunc k a).run prog w= .ok (.enter k a) w)(hf:prog.funcs[k]? =some fn)(hb:fn.body=some c)(hN:fn.ntmps=N)
  (hle:Nat.ble args.length N=true) (h: ∀D0 As η0 m0,(∀n,η0 n≠none→n<n0)→G none N D0 (UT prog N fn (Mw As η0 m0 Po)) As η0 m0 ⟨SM args obs n0,.code c,[]⟩):Sp prog k args obs n0 Po:=
 sp_of hc hf hb hN hle fun a b c d e=>(h a b c d e).h
theorem gc {k:FuncId}{ea:List AV}{r:AV}(hs:gOf (adv prog N 100000 cf).1=true→Sf prog k ea r)
 (e:(ZN (adv prog N 100000 cf).1 ea,ea.all (okA 0),((adv prog N 100000 cf).2++Bp (adv prog N 100000 cf).1).map (·.1))=(some (k,ea),true,((adv prog N 100000 cf).2++Bp (adv prog N 100000 cf).1).map (·.2)))
 (g:G ρ N D0 Q As η0 m0 (Lx N (adv prog N 100000 cf).1 r)):G ρ N D0 Q As η0 m0 cf:=⟨Acl Cn hs e g.h⟩
theorem gco {k:FuncId}{ea:List AV}{eobs obs':List AObj}{n0 n1:Nat}{r:AV}(hs:Sp prog k ea eobs n0 (is r obs' n1))
 (e:(Qm (adv prog N 100000 cf).1 ea eobs n0,okA n1 r&&(obs'.all (okO n1)&&Nat.ble n0 n1),((adv prog N 100000 cf).2++Bp (adv prog N 100000 cf).1).map (·.1))=
  (some (k,(Kf (adv prog N 100000 cf).1 ea eobs).1,(Kf (adv prog N 100000 cf).1 ea eobs).2,true),true,((adv prog N 100000 cf).2++Bp (adv prog N 100000 cf).1).map (·.2)))
 (g:G ρ N D0 Q As η0 m0 (AbF N (adv prog N 100000 cf).1 ea eobs n0 r obs' n1)):G ρ N D0 Q As η0 m0 cf:=⟨Zu Cn hs e g.h⟩
theorem gi {β:Type}{b:Bool}{x y:Option β}{r:β}(hm:(if b=true then x else y)=some r)(e:(ZI (adv prog N 100000 cf).1,((adv prog N 100000 cf).2).map (·.1))=(some b,((adv prog N 100000 cf).2).map (·.2)))
  (h1:b=true→x=some r→G ρ N D0 Q As η0 m0 (way true (adv prog N 100000 cf).1)) (h0:b=false→y=some r→G ρ N D0 Q As η0 m0 (way false (adv prog N 100000 cf).1)):G ρ N D0 Q As η0 m0 cf:=
 ⟨go_if Cn e (fun h=>(h1 h (by rw[h]at hm; exact hm)).h) fun h=>(h0 h (by rw[h]at hm; exact hm)).h⟩
theorem KC (g:Nat){β:Type}{b:Bool}{x y:Option β}{r:β}(hm:(if b=true then x else y)=some r)(e:(get (N4 g prog N 100000 cf).1.s.sl g,((N4 g prog N 100000 cf).2).map (·.1))=(.d (.t b),((N4 g prog N 100000 cf).2).map (·.2)))
  (h1:b=true→x=some r→G ρ N D0 Q As η0 m0 (setK g true (N4 g prog N 100000 cf).1)) (h0:b=false→y=some r→G ρ N D0 Q As η0 m0 (setK g false (N4 g prog N 100000 cf).1)):G ρ N D0 Q As η0 m0 cf:=
 ⟨go_spl Cn e (fun h=>(h1 h (by rw[h]at hm; exact hm)).h) fun h=>(h0 h (by rw[h]at hm; exact hm)).h⟩
theorem gi' {b:Bool}(e:(ZI (adv prog N 100000 cf).1,((adv prog N 100000 cf).2).map (·.1))=(some b,((adv prog N 100000 cf).2).map (·.2)))
  (h1:b=true→G ρ N D0 Q As η0 m0 (way true (adv prog N 100000 cf).1)) (h0:b=false→G ρ N D0 Q As η0 m0 (way false (adv prog N 100000 cf).1)):G ρ N D0 Q As η0 m0 cf:=
 ⟨go_if Cn e (fun h=>(h1 h).h) fun h=>(h0 h).h⟩
theorem Ff {k:Nat}{α:Type}{E:α→List D}{xs:List α}{j:Int}{x:α}(hE: ∀x,(E x).length=k)(hq:gOf (adv prog N 100000 cf).1=true→idx xs j=some x)
 (e:((idxK prog (adv prog N 100000 cf).1).map (fun r=>(r.1,r.2.1,r.2.2.1)),((adv prog N 100000 cf).2++Bp (adv prog N 100000 cf).1).map (·.1))=(some (.sl α E xs,j,k),((adv prog N 100000 cf).2++Bp (adv prog N 100000 cf).1).map (·.2)))
 (g:G ρ N D0 Q As η0 m0 (BF N (adv prog N 100000 cf).1 (.d (.pf (E x))) (idxT prog (adv prog N 100000 cf).1))):G ρ N D0 Q As η0 m0 cf:=⟨go_idx Cn hE hq e g.h⟩
theorem Vm {k:Nat}{α:Type}{E:α→List D}{xs ys:List α}{lo hi:Int}(hE: ∀x,(E x).length=k)(hq:gOf (adv prog N 100000 cf).1=true→cut xs lo hi=some ys)
 (e:((cutK prog (adv prog N 100000 cf).1).map (fun r=>(r.1,r.2.1,r.2.2.1,r.2.2.2.1,r.2.2.2.2.1)),((adv prog N 100000 cf).2++Bp (adv prog N 100000 cf).1).map (·.1))=(some (.sl α E xs,lo,hi,hi,k),((adv prog N 100000 cf).2++Bp (adv prog N 100000 cf).1).map (·.2)))
 (g:G ρ N D0 Q As η0 m0 (BF N (adv prog N 100000 cf).1 (.d (.sl α E ys)) (cutT prog (adv prog N 100000 cf).1))):G ρ N D0 Q As η0 m0 cf:=⟨go_cut Cn hE hq e g.h⟩
theorem AaH {d r:D}(hq:gOf (adv prog N 100000 cf).1=true→nzD d)
 (e:(quoK (adv prog N 100000 cf).1,((adv prog N 100000 cf).2++Bp (adv prog N 100000 cf).1).map (·.1))=(some (.d d,r),((adv prog N 100000 cf).2++Bp (adv prog N 100000 cf).1).map (·.2)))
 (g:G ρ N D0 Q As η0 m0 (BF N (adv prog N 100000 cf).1 (.d r) [])):G ρ N D0 Q As η0 m0 cf:=⟨go_quo Cn hq e g.h⟩
theorem gsh {c:Int}{r:D}(hq:gOf (adv prog N 100000 cf).1=true→0≤c)
 (e:(shK (adv prog N 100000 cf).1,((adv prog N 100000 cf).2++Bp (adv prog N 100000 cf).1).map (·.1))=(some (c,r),((adv prog N 100000 cf).2++Bp (adv prog N 100000 cf).1).map (·.2)))
 (g:G ρ N D0 Q As η0 m0 (BF N (adv prog N 100000 cf).1 (.d r) [])):G ρ N D0 Q As η0 m0 cf:=⟨go_sh Cn hq e g.h⟩
theorem Acn {s:ByteArray}{j:Int}{b:UInt8}(hq:gOf (adv prog N 100000 cf).1=true→idx s.data.toList j=some b)
 (e:(Ab5 prog (adv prog N 100000 cf).1,((adv prog N 100000 cf).2++Bp (adv prog N 100000 cf).1).map (·.1))=(some (.d (.s s),j,true),((adv prog N 100000 cf).2++Bp (adv prog N 100000 cf).1).map (·.2)))
 (g:G ρ N D0 Q As η0 m0 (BF N (adv prog N 100000 cf).1 (.d (.b b)) [])):G ρ N D0 Q As η0 m0 cf:=⟨Aci Cn hq e g.h⟩
theorem AaM {k:FuncId}{fn:Func}{p q:UInt64}(hf:prog.funcs[k]? =some fn)(hname:(fn.name== "runtime.NumGoroutine")=false)(hb:fn.body.isNone=true)
 (hx:Extern.findNext fn=none) (he:Extern.find fn=some add64Entry)
 (e:(Yg (adv prog N 100000 cf).1,((adv prog N 100000 cf).2++Bp (adv prog N 100000 cf).1).map (·.1))=(some (k,.d (.u p),.d (.u q),true),((adv prog N 100000 cf).2++Bp (adv prog N 100000 cf).1).map (·.2)))
 (g:G ρ N D0 Q As η0 m0 (BF N (adv prog N 100000 cf).1 (.tup [.d (.u (p+q)),.d (.u (Hp p q))]) [])):G ρ N D0 Q As η0 m0 cf:=⟨Zw Cn hf hname hb hx he e g.h⟩
theorem gbs {xs:List UInt8}
 (e:((bsK prog (adv prog N 100000 cf).1).map (fun r=>(r.1,r.2.1)),((adv prog N 100000 cf).2++Bp (adv prog N 100000 cf).1).map (·.1))=(some (.sl UInt8 byE xs,true),((adv prog N 100000 cf).2++Bp (adv prog N 100000 cf).1).map (·.2)))
 (g:G ρ N D0 Q As η0 m0 (BF N (adv prog N 100000 cf).1 (.d (.s (bs xs))) (bsT prog (adv prog N 100000 cf).1))):G ρ N D0 Q As η0 m0 cf:=⟨go_bs Cn e g.h⟩
theorem gofS {s:ByteArray}{zs:List UInt8}(hq:app 1 ([]:List UInt8) s.data.toList=some zs)
 (e:(ofSK prog (adv prog N 100000 cf).1,((adv prog N 100000 cf).2++Bp (adv prog N 100000 cf).1).map (·.1))=(some (.d (.s s),true),((adv prog N 100000 cf).2++Bp (adv prog N 100000 cf).1).map (·.2)))
 (g:G ρ N D0 Q As η0 m0 (push N (adv prog N 100000 cf).1 (Aae (adv prog N 100000 cf).1.s 1 UInt8 byE zs))):G ρ N D0 Q As η0 m0 cf:=⟨go_ofS Cn hq e g.h⟩
theorem gapS {b:Nat}{s:ByteArray}{xs zs:List UInt8}(hq:app b xs s.data.toList=some zs)
 (e:((apSP prog (adv prog N 100000 cf).1).map (·.2),((adv prog N 100000 cf).2++Bp (adv prog N 100000 cf).1).map (·.1))=(some (.sl UInt8 byE xs,.d (.s s),b,true),((adv prog N 100000 cf).2++Bp (adv prog N 100000 cf).1).map (·.2)))
 (g:G ρ N D0 Q As η0 m0 (push N (adv prog N 100000 cf).1 (apST prog (adv prog N 100000 cf).1 zs))):G ρ N D0 Q As η0 m0 cf:=⟨go_apS Cn hq e g.h⟩
theorem gmkm (e:(mkmK (adv prog N 100000 cf).1,((adv prog N 100000 cf).2++Bp (adv prog N 100000 cf).1).map (·.1))=(true,((adv prog N 100000 cf).2++Bp (adv prog N 100000 cf).1).map (·.2)))
 (g:G ρ N D0 Q As η0 m0 (push N (adv prog N 100000 cf).1 ⟨.ow (adv prog N 100000 cf).1.s.nx,[],[],[((adv prog N 100000 cf).1.s.nx,.hp (adv prog N 100000 cf).1.s.nx (.mp []))],(adv prog N 100000 cf).1.s.nx+1,[]⟩)):G ρ N D0 Q As η0 m0 cf:=⟨go_mkm Cn e g.h⟩
theorem glk (kv:List (ByteArray×Bool))(k:ByteArray)
 (e:((lkK prog (adv prog N 100000 cf).1).map (fun r=>(r.1,r.2.1)),((adv prog N 100000 cf).2++Bp (adv prog N 100000 cf).1).map (·.1))=(some (kv,k),((adv prog N 100000 cf).2++Bp (adv prog N 100000 cf).1).map (·.2)))
 (g:G ρ N D0 Q As η0 m0 (BF N (adv prog N 100000 cf).1 (.d (.t (lkB kv k))) (lkT prog (adv prog N 100000 cf).1))):G ρ N D0 Q As η0 m0 cf:=⟨go_lk Cn kv k e g.h⟩
theorem gln (kv:List (ByteArray×Bool))
 (e:((lnK prog (adv prog N 100000 cf).1).map (fun r=>r.1),((adv prog N 100000 cf).2++Bp (adv prog N 100000 cf).1).map (·.1))=(some kv,((adv prog N 100000 cf).2++Bp (adv prog N 100000 cf).1).map (·.2)))
 (g:G ρ N D0 Q As η0 m0 (BF N (adv prog N 100000 cf).1 (.d (.i (kv.length:Int))) (lnT prog (adv prog N 100000 cf).1))):G ρ N D0 Q As η0 m0 cf:=⟨go_ln Cn kv e g.h⟩
theorem gup {kv:List (ByteArray×Bool)}{k:ByteArray}(hn:(lkI kv k 0).isNone=true)
 (e:((upK prog (adv prog N 100000 cf).1).map (fun r=>(r.1,r.2.1)),((adv prog N 100000 cf).2++Bp (adv prog N 100000 cf).1).map (·.1))=(some (kv,k),((adv prog N 100000 cf).2++Bp (adv prog N 100000 cf).1).map (·.2)))
 (g:G ρ N D0 Q As η0 m0 (push N (adv prog N 100000 cf).1 (upS prog (adv prog N 100000 cf).1))):G ρ N D0 Q As η0 m0 cf:=⟨go_up Cn hn e g.h⟩
theorem gmkg (κ γ:Type)(K:κ→List D)(c:γ→D)(e:(mkmK (adv prog N 100000 cf).1,((adv prog N 100000 cf).2++Bp (adv prog N 100000 cf).1).map (·.1))=(true,((adv prog N 100000 cf).2++Bp (adv prog N 100000 cf).1).map (·.2)))
 (g:G ρ N D0 Q As η0 m0 (push N (adv prog N 100000 cf).1 ⟨.ow (adv prog N 100000 cf).1.s.nx,[],[],[((adv prog N 100000 cf).1.s.nx,.hp (adv prog N 100000 cf).1.s.nx (.mg κ γ K c []))],(adv prog N 100000 cf).1.s.nx+1,[]⟩)):G ρ N D0 Q As η0 m0 cf:=⟨go_mkg Cn κ γ K c e g.h⟩
theorem glkg {κ γ:Type}{K:κ→List D}{c:γ→D}(kv:List (κ×γ))(k:κ)(p:κ→Bool)(z:γ)(kt et:TypeId)(ok:Bool)
 (hp:(fun x=>eqT prog 9 kt (.agg ((K k).map .d)) (.agg ((K x).map .d)))=fun x=>some (p x))
 (hK:(fun x=>(K x).all sc)=fun _=>true) (hc:(fun x=>sc (c x))=fun _=>true)
 (hk:(Uy prog kt&&(ckT prog 9 kt (.agg ((K k).map .d))&&zOk prog et (c z)))=true)
 (e:(lkgK prog (adv prog N 100000 cf).1,((adv prog N 100000 cf).2++Bp (adv prog N 100000 cf).1).map (·.1))=(some (⟨κ,γ,K,c,kv⟩,.agg ((K k).map .d),kt,et,ok),((adv prog N 100000 cf).2++Bp (adv prog N 100000 cf).1).map (·.2)))
 (g:G ρ N D0 Q As η0 m0 (BF N (adv prog N 100000 cf).1 (ansG c z (lkG p kv) ok) (lkgT prog (adv prog N 100000 cf).1))):G ρ N D0 Q As η0 m0 cf:=⟨go_lkg Cn kv k p z kt et ok hp hK hc hk e g.h⟩
theorem gupg {κ γ:Type}{K:κ→List D}{c:γ→D}(kv:List (κ×γ))(k:κ)(v:γ)(p:κ→Bool)(kt:TypeId)(hi: ∀x,p x=true→x=k)
 (hp:(fun x=>eqT prog 9 kt (.agg ((K k).map .d)) (.agg ((K x).map .d)))=fun x=>some (p x))
 (hK:(fun x=>(K x).all sc)=fun _=>true) (hc:(fun x=>sc (c x))=fun _=>true)
 (hk:(Uy prog kt&&ckT prog 9 kt (.agg ((K k).map .d)))=true)
 (e:(upgK prog (adv prog N 100000 cf).1,((adv prog N 100000 cf).2++Bp (adv prog N 100000 cf).1).map (·.1))=(some (⟨κ,γ,K,c,kv⟩,.agg ((K k).map .d),.d (c v),kt),((adv prog N 100000 cf).2++Bp (adv prog N 100000 cf).1).map (·.2)))
 (g:G ρ N D0 Q As η0 m0 (push N (adv prog N 100000 cf).1 (upgS K c (upG p (k,v) kv) (adv prog N 100000 cf).1))):G ρ N D0 Q As η0 m0 cf:=⟨go_upg Cn kv k v p kt hi hp hK hc hk e g.h⟩
theorem grng (k:ByteArray)(e:(rngK prog (adv prog N 100000 cf).1,((adv prog N 100000 cf).2++Bp (adv prog N 100000 cf).1).map (·.1))=(some k,((adv prog N 100000 cf).2++Bp (adv prog N 100000 cf).1).map (·.2)))
 (g:G ρ N D0 Q As η0 m0 (push N (adv prog N 100000 cf).1 ⟨.ow (adv prog N 100000 cf).1.s.nx,[],[],[((adv prog N 100000 cf).1.s.nx,.hp (adv prog N 100000 cf).1.s.nx (.it k 0))],(adv prog N 100000 cf).1.s.nx+1,[]⟩)):G ρ N D0 Q As η0 m0 cf:=⟨go_rng Cn k e g.h⟩
theorem gnx {s:ByteArray}{pos:Nat}{β:Type}{x y:Option β}{r:β}(hm:(if pos<s.size then x else y)=some r)
  (e:((nxK (adv prog N 100000 cf).1).map (fun r=>(r.1,r.2.1)),((adv prog N 100000 cf).2++Bp (adv prog N 100000 cf).1).map (·.1))=(some (s,pos),((adv prog N 100000 cf).2++Bp (adv prog N 100000 cf).1).map (·.2)))
  (h1:pos<s.size→x=some r→G ρ N D0 Q As η0 m0 (push N (adv prog N 100000 cf).1 (nxS (adv prog N 100000 cf).1))) (h0: ¬pos<s.size→y=some r→G ρ N D0 Q As η0 m0 (push N (adv prog N 100000 cf).1 (nxE (adv prog N 100000 cf).1))):G ρ N D0 Q As η0 m0 cf:=
 ⟨go_nx Cn e (fun h=>(h1 h (by rw[if_pos h]at hm; exact hm)).h) fun h=>(h0 h (by rw[if_neg h]at hm; exact hm)).h⟩
theorem gcutS {s z:ByteArray}{lo hi:Int}(hq:gOf (adv prog N 100000 cf).1=true→U8 s lo hi=some z)
 (e:(ZH prog (adv prog N 100000 cf).1,((adv prog N 100000 cf).2++Bp (adv prog N 100000 cf).1).map (·.1))=(some (s,lo,hi),((adv prog N 100000 cf).2++Bp (adv prog N 100000 cf).1).map (·.2)))
 (g:G ρ N D0 Q As η0 m0 (BF N (adv prog N 100000 cf).1 (.d (.s z)) [])):G ρ N D0 Q As η0 m0 cf:=⟨Ack Cn hq e g.h⟩
theorem gcutSG {c:Bool}{s z:ByteArray}{lo hi:Int}(hq:c=true→U8 s lo hi=some z)
 (e:(gOf (adv prog N 100000 cf).1,ZH prog (adv prog N 100000 cf).1,((adv prog N 100000 cf).2++Bp (adv prog N 100000 cf).1).map (·.1))=(c,some (s,lo,hi),((adv prog N 100000 cf).2++Bp (adv prog N 100000 cf).1).map (·.2)))
 (g:G ρ N D0 Q As η0 m0 (BF N (adv prog N 100000 cf).1 (.d (.s z)) [])):G ρ N D0 Q As η0 m0 cf:=gcutS (fun h=>hq (Eq.trans (Eq.symm (congrArg Prod.fst e)) h)) (congrArg Prod.snd e) g
theorem gext {k:FuncId}{fn:Func}{F:ByteArray→UInt8→Int}{p:ByteArray}{q:UInt8}(hf:prog.funcs[k]? =some fn)(hE:Yj prog fn F)
 (e:(extK (adv prog N 100000 cf).1,((adv prog N 100000 cf).2++Bp (adv prog N 100000 cf).1).map (·.1))=(some (k,.d (.s p),.d (.b q)),((adv prog N 100000 cf).2++Bp (adv prog N 100000 cf).1).map (·.2)))
 (g:G ρ N D0 Q As η0 m0 (BF N (adv prog N 100000 cf).1 (.d (.i (F p q))) [])):G ρ N D0 Q As η0 m0 cf:=⟨go_ext Cn hf hE e g.h⟩
theorem gboxF (d:Nat)(ds:List D)
 (e:(AcK (MH d prog N 100000 cf).1,((MH d prog N 100000 cf).2++Bp (MH d prog N 100000 cf).1).map (·.1))=(some ds,((MH d prog N 100000 cf).2++Bp (MH d prog N 100000 cf).1).map (·.2)))
 (g:G ρ N D0 Q As η0 m0 (BF N (MH d prog N 100000 cf).1 (.d (.pf ds)) [])):G ρ N D0 Q As η0 m0 cf:=⟨Acm d ds Cn e g.h⟩
theorem gslM {k:Nat}{α:Type}{E:α→List D}(xs:List α)(hE: ∀x,(E x).length=k)
 (e:(slMK prog (adv prog N 100000 cf).1,((adv prog N 100000 cf).2++Bp (adv prog N 100000 cf).1).map (·.1))=(some (xs.flatMap E,k,xs.length,true),((adv prog N 100000 cf).2++Bp (adv prog N 100000 cf).1).map (·.2)))
 (g:G ρ N D0 Q As η0 m0 (BF N (adv prog N 100000 cf).1 (.d (.sl α E xs)) [])):G ρ N D0 Q As η0 m0 cf:=⟨go_slM Cn xs hE e g.h⟩
theorem gslG {k:Nat}{α:Type}{E:α→List D}(xs:List α)(hE: ∀x,(E x).length=k)
 (e:(slGK prog (adv prog N 100000 cf).1,((adv prog N 100000 cf).2++Bp (adv prog N 100000 cf).1).map (·.1))=(some (xs.flatMap E,k,xs.length,true),((adv prog N 100000 cf).2++Bp (adv prog N 100000 cf).1).map (·.2)))
 (g:G ρ N D0 Q As η0 m0 (BF N (adv prog N 100000 cf).1 (.d (.sl α E xs)) [])):G ρ N D0 Q As η0 m0 cf:=⟨go_slG Cn xs hE e g.h⟩
theorem gidG {k:Nat}{α:Type}{E:α→List D}(xs:List α){j:Int}{z:α}(hE: ∀x,(E x).length=k)(hq:gOf (adv prog N 100000 cf).1=true→idx xs j=some z)
 (e:(idGK prog (adv prog N 100000 cf).1,((adv prog N 100000 cf).2++Bp (adv prog N 100000 cf).1).map (·.1))=(some (xs.flatMap E,j,k,xs.length),((adv prog N 100000 cf).2++Bp (adv prog N 100000 cf).1).map (·.2)))
 (g:G ρ N D0 Q As η0 m0 (BF N (adv prog N 100000 cf).1 (.d (.pf (E z))) [])):G ρ N D0 Q As η0 m0 cf:=⟨go_idG Cn xs hE hq e g.h⟩
theorem gdyn {x:Int}{ea:List AV}{r:AV}(hs:gOf (adv prog N 100000 cf).1=true→∃k:Nat,x=(k:Int)∧Sf prog k ea r)
 (e:((dynP (adv prog N 100000 cf).1).map (fun p=>(p.1,ZX (adv prog N 100000 cf).1.s.fz ea p.2)),ea.all (okA 0),((adv prog N 100000 cf).2++Bp (adv prog N 100000 cf).1).map (·.1))=(some (fnV x,ea),true,((adv prog N 100000 cf).2++Bp (adv prog N 100000 cf).1).map (·.2)))
 (g:G ρ N D0 Q As η0 m0 (Lx N (adv prog N 100000 cf).1 r)):G ρ N D0 Q As η0 m0 cf:=⟨go_dyn Cn hs e g.h⟩
theorem gdynG {c:Bool}{x:Int}{ea:List AV}{r:AV}(hs:c=true→∃k:Nat,x=(k:Int)∧Sf prog k ea r)
 (e:(gOf (adv prog N 100000 cf).1,(dynP (adv prog N 100000 cf).1).map (fun p=>(p.1,ZX (adv prog N 100000 cf).1.s.fz ea p.2)),ea.all (okA 0),((adv prog N 100000 cf).2++Bp (adv prog N 100000 cf).1).map (·.1))=(c,some (fnV x,ea),true,((adv prog N 100000 cf).2++Bp (adv prog N 100000 cf).1).map (·.2)))
 (g:G ρ N D0 Q As η0 m0 (Lx N (adv prog N 100000 cf).1 r)):G ρ N D0 Q As η0 m0 cf:=gdyn (fun h=>hs (Eq.trans (Eq.symm (congrArg Prod.fst e)) h)) (congrArg Prod.snd e) g
abbrev w8 (n:Int):Int:=IntKind.i8.wrap n
abbrev eF:Int→List D:=fun x=> [.v (fnV x)]
theorem glit {k:Nat}{α:Type}(E:α→List D)(xs:List α)(hE: ∀x,(E x).length=k)
 (e:(litK prog (adv prog N 100000 cf).1,((adv prog N 100000 cf).2++Bp (adv prog N 100000 cf).1).map (·.1))=(some ((xs.flatMap E).map dv,xs.length,k,true),((adv prog N 100000 cf).2++Bp (adv prog N 100000 cf).1).map (·.2)))
 (g:G ρ N D0 Q As η0 m0 (push N (adv prog N 100000 cf).1 (Aae (adv prog N 100000 cf).1.s k α E xs))):G ρ N D0 Q As η0 m0 cf:=⟨go_lit Cn hE e g.h⟩
theorem CD {k:Nat}{α:Type}(E:α→List D)(xs:List α)(hE: ∀x,(E x).length=k)
 (e:(litG prog (adv prog N 100000 cf).1,((adv prog N 100000 cf).2++Bp (adv prog N 100000 cf).1).map (·.1))=(some ((xs.flatMap E).map dv,xs.length,k,true),((adv prog N 100000 cf).2++Bp (adv prog N 100000 cf).1).map (·.2)))
 (g:G ρ N D0 Q As η0 m0 (BF N (adv prog N 100000 cf).1 (.d (.sl α E xs)) [])):G ρ N D0 Q As η0 m0 cf:=⟨Acg Cn hE e g.h⟩
theorem U3 {k:Nat}{α:Type}(E:α→List D)(xs:List α)(hE: ∀x,(E x).length=k)
 (e:(Zd prog (adv prog N 100000 cf).1,((adv prog N 100000 cf).2++Bp (adv prog N 100000 cf).1).map (·.1))=(some ((xs.flatMap E).map dv,xs.length,k,true),((adv prog N 100000 cf).2++Bp (adv prog N 100000 cf).1).map (·.2)))
 (g:G ρ N D0 Q As η0 m0 (push N (adv prog N 100000 cf).1 (Zc prog (adv prog N 100000 cf).1 α E xs))):G ρ N D0 Q As η0 m0 cf:=⟨Acf Cn hE e g.h⟩
theorem CX {α β:Type}{a:α}{b:β}(h:(Sum.inl a:α⊕β)= .inr b):False:=by cases h
theorem F3 {α β:Type}{a:α}{b:β}(h:(Sum.inr b:α⊕β)= .inl a):False:=by cases h
theorem A6 {α β:Type}{a:α}{k:α→β}{r:β}(h:bnd a k=r):k a=r:=h
theorem Zx {α:Type}{E:α→List D}{xs:List α}{j:Int}{x:α}(hq:gOf (adv prog N 100000 cf).1=true→idx xs j=some x)
 (e:((U2 prog (adv prog N 100000 cf).1).map (fun r=>(r.1,r.2.1,r.2.2.2.2.1)),((adv prog N 100000 cf).2++Bp (adv prog N 100000 cf).1).map (·.1))=(some (.sl α E xs,j,true),((adv prog N 100000 cf).2++Bp (adv prog N 100000 cf).1).map (·.2)))
 (g:G ρ N D0 Q As η0 m0 (BF N (adv prog N 100000 cf).1 (Zk prog (adv prog N 100000 cf).1) (Zl prog (adv prog N 100000 cf).1))):G ρ N D0 Q As η0 m0 cf:=⟨Acj Cn hq e g.h⟩
theorem gldO {k fo nn:Nat}{ag:Bool}{α:Type}{E:α→List D}{xs:List α}{j:Int}{x:α}(hE: ∀x,(E x).length=k)(hq:gOf (adv prog N 100000 cf).1=true→idx xs j=some x)
 (e:((ldOP prog (adv prog N 100000 cf).1).map (fun r=>(r.1,r.2.1,r.2.2.1,r.2.2.2.1,r.2.2.2.2.1,r.2.2.2.2.2.1,r.2.2.2.2.2.2.1)),((adv prog N 100000 cf).2++Bp (adv prog N 100000 cf).1).map (·.1))=(some (.sl α E xs,j,fo,nn,ag,k,true),((adv prog N 100000 cf).2++Bp (adv prog N 100000 cf).1).map (·.2)))
 (g:G ρ N D0 Q As η0 m0 (BF N (adv prog N 100000 cf).1 (pkA ag ((((E x).drop fo).take nn).map .d)) (ldOT prog (adv prog N 100000 cf).1))):G ρ N D0 Q As η0 m0 cf:=⟨go_ldO Cn hE hq e g.h⟩
theorem gstO {k:Nat}{α:Type}{E:α→List D}{xs:List α}{j:Int}{z0:α}(z:α)(hE: ∀x,(E x).length=k)(hq:idx xs j=some z0)
 (e:((stOP prog (adv prog N 100000 cf).1).map (fun r=>(r.1,r.2.1,r.2.2.1,r.2.2.2.1,r.2.2.2.2.1,r.2.2.2.2.2.1)),((adv prog N 100000 cf).2++Bp (adv prog N 100000 cf).1).map (·.1))=(some (.sl α E xs,j,0,(E z).map dv,k,true),((adv prog N 100000 cf).2++Bp (adv prog N 100000 cf).1).map (·.2)))
 (g:G ρ N D0 Q As η0 m0 (push N (adv prog N 100000 cf).1 (stOS prog (adv prog N 100000 cf).1 k α E (xs.set j.toNat z)))):G ρ N D0 Q As η0 m0 cf:=⟨go_stO Cn hE hq e g.h⟩
theorem gidxV {k:Nat}{ag:Bool}{α:Type}{E:α→List D}(xs:List α){j:Int}{x:α}(hE: ∀x,(E x).length=k)(hq:gOf (adv prog N 100000 cf).1=true→idx xs j=some x)
 (e:(Ab4 prog (adv prog N 100000 cf).1,((adv prog N 100000 cf).2++Bp (adv prog N 100000 cf).1).map (·.1))=(some ((xs.flatMap E).map dv,j,xs.length,k,ag,true),((adv prog N 100000 cf).2++Bp (adv prog N 100000 cf).1).map (·.2)))
 (g:G ρ N D0 Q As η0 m0 (BF N (adv prog N 100000 cf).1 (pkA ag ((E x).map .d)) [])):G ρ N D0 Q As η0 m0 cf:=⟨Ach Cn xs hE hq e g.h⟩
theorem Qv {k b:Nat}{α:Type}{E:α→List D}{xs ys zs:List α}(hE: ∀x,(E x).length=k)(hq:app b xs ys=some zs)
 (e:(appK prog (adv prog N 100000 cf).1,((adv prog N 100000 cf).2++Bp (adv prog N 100000 cf).1).map (·.1))=(some (.sl α E xs,.sl α E ys,b,k,true),((adv prog N 100000 cf).2++Bp (adv prog N 100000 cf).1).map (·.2)))
 (g:G ρ N D0 Q As η0 m0 (push N (adv prog N 100000 cf).1 (appS prog (adv prog N 100000 cf).1.s (adv prog N 100000 cf).1 k α E zs))):G ρ N D0 Q As η0 m0 cf:=⟨go_app Cn hE hq e g.h⟩
theorem AH {fn:Func}{n0 n1:Nat}{er:AV}{eobs:List AObj}(hd: ∀n,η0 n≠none→n<n0)
 (e:(endL prog fn (adv prog N 100000 cf).1 er eobs n0 n1,(AcA prog fn (adv prog N 100000 cf).1 er eobs).isSome,((adv prog N 100000 cf).2).map (·.1))=(endR prog fn (adv prog N 100000 cf).1 er eobs,true,((adv prog N 100000 cf).2).map (·.2))):
 G ρ N D0 (UT prog N fn (Mw As η0 m0 (is er eobs n1))) As η0 m0 cf:=⟨AaK Cn hd e ⟨rfl,rfl,rfl⟩⟩
theorem Ms {fn:Func}{n0 n1:Nat}{β:Type}{r:β}{A:β→AV}{O:β→List AObj}{ov:Value}{X:World→Prop}(hd: ∀n,η0 n≠none→n<n0)
 (e:(endL prog fn (adv prog N 100000 cf).1 (A r) (O r) n0 n1,(AcA prog fn (adv prog N 100000 cf).1 (A r) (O r)).isSome,((adv prog N 100000 cf).2).map (·.1))=(endR prog fn (adv prog N 100000 cf).1 (A r) (O r),true,((adv prog N 100000 cf).2).map (·.2))):
 G ρ N D0 (YX prog N fn (Mw As η0 m0 (Pos (some r) A O n1)) ov X) As η0 m0 cf:=⟨(AaK Cn hd e ⟨r,rfl,rfl,rfl,rfl⟩).mono AbN⟩
theorem LC {k:FuncId}{ea:List AV}{eobs:List AObj}{n0 n1:Nat}{ov:Value}{β γ:Type}{A:β→AV}{O:β→List AObj}{Xp:Prop}{fn:Func}{R:Value→World→Prop}(hs:Sb prog k ea eobs n0 ov (Pos (none:Option β) A O n1) Xp)
  (e:(Qm (adv prog N 100000 cf).1 ea eobs n0,Oi (adv prog N 100000 cf).1,((adv prog N 100000 cf).2++Bp (adv prog N 100000 cf).1).map (·.1))=
   (some (k,(Kf (adv prog N 100000 cf).1 ea eobs).1,(Kf (adv prog N 100000 cf).1 ea eobs).2,true),true,((adv prog N 100000 cf).2++Bp (adv prog N 100000 cf).1).map (·.2))):G ρ N D0 (YX prog N fn R ov (Ve As m0 ((none:Option γ)=none))) As η0 m0 cf:=
 ⟨Acb Cn hs TQ rfl e⟩
theorem sb {k:FuncId}{fn:Func}{c:Code}{args:List AV}{obs:List AObj}{n0:Nat}{ov:Value}{Po:AV→List AObj→Nat→Prop}{Xp:Prop}(hc: ∀(a:Array Value) w,(callFunc k a).run prog w= .ok (.enter k a) w)(hf:prog.funcs[k]? =some fn)(hb:fn.body=some c)(hN:fn.ntmps=N)
  (hle:Nat.ble args.length N=true) (h: ∀D0 As η0 m0,(∀n,η0 n≠none→n<n0)→G none N D0 (YX prog N fn (Mw As η0 m0 Po) ov (Ve As m0 Xp)) As η0 m0 ⟨SM args obs n0,.code c,[]⟩):Sb prog k args obs n0 ov Po Xp:=
 sb_of hc hf hb hN hle fun a b c d e=>(h a b c d e).h
theorem gat {c:Code}{K:List Kt}{η:Env}{m:Mem}{f:Fr}{w:World}(s:AS)(gm:Gm As s η m f w)(g:G ρ N D0 Q As η m ⟨s,.code c,K⟩):wpc ρ prog N D0 c (pk ρ prog N D0 Q K) f w:=g.h η m f w Env.le_refl (Mem.rfl' m) gm
theorem gthrow {γ:Type}{t:TypeId}{fn:Func}{R:Value→World→Prop}(hc:prog.concrete t=true)(e:(VM N (adv prog N 100000 cf).1,((adv prog N 100000 cf).2).map (·.1))=(some t,((adv prog N 100000 cf).2).map (·.2))):
 G ρ N D0 (YX prog N fn R (.iface t (.agg #[])) (Ve As m0 ((none:Option γ)=none))) As η0 m0 cf:=⟨Zr Cn hc rfl e⟩
theorem gretG {n0:Nat}{ι:Type}{J:ι→AS}{ok:ι→Prop}{ov:Value}{Jx:Fr→World→Prop}(x:ι)(hx:ok x)(hd: ∀n,η0 n≠none→n<n0)
 (e:(Te (adv prog N 100000 cf).1,vwL (adv prog N 100000 cf).1.s (J x) n0,(vwP (adv prog N 100000 cf).1.s (J x)).isSome,((adv prog N 100000 cf).2).map (·.1))=(true,vwR (adv prog N 100000 cf).1.s (J x),true,((adv prog N 100000 cf).2).map (·.2))):
 G ρ N D0 (outG (Rl As η0 m0 J ok) ov Jx) As η0 m0 cf:=⟨Ab9 Cn x hx hd e⟩
theorem Zq {k:FuncId}{ea:List AV}{eobs:List AObj}{n0 n1 n2:Nat}{ov:Value}{β:Type}{A:β→AV}{O:β→List AObj}{Xp:Prop}{Je:Fr→World→Prop}{J:AS}{ok:Prop}(hs:Sb prog k ea eobs n0 ov (Pos (none:Option β) A O n2) Xp)(hx:ok)(hd: ∀n,η0 n≠none→n<n1)
 (e:(Qm (adv prog N 100000 cf).1 ea eobs n0,Oi (adv prog N 100000 cf).1,((adv prog N 100000 cf).2++Bp (adv prog N 100000 cf).1).map (·.1))=
  (some (k,(Kf (adv prog N 100000 cf).1 ea eobs).1,(Kf (adv prog N 100000 cf).1 ea eobs).2,true),true,((adv prog N 100000 cf).2++Bp (adv prog N 100000 cf).1).map (·.2)))
 (e2:(vwL (Aal (adv prog N 100000 cf).1 ea eobs) J n1,(vwP (Aal (adv prog N 100000 cf).1 ea eobs) J).isSome)=(vwR (Aal (adv prog N 100000 cf).1 ea eobs) J,true)):
 G ρ N D0 (outG Je ov (Rl As η0 m0 (fun _:Unit=>J) (fun _=>ok))) As η0 m0 cf:=⟨Aca Cn hs TQ hx hd e e2⟩
theorem gb {n0:Nat}{ι:Type}{J:ι→AS}{ok:ι→Prop}{Jp:Fr→World→Prop}(bk:Bk As η0 m0 J ok Jp)(hd: ∀n,η0 n≠none→n<n0)(x:ι)(hx:ok x)
 (e:(AcT (adv prog N 100000 cf).1,vwL (adv prog N 100000 cf).1.s (J x) n0,(vwP (adv prog N 100000 cf).1.s (J x)).isSome,((adv prog N 100000 cf).2).map (·.1))=(some Jp,vwR (adv prog N 100000 cf).1.s (J x),true,((adv prog N 100000 cf).2).map (·.2))):
 G ρ N D0 Q As η0 m0 cf:=⟨Zv Cn bk x hx hd e⟩
theorem gjU (id:Nat){ι:Type}(J:ι→AS)(ok:ι→Prop)(e:(Mg (Hg id prog N 100000 cf).1,((Hg id prog N 100000 cf).2).map (·.1))=(true,((Hg id prog N 100000 cf).2).map (·.2)))
 (h1: ∀Jp,Bk As η0 m0 J ok Jp→G ρ N D0 Q As η0 m0 (ctnC (Hg id prog N 100000 cf).1 Jp)) (h2: ∀x,ok x→G ρ N D0 Q As η0 m0 ⟨J x,.pop,(Hg id prog N 100000 cf).1.K⟩):G ρ N D0 Q As η0 m0 cf:=⟨Zt Cn J ok e (h1 _ ⟨fun _ _ h=>h⟩).h fun x hx=>(h2 x hx).h⟩
theorem gj {ι:Type}(J:ι→AS)(ok:ι→Prop)(e:(Mg (adv prog N 100000 cf).1,((adv prog N 100000 cf).2).map (·.1))=(true,((adv prog N 100000 cf).2).map (·.2)))
 (h1: ∀Jp,Bk As η0 m0 J ok Jp→G ρ N D0 Q As η0 m0 (ctnC (adv prog N 100000 cf).1 Jp)) (h2: ∀x,ok x→G ρ N D0 Q As η0 m0 ⟨J x,.pop,(adv prog N 100000 cf).1.K⟩):G ρ N D0 Q As η0 m0 cf:=⟨Xt Cn J ok e (h1 _ ⟨fun _ _ h=>h⟩).h fun x hx=>(h2 x hx).h⟩
theorem gl {n0:Nat}{ι:Type}(hd: ∀n,η0 n≠none→n<n0)(J:ι→AS)(pre:ι→Prop)(μ:ι→Nat)(x0:ι)(hx:pre x0)
 (e:((Aax (adv prog N 100000 cf).1).isSome,vwL (adv prog N 100000 cf).1.s (J x0) n0,(vwP (adv prog N 100000 cf).1.s (J x0)).isSome,((adv prog N 100000 cf).2).map (·.1))=(true,vwR (adv prog N 100000 cf).1.s (J x0),true,((adv prog N 100000 cf).2).map (·.2)))
 (h: ∀x,pre x→∀Jp,Bk As η0 m0 J (fun y=>pre y∧μ y<μ x) Jp→G ρ N D0 Q As η0 m0 (rndC (adv prog N 100000 cf).1 (J x) Jp)):G ρ N D0 Q As η0 m0 cf:=⟨Ace Cn J pre μ x0 hx hd e fun x hx=>(h x hx _ ⟨fun _ _ h=>h⟩).h⟩
theorem GK {n i:Nat}(hlt:i<n)(hn:n≤9223372036854775807):n-(w64 ((i:Int)+1)).toNat<n-((i:Int)).toNat:=by
 rw[AY hlt hn]; omega
theorem Mr (id:Nat){α:Type}{E:α→List D}{xs:List α}(t:Nat)(e:(Mg (Hg id prog N 100000 cf).1,lenK (Hg id prog N 100000 cf).1.s t,((Hg id prog N 100000 cf).2).map (·.1))=(true,some (.sl α E xs),((Hg id prog N 100000 cf).2).map (·.2)))
 (h:xs.length≤9223372036854775807→G ρ N D0 Q As η0 m0 (Hg id prog N 100000 cf).1):G ρ N D0 Q As η0 m0 cf:=⟨go_len Cn t e fun q=>(h q).h⟩
theorem AaL {α:Type}(E:α→List D)(t sz:Nat)
 (e:(JT (adv prog N 100000 cf).1,Kk (get (adv prog N 100000 cf).1.s.sl t),((adv prog N 100000 cf).2).map (·.1))=(true,true,((adv prog N 100000 cf).2).map (·.2)))
 (g:G ρ N D0 Q As η0 m0 (nilC (adv prog N 100000 cf).1 t sz α E)):G ρ N D0 Q As η0 m0 cf:=⟨go_nil Cn t sz e g.h⟩
theorem P6 (id:Nat){α:Type}(E:α→List D)(t sz:Nat)
 (e:(JT (Hg id prog N 100000 cf).1,Kk (get (Hg id prog N 100000 cf).1.s.sl t),((Hg id prog N 100000 cf).2).map (·.1))=(true,true,((Hg id prog N 100000 cf).2).map (·.2)))
 (g:G ρ N D0 Q As η0 m0 (nilC (Hg id prog N 100000 cf).1 t sz α E)):G ρ N D0 Q As η0 m0 cf:=⟨Acd Cn t sz e g.h⟩
theorem gnilBU (id:Nat){α:Type}(E:α→List D)(t j sz:Nat)
 (e:(JT (Hg id prog N 100000 cf).1,(SA (Hg id prog N 100000 cf).1.s t j).isSome,((Hg id prog N 100000 cf).2).map (·.1))=(true,true,((Hg id prog N 100000 cf).2).map (·.2)))
 (g:G ρ N D0 Q As η0 m0 (AbS (Hg id prog N 100000 cf).1 t j sz α E)):G ρ N D0 Q As η0 m0 cf:=⟨Zs Cn t j sz e g.h⟩
theorem gcG {c:Bool}{k:FuncId}{ea:List AV}{r:AV}(hs:c=true→Sf prog k ea r)
 (e:(gOf (adv prog N 100000 cf).1,ZN (adv prog N 100000 cf).1 ea,ea.all (okA 0),((adv prog N 100000 cf).2++Bp (adv prog N 100000 cf).1).map (·.1))=(c,some (k,ea),true,((adv prog N 100000 cf).2++Bp (adv prog N 100000 cf).1).map (·.2)))
 (g:G ρ N D0 Q As η0 m0 (Lx N (adv prog N 100000 cf).1 r)):G ρ N D0 Q As η0 m0 cf:=gc (fun h=>hs (Eq.trans (Eq.symm (congrArg Prod.fst e)) h)) (congrArg Prod.snd e) g
theorem Nw {c:Bool}{k:Nat}{α:Type}{E:α→List D}{xs:List α}{j:Int}{x:α}(hE: ∀x,(E x).length=k)(hq:c=true→idx xs j=some x)
 (e:(gOf (adv prog N 100000 cf).1,(idxK prog (adv prog N 100000 cf).1).map (fun r=>(r.1,r.2.1,r.2.2.1)),((adv prog N 100000 cf).2++Bp (adv prog N 100000 cf).1).map (·.1))=(c,some (.sl α E xs,j,k),((adv prog N 100000 cf).2++Bp (adv prog N 100000 cf).1).map (·.2)))
 (g:G ρ N D0 Q As η0 m0 (BF N (adv prog N 100000 cf).1 (.d (.pf (E x))) (idxT prog (adv prog N 100000 cf).1))):G ρ N D0 Q As η0 m0 cf:=Ff hE (fun h=>hq (Eq.trans (Eq.symm (congrArg Prod.fst e)) h)) (congrArg Prod.snd e) g
end
end Go.Proofs.YtibojdgdjhngiaaGreatDoor
end
section
namespace Go.Ax
open Go Go.Gw
structure Br (α:Type) [GoT α](E:α→List D):Prop where
 to: ∀{m:Mem} {cs:List Value} {x:α},GoT.rep m cs x→FRL m (E x) cs
 of: ∀{m:Mem} {cs:List Value} {x:α},FRL m (E x) cs→GoT.rep m cs x
 len: ∀x,(E x).length=GoT.sz α
theorem FRL.c1 {m:Mem}{d:D}{v:Value}(h:FR m d v):FRL m [d] [v]:= .cons h .nil
theorem FRL.c1_inv {m:Mem}{d:D}{cs:List Value}(h:FRL m [d] cs): ∃v,cs=[v]∧FR m d v:=by
 obtain⟨v,us,rfl,h1,h2⟩:=h.cons_inv;have:=h2.nil_inv; subst this;exact⟨v,rfl,h1⟩
theorem FR.i_inv {m:Mem}{n}{v:Value}(h:FR m (.i n) v):v=vI n:=by cases h; rfl
theorem FR.u_inv {m:Mem}{n}{v:Value}(h:FR m (.u n) v):v=vU n:=by cases h; rfl
theorem FR.b_inv {m:Mem}{n}{v:Value}(h:FR m (.b n) v):v=vB n:=by cases h; rfl
theorem FR.t_inv {m:Mem}{n}{v:Value}(h:FR m (.t n) v):v=vb n:=by cases h; rfl
theorem FR.s_inv {m:Mem}{n}{v:Value}(h:FR m (.s n) v):v=vS n:=by cases h; rfl
theorem Br.i:Br Int (fun n=> [.i n]):=⟨fun h=>by have h:_=_:=h; subst h; exact .c1 (.i _),fun h=>by obtain⟨v,rfl,g⟩:=FRL.c1_inv h; exact congrArg (fun z=> [z]) g.i_inv,fun _=>rfl⟩
theorem Br.u:Br UInt64 (fun n=> [.u n]):=⟨fun h=>by have h:_=_:=h; subst h; exact .c1 (.u _),fun h=>by obtain⟨v,rfl,g⟩:=FRL.c1_inv h; exact congrArg (fun z=> [z]) g.u_inv,fun _=>rfl⟩
theorem Br.b:Br UInt8 (fun n=> [.b n]):=⟨fun h=>by have h:_=_:=h; subst h; exact .c1 (.b _),fun h=>by obtain⟨v,rfl,g⟩:=FRL.c1_inv h; exact congrArg (fun z=> [z]) g.b_inv,fun _=>rfl⟩
theorem Br.t:Br Bool (fun n=> [.t n]):=⟨fun h=>by have h:_=_:=h; subst h; exact .c1 (.t _),fun h=>by obtain⟨v,rfl,g⟩:=FRL.c1_inv h; exact congrArg (fun z=> [z]) g.t_inv,fun _=>rfl⟩
theorem Br.s:Br ByteArray (fun n=> [.s n]):=⟨fun h=>by have h:_=_:=h; subst h; exact .c1 (.s _),fun h=>by obtain⟨v,rfl,g⟩:=FRL.c1_inv h; exact congrArg (fun z=> [z]) g.s_inv,fun _=>rfl⟩
theorem Br.pair {α β:Type} [GoT α] [GoT β]{E:α→List D}{F:β→List D}(a:Br α E)(b:Br β F):Br (α×β) (fun x=>E x.1++F x.2):=
 ⟨fun⟨c,d,e,h1,h2⟩=>by subst e; exact(a.to h1).append (b.to h2),fun {m cs x} h=>by
  have h1:=h.take (E x.1).length;have h2:=h.drop (E x.1).length;rw[List.take_left]at h1;rw[List.drop_left]at h2;exact⟨_,_,(List.take_append_drop _ _).symm,a.of h1,b.of h2⟩,fun x=>by
  rw[List.length_append,a.len,b.len]; rfl⟩
section
variable {α:Type} [GoT α]{E:α→List D}{m:Mem}{v:Value}
theorem Br.toL (b:Br α E): ∀{xs:List α} {cs:List Value},AP m cs xs→FRL m (xs.flatMap E) cs
 | [],cs,h=>by have h:cs=[]:=h; subst h; exact .nil
 |x::xs,cs,⟨c,d,e,h1,h2⟩=>by subst e; rw[List.flatMap_cons]; exact(b.to h1).append (b.toL h2)
theorem Br.ofL (b:Br α E): ∀{xs:List α} {cs:List Value},FRL m (xs.flatMap E) cs→AP m cs xs
 | [],cs,h=>show cs=[]from FRL.nil_inv (by simpa using h)
 |x::xs,cs,h=>by
  rw[List.flatMap_cons]at h;have h1:=h.take (E x).length;have h2:=h.drop (E x).length;rw[List.take_left]at h1;rw[List.drop_left]at h2;exact⟨_,_,(List.take_append_drop _ _).symm,b.of h1,b.ofL h2⟩
theorem Br.toS (b:Br α E){xs:List α}(h:SlR m v xs):FR m (.sl α E xs) v:=by
 obtain⟨cs,h1,h2⟩:=h;have:=b.toL h2;exact .sl h1 (fun x _=>b.len x) this.1 this.2
theorem Br.ofS (b:Br α E){xs:List α}(h:FR m (.sl α E xs) v):SlR m v xs:=by
 cases h with
 | @sl _ _ _ sz' _ cs h hE' hl hr=>
  refine⟨cs,?_,b.ofL ⟨hl,hr⟩⟩;cases xs with
  |nil=>
   have:cs=[]:=by simp at hl; exact List.length_eq_zero_iff.1 hl.symm
   subst this;exact⟨by simp,h.2.1,h.2.2⟩
  |cons x xs=>
   have:sz'=GoT.sz α:=by rw[←hE' x List.mem_cons_self,b.len x]
   subst this; exact h
theorem Br.sl (b:Br α E):Br (List α) (fun xs=> [.sl α E xs]):=
 ⟨fun⟨v,e,h⟩=>by subst e; exact .c1 (b.toS h),fun h=>by obtain⟨v,rfl,g⟩:=FRL.c1_inv h; exact⟨v,rfl,b.ofS g⟩,fun _=>rfl⟩
theorem Br.mk' {β:Type} [GoT β]{F:β→List D}(b:Br β F)(E:α→List D)(f:α→β)(hr: ∀(m:Mem) (cs:List Value) (x:α),GoT.rep m cs x=GoT.rep m cs (f x))(hE: ∀x,F (f x)=E x)(hs:GoT.sz α=GoT.sz β):Br α E:=
 ⟨fun h=>by rw[←hE]; rw[hr]at h; exact b.to h,fun h=>by rw[←hE]at h; rw[hr]; exact b.of h,fun x=>by rw[←hE,b.len,hs]⟩
theorem Br.toA (b:Br α E){η:Env}{x:α}{cs:List Value}(h:GoT.rep m cs x):Rel η m (.agg ((E x).map dv)) (.agg cs.toArray):=by
 have:=Bq.ofDv (η:=η) (b.to h);exact .agg this.1 this.2
theorem Br.ofA (b:Br α E){η:Env}{x:α}{v:Value}(h:Rel η m (.agg ((E x).map dv)) v): ∃cs,v= .agg cs.toArray∧GoT.rep m cs x:=by
 obtain⟨vs,rfl,g⟩:=h.agg_inv;exact⟨vs,rfl,b.of (FRL.ofRelv g)⟩
theorem Br.toR (b:Br α E){η:Env}{n sz:Nat}{cs:List Value}{xs:List α}(hs:GoT.sz α=sz)(hn:η n=some v)(h1:v.oneCell'=true)(h:AP m cs xs): ∀x,Gw.row sz v cs xs.length x→rep η m (.row n sz α E xs) x:=
 fun x hx=>⟨v,cs,hn,h1,b.toL h,fun x _=>(b.len x).trans hs,hx⟩
end
theorem YL {A B:Ow}{As Bs:List Ow}(h: ∀x,A x→B x)(k: ∀x,sepL As x→sepL Bs x): ∀x,sepL (A::As) x→sepL (B::Bs) x:=
 fun x ⟨h1,h2,a,s,d,e⟩=>⟨h1,h2,h h1 a,k h2 s,d,e⟩
theorem _root_.Go.Gw.St.impL {m:Mem}{As Bs:List Ow}{w:World}(S:St m As w)(h: ∀x,sepL As x→sepL Bs x):St m Bs w:=by
 obtain⟨x,sx,rx⟩:=S.own;exact⟨S.os,S.tape,S.output,x,h x sx,rx⟩
theorem Rel.tup' {η:Env}{m:Mem}{cs:List AV}{vs:List Value}(h:Bq η m cs vs):Rel η m (.tup cs) (.tuple vs.toArray):= .tup h.1 h.2
def Yv (l:List Value):Env:=fun n=>l[n]?
theorem HD {l:List Value}{k:Nat}(hk:l.length=k): ∀n,Yv l n≠none→n<k:=by
 intro n h;rcases Nat.lt_or_ge n l.length with q|q
 ·omega
 ·exact absurd (List.getElem?_eq_none q) h
theorem RT {η:Env}(hd: ∀n,η n≠none→n<0)(η':Env):η.le η':=fun n v h=>absurd (hd n (by rw[h]; simp)) (by omega)
def cvR (ob:List Tok):AV→AV→AV
 | .tup es,.tup az=> .tup (cvV ob es az).1
 |e,a=>(cvA ob e a).1
theorem AcB {ob:List Tok}{η:Env}{m:Mem}(k: ∀ns,Kn ob η m ns){e a:AV}{v:Value}(r:Rel η m a v):Rel η m (cvR ob e a) v:=by
 unfold cvR;split
 ·obtain⟨vs,rfl,h⟩:=r.tup_inv;exact .tup' (ND (k _) h)
 ·exact XJ (k _) r
theorem Sp.fz {P:Program}{k:FuncId}{args:List AV}{er er':AV}{eobs:List AObj}{n1:Nat}(h:Sp P k args [] 0 (is er eobs n1))
  (e:((enO 0 eobs).all (fun p=>IF p.2),okA 0 er',cvR (enO 0 eobs) er' er)=(true,true,er')):Sf P k args er':=by
 simp only[Prod.mk.injEq]at e;obtain⟨e1,e2,e3⟩:=e;refine⟨h.1,fun η m As w vs hv hd S=>AB.mono (h.2 η m As w vs hv hd S) ?_⟩;rintro v w' ⟨M,η',r,obs',n1',hle,hη,⟨rfl,rfl,rfl⟩,hdom,hR,S'⟩;rw[←Jo (k:=0)]at S';obtain⟨M2,l2,K,S2⟩:=KD e1 S';have KN: ∀ns,Kn (enO 0 obs') η' M2 ns:=fun ns n hn d hd=>by
  obtain⟨p,hf,hp,_,hnm⟩:=K7 hd;obtain⟨v,a,b⟩:=K p (FD hf);rw[hnm]at a; rw[hp]at b; exact⟨v,a,b⟩
 have hr:=AcB KN (e:=er') (hR.up Env.le_refl l2);rw[e3]at hr;exact⟨M2,none0,er',[],0,Mem.tr hle l2,RT hd _,⟨rfl,rfl,rfl⟩,fun n h=>absurd rfl h,WW (fun k hk=>absurd hk (by omega)) e2 hr,S2⟩
theorem Sp.nil0 {P:Program}{k:FuncId}{args:List AV}{sz:Nat}{α:Type}{E:α→List D}{Po:AV→List AObj→Nat→Prop}(h:Sp P k (.ow 0::args) [.row 0 sz α E []] 1 Po)(ha:args.all (okA 0)=true):Sp P k (.d (.v (.slice none 0 0))::args) [] 0 Po:=by
 refine⟨h.1,fun η m As w vs hv hd S=> ?_⟩;obtain⟨v,us,rfl,h1,h2⟩:=hv.cons_inv;have hvv:v= .slice none 0 0:=by have:=h1.dd; cases this; rfl
 subst hvv;have he:η.le (η.put 0 (.slice none 0 0)):=Env.le_put (by cases q:η 0 with|none=>rfl|some u=>exact absurd (hd 0 (by rw[q]; simp)) (by omega));have S1:St m (rep (η.put 0 (.slice none 0 0)) m (.row 0 sz α E [])::As) w:=by
  exact St.closeRow (η:=η.put 0 (.slice none 0 0)) (n:=0) (E:=E) (xs:=[]) Env.put_self rfl (by simpa using FRL.nil) (fun _ h=>by cases h) (St.rowNil S sz)
 have:=h.2 (η.put 0 (.slice none 0 0)) m As w (.slice none 0 0::us) (.cons (.ow Env.put_self rfl) (Sy (n:=0) (fun k hk=>absurd hk (by omega)) ha (h2.up he (Mem.rfl' m)))) (fun n hn=>by
  rcases Env.put_dom hn with q|q
  ·have:=hd n q; omega
  ·omega) S1
 refine AB.mono this ?_;rintro r w' ⟨M,η',r',obs',n1,a,b,c⟩;exact⟨M,η',r',obs',n1,a,Env.le_tr he b,c⟩
end Go.Ax
end
section
namespace Go.Proofs.YtibojdgdjhngiaaGreatDoor
open Go Go.Gw Go.Ax Tryz
def str_0:ByteArray:=⟨#[0,1,2,2,3,3,3,3,4,4,4,4,4,4,4,4,5,5,5,5,5,5,5,5,5,5,5,5,5,5,5,5,6,6,6,6,6,6,6,6,6,6,6,6,6,6,6,6,6,6,6,6,6,6,6,6,6,6,6,6,6,6,6,6,7,7,7,7,7,7,7,7,7,7,7,7,7,7,7,7,7,7,7,7,7,7,7,7,7,7,7,7,7,7,7,7,7,7,7,7,7,7,7,7,7,7,7,7,7,7,7,7,7,7,7,7,7,7,7,7,7,7,7,7,7,7,7,7,8,8,8,8,8,8,8,8,8,8,8,8,8,8,8,8,8,8,8,8,8,8,8,8,8,8,8,8,8,8,8,8,8,8,8,8,8,8,8,8,8,8,8,8,8,8,8,8,8,8,8,8,8,8,8,8,8,8,8,8,8,8,8,8,8,8,8,8,8,8,8,8,8,8,8,8,8,8,8,8,8,8,8,8,8,8,8,8,8,8,8,8,8,8,8,8,8,8,8,8,8,8,8,8,8,8,8,8,8,8,8,8,8,8,8,8,8,8,8,8,8,8,8,8,8,8,8,8]⟩
structure g_api_Leaf where
 Body:List UInt8
 At:Int
instance:GoT g_api_Leaf where
 sz:=GoT.sz ((List UInt8)×Int)
 rep m cs x:=GoT.rep (α:=(List UInt8)×Int) m cs (x.Body,x.At)
 len h:=GoT.len (α:=(List UInt8)×Int) h
 up l h:=GoT.up (α:=(List UInt8)×Int) l h
 one h:=GoT.one (α:=(List UInt8)×Int) h
instance:Inhabited g_api_Leaf:=⟨⟨default,default⟩⟩
structure Aj where
 Id:Int
 Key:UInt64
 Delay:Int
 L:List g_api_Leaf
 Hide:List Int
 Wait:List g_api_Leaf
instance:GoT Aj where
 sz:=GoT.sz (Int×UInt64×Int×(List g_api_Leaf)×(List Int)×(List g_api_Leaf))
 rep m cs x:=GoT.rep (α:=Int×UInt64×Int×(List g_api_Leaf)×(List Int)×(List g_api_Leaf)) m cs (x.Id,x.Key,x.Delay,x.L,x.Hide,x.Wait)
 len h:=GoT.len (α:=Int×UInt64×Int×(List g_api_Leaf)×(List Int)×(List g_api_Leaf)) h
 up l h:=GoT.up (α:=Int×UInt64×Int×(List g_api_Leaf)×(List Int)×(List g_api_Leaf)) l h
 one h:=GoT.one (α:=Int×UInt64×Int×(List g_api_Leaf)×(List Int)×(List g_api_Leaf)) h
instance:Inhabited Aj:=⟨⟨default,default,default,default,default,default⟩⟩
structure Dl where
 tag_:Int
 may_:Int
instance:Inhabited Dl:=⟨⟨default,default⟩⟩
structure g_api_Item where
 Tag:Int
 B:List UInt8
 L:List g_api_Item
instance:Inhabited g_api_Item:=⟨⟨default,default,default⟩⟩
def Ag (a:g_api_Item):List D:=[.i a.Tag,.sl _ eB a.B,.rs _ (fun a=> [.i a.Tag,.sl _ eB a.B]) (fun a=> []) (fun a=>a.L) a.L]
instance:GoT g_api_Item:=Qu Ag 3
theorem Yo {m:Mem}{cs:List Value}{x:g_api_Item}(h:GoT.rep m cs x): ∃v1,∃v2,cs=[vI x.Tag,v1,v2]∧SlR m v1 x.B∧SlR m v2 x.L:=by
 obtain⟨h,_⟩:=h;obtain⟨u0,us0,rfl,a0,g0⟩:=FRL.cons_inv h;cases a0;obtain⟨u1,us1,rfl,a1,g1⟩:=FRL.cons_inv g0;obtain⟨u2,us2,rfl,a2,g2⟩:=FRL.cons_inv g1;obtain rfl:=FRL.nil_inv g2;exact⟨u1,u2,rfl,Br.ofS Br.b a1,WY (VD a2) (fun _=>rfl)⟩
theorem PW {m:Mem}{x:g_api_Item}{v1:Value}{v2:Value}(h1:SlR m v1 x.B)(h2:SlR m v2 x.L):GoT.rep m [vI x.Tag,v1,v2] x:=⟨(FRL.cons (.i _) (FRL.cons (Br.toS Br.b h1) (FRL.cons (.rs (Sc h2)) FRL.nil))),rfl⟩
theorem LK:Br g_api_Item Ag:=⟨fun h=>h.1,fun h=>⟨h,rfl⟩,fun _=>rfl⟩
structure g_api_Sig where
 E:UInt64
 S:UInt64
instance:GoT g_api_Sig where
 sz:=GoT.sz (UInt64×UInt64)
 rep m cs x:=GoT.rep (α:=UInt64×UInt64) m cs (x.E,x.S)
 len h:=GoT.len (α:=UInt64×UInt64) h
 up l h:=GoT.up (α:=UInt64×UInt64) l h
 one h:=GoT.one (α:=UInt64×UInt64) h
instance:Inhabited g_api_Sig:=⟨⟨default,default⟩⟩
structure g_api_Promise where
 Log:Int
 At:Int
 Leaf:UInt64×UInt64
 Sig:g_api_Sig
instance:GoT g_api_Promise where
 sz:=GoT.sz (Int×Int×(UInt64×UInt64)×g_api_Sig)
 rep m cs x:=GoT.rep (α:=Int×Int×(UInt64×UInt64)×g_api_Sig) m cs (x.Log,x.At,x.Leaf,x.Sig)
 len h:=GoT.len (α:=Int×Int×(UInt64×UInt64)×g_api_Sig) h
 up l h:=GoT.up (α:=Int×Int×(UInt64×UInt64)×g_api_Sig) l h
 one h:=GoT.one (α:=Int×Int×(UInt64×UInt64)×g_api_Sig) h
instance:Inhabited g_api_Promise:=⟨⟨default,default,default,default⟩⟩
structure g_api_Cert where
 Serial:Int
 Issuer:ByteArray
 Subject:ByteArray
 Key:UInt64
 Names:List ByteArray
 From:Int
 Until:Int
 Ca:Bool
 Depth:Int
 Permit:List ByteArray
 Proms:List g_api_Promise
 Sig:g_api_Sig
instance:GoT g_api_Cert where
 sz:=GoT.sz (Int×ByteArray×ByteArray×UInt64×(List ByteArray)×Int×Int×Bool×Int×(List ByteArray)×(List g_api_Promise)×g_api_Sig)
 rep m cs x:=GoT.rep (α:=Int×ByteArray×ByteArray×UInt64×(List ByteArray)×Int×Int×Bool×Int×(List ByteArray)×(List g_api_Promise)×g_api_Sig) m cs (x.Serial,x.Issuer,x.Subject,x.Key,x.Names,x.From,x.Until,x.Ca,x.Depth,x.Permit,x.Proms,x.Sig)
 len h:=GoT.len (α:=Int×ByteArray×ByteArray×UInt64×(List ByteArray)×Int×Int×Bool×Int×(List ByteArray)×(List g_api_Promise)×g_api_Sig) h
 up l h:=GoT.up (α:=Int×ByteArray×ByteArray×UInt64×(List ByteArray)×Int×Int×Bool×Int×(List ByteArray)×(List g_api_Promise)×g_api_Sig) l h
 one h:=GoT.one (α:=Int×ByteArray×ByteArray×UInt64×(List ByteArray)×Int×Int×Bool×Int×(List ByteArray)×(List g_api_Promise)×g_api_Sig) h
instance:Inhabited g_api_Cert:=⟨⟨default,default,default,default,default,default,default,default,default,default,default,default⟩⟩
structure Am where
 l_:List g_api_Item
instance:GoT Am where
 sz:=GoT.sz ((List g_api_Item))
 rep m cs x:=GoT.rep (α:=(List g_api_Item)) m cs x.l_
 len h:=GoT.len (α:=(List g_api_Item)) h
 up l h:=GoT.up (α:=(List g_api_Item)) l h
 one h:=GoT.one (α:=(List g_api_Item)) h
instance:Inhabited Am:=⟨⟨default⟩⟩
structure Ah where
 name_:ByteArray
 key_:UInt64
instance:GoT Ah where
 sz:=GoT.sz (ByteArray×UInt64)
 rep m cs x:=GoT.rep (α:=ByteArray×UInt64) m cs (x.name_,x.key_)
 len h:=GoT.len (α:=ByteArray×UInt64) h
 up l h:=GoT.up (α:=ByteArray×UInt64) l h
 one h:=GoT.one (α:=ByteArray×UInt64) h
instance:Inhabited Ah:=⟨⟨default,default⟩⟩
structure AD where
 Who:ByteArray
 Names:List ByteArray
 Key:UInt64
 At:Int
instance:GoT AD where
 sz:=GoT.sz (ByteArray×(List ByteArray)×UInt64×Int)
 rep m cs x:=GoT.rep (α:=ByteArray×(List ByteArray)×UInt64×Int) m cs (x.Who,x.Names,x.Key,x.At)
 len h:=GoT.len (α:=ByteArray×(List ByteArray)×UInt64×Int) h
 up l h:=GoT.up (α:=ByteArray×(List ByteArray)×UInt64×Int) l h
 one h:=GoT.one (α:=ByteArray×(List ByteArray)×UInt64×Int) h
instance:Inhabited AD:=⟨⟨default,default,default,default⟩⟩
structure Bd where
 Log:Int
 Size:Int
 Root:UInt64×UInt64
 At:Int
 Sig:g_api_Sig
instance:GoT Bd where
 sz:=GoT.sz (Int×Int×(UInt64×UInt64)×Int×g_api_Sig)
 rep m cs x:=GoT.rep (α:=Int×Int×(UInt64×UInt64)×Int×g_api_Sig) m cs (x.Log,x.Size,x.Root,x.At,x.Sig)
 len h:=GoT.len (α:=Int×Int×(UInt64×UInt64)×Int×g_api_Sig) h
 up l h:=GoT.up (α:=Int×Int×(UInt64×UInt64)×Int×g_api_Sig) l h
 one h:=GoT.one (α:=Int×Int×(UInt64×UInt64)×Int×g_api_Sig) h
instance:Inhabited Bd:=⟨⟨default,default,default,default,default⟩⟩
structure B4 where
 Log:Int
 Key:UInt64
 Delay:Int
instance:GoT B4 where
 sz:=GoT.sz (Int×UInt64×Int)
 rep m cs x:=GoT.rep (α:=Int×UInt64×Int) m cs (x.Log,x.Key,x.Delay)
 len h:=GoT.len (α:=Int×UInt64×Int) h
 up l h:=GoT.up (α:=Int×UInt64×Int) l h
 one h:=GoT.one (α:=Int×UInt64×Int) h
instance:Inhabited B4:=⟨⟨default,default,default⟩⟩
structure Ao where
 size_:Int
 root_:UInt64×UInt64
instance:GoT Ao where
 sz:=GoT.sz (Int×(UInt64×UInt64))
 rep m cs x:=GoT.rep (α:=Int×(UInt64×UInt64)) m cs (x.size_,x.root_)
 len h:=GoT.len (α:=Int×(UInt64×UInt64)) h
 up l h:=GoT.up (α:=Int×(UInt64×UInt64)) l h
 one h:=GoT.one (α:=Int×(UInt64×UInt64)) h
instance:Inhabited Ao:=⟨⟨default,default⟩⟩
structure JZ where
 Tag:Int
 Len:Int
 At:Int
 E:Int
instance:GoT JZ where
 sz:=GoT.sz (Int×Int×Int×Int)
 rep m cs x:=GoT.rep (α:=Int×Int×Int×Int) m cs (x.Tag,x.Len,x.At,x.E)
 len h:=GoT.len (α:=Int×Int×Int×Int) h
 up l h:=GoT.up (α:=Int×Int×Int×Int) l h
 one h:=GoT.one (α:=Int×Int×Int×Int) h
instance:Inhabited JZ:=⟨⟨default,default,default,default⟩⟩
structure Kl where
 L:List g_api_Item
 Bad:Bool
instance:GoT Kl where
 sz:=GoT.sz ((List g_api_Item)×Bool)
 rep m cs x:=GoT.rep (α:=(List g_api_Item)×Bool) m cs (x.L,x.Bad)
 len h:=GoT.len (α:=(List g_api_Item)×Bool) h
 up l h:=GoT.up (α:=(List g_api_Item)×Bool) l h
 one h:=GoT.one (α:=(List g_api_Item)×Bool) h
instance:Inhabited Kl:=⟨⟨default,default⟩⟩
structure E9 where
 lo_:UInt8
 hi_:UInt8
instance:GoT E9 where
 sz:=GoT.sz (UInt8×UInt8)
 rep m cs x:=GoT.rep (α:=UInt8×UInt8) m cs (x.lo_,x.hi_)
 len h:=GoT.len (α:=UInt8×UInt8) h
 up l h:=GoT.up (α:=UInt8×UInt8) l h
 one h:=GoT.one (α:=UInt8×UInt8) h
instance:Inhabited E9:=⟨⟨default,default⟩⟩
theorem Wq {m:Mem}{cs:List Value}{x:UInt64×UInt64×UInt64}(h:GoT.rep m cs x):cs=[vU x.1,vU x.2.1,vU x.2.2]:=by
 obtain⟨_,_,rfl,rfl,⟨_,_,rfl,rfl,rfl⟩⟩:=h;exact rfl
theorem Yt {m:Mem}{x:UInt64×UInt64×UInt64}:GoT.rep m [vU x.1,vU x.2.1,vU x.2.2] x:=⟨[vU x.1],[vU x.2.1,vU x.2.2],rfl,rfl,⟨[vU x.2.1],[vU x.2.2],rfl,rfl,rfl⟩⟩
theorem Vh {m:Mem}{cs:List Value}{x:AD}(h:GoT.rep m cs x): ∃v1,cs=[vS x.Who,v1,vU x.Key,vI x.At]∧SlR m v1 x.Names:=by
 obtain⟨_,_,rfl,rfl,⟨_,_,rfl,⟨v1,rfl,h1⟩,⟨_,_,rfl,rfl,rfl⟩⟩⟩:=h;exact⟨v1,rfl,h1⟩
theorem W4 {m:Mem}{x:AD}{v1:Value}(h1:SlR m v1 x.Names):GoT.rep m [vS x.Who,v1,vU x.Key,vI x.At] x:=⟨[vS x.Who],[v1,vU x.Key,vI x.At],rfl,rfl,⟨[v1],[vU x.Key,vI x.At],rfl,⟨_,rfl,h1⟩,⟨[vU x.Key],[vI x.At],rfl,rfl,rfl⟩⟩⟩
theorem EB {m:Mem}{cs:List Value}{x:UInt64×UInt64}(h:GoT.rep m cs x):cs=[vU x.1,vU x.2]:=by
 obtain⟨_,_,rfl,rfl,rfl⟩:=h;exact rfl
theorem Fk {m:Mem}{x:UInt64×UInt64}:GoT.rep m [vU x.1,vU x.2] x:=⟨[vU x.1],[vU x.2],rfl,rfl,rfl⟩
theorem EV {m:Mem}{cs:List Value}{x:Ao}(h:GoT.rep m cs x):cs=[vI x.size_,vU x.root_.1,vU x.root_.2]:=by
 obtain⟨_,_,rfl,rfl,⟨_,_,rfl,rfl,rfl⟩⟩:=h;exact rfl
theorem Hj {m:Mem}{x:Ao}:GoT.rep m [vI x.size_,vU x.root_.1,vU x.root_.2] x:=⟨[vI x.size_],[vU x.root_.1,vU x.root_.2],rfl,rfl,⟨[vU x.root_.1],[vU x.root_.2],rfl,rfl,rfl⟩⟩
theorem Yn {m:Mem}{cs:List Value}{x:g_api_Leaf}(h:GoT.rep m cs x): ∃v1,cs=[v1,vI x.At]∧SlR m v1 x.Body:=by
 obtain⟨_,_,rfl,⟨v1,rfl,h1⟩,rfl⟩:=h;exact⟨v1,rfl,h1⟩
theorem Y6 {m:Mem}{x:g_api_Leaf}{v1:Value}(h1:SlR m v1 x.Body):GoT.rep m [v1,vI x.At] x:=⟨[v1],[vI x.At],rfl,⟨_,rfl,h1⟩,rfl⟩
theorem UQ {m:Mem}{cs:List Value}{x:g_api_Promise}(h:GoT.rep m cs x):cs=[vI x.Log,vI x.At,vU x.Leaf.1,vU x.Leaf.2,vU x.Sig.E,vU x.Sig.S]:=by
 obtain⟨_,_,rfl,rfl,⟨_,_,rfl,rfl,⟨_,_,rfl,⟨_,_,rfl,rfl,rfl⟩,⟨_,_,rfl,rfl,rfl⟩⟩⟩⟩:=h;exact rfl
theorem Vk {m:Mem}{x:g_api_Promise}:GoT.rep m [vI x.Log,vI x.At,vU x.Leaf.1,vU x.Leaf.2,vU x.Sig.E,vU x.Sig.S] x:=⟨[vI x.Log],[vI x.At,vU x.Leaf.1,vU x.Leaf.2,vU x.Sig.E,vU x.Sig.S],rfl,rfl,⟨[vI x.At],[vU x.Leaf.1,vU x.Leaf.2,vU x.Sig.E,vU x.Sig.S],rfl,rfl,⟨[vU x.Leaf.1,vU x.Leaf.2],[vU x.Sig.E,vU x.Sig.S],rfl,⟨[vU x.Leaf.1],[vU x.Leaf.2],rfl,rfl,rfl⟩,⟨[vU x.Sig.E],[vU x.Sig.S],rfl,rfl,rfl⟩⟩⟩⟩
theorem PD {m:Mem}{cs:List Value}{x:Aj}(h:GoT.rep m cs x): ∃v1,∃v2,∃v3,cs=[vI x.Id,vU x.Key,vI x.Delay,v1,v2,v3]∧SlR m v1 x.L∧SlR m v2 x.Hide∧SlR m v3 x.Wait:=by
 obtain⟨_,_,rfl,rfl,⟨_,_,rfl,rfl,⟨_,_,rfl,rfl,⟨_,_,rfl,⟨v1,rfl,h1⟩,⟨_,_,rfl,⟨v2,rfl,h2⟩,⟨v3,rfl,h3⟩⟩⟩⟩⟩⟩:=h;exact⟨v1,v2,v3,rfl,h1,h2,h3⟩
theorem Me {m:Mem}{x:Aj}{v1:Value}{v2:Value}{v3:Value}(h1:SlR m v1 x.L)(h2:SlR m v2 x.Hide)(h3:SlR m v3 x.Wait):GoT.rep m [vI x.Id,vU x.Key,vI x.Delay,v1,v2,v3] x:=⟨[vI x.Id],[vU x.Key,vI x.Delay,v1,v2,v3],rfl,rfl,⟨[vU x.Key],[vI x.Delay,v1,v2,v3],rfl,rfl,⟨[vI x.Delay],[v1,v2,v3],rfl,rfl,⟨[v1],[v2,v3],rfl,⟨_,rfl,h1⟩,⟨[v2],[v3],rfl,⟨_,rfl,h2⟩,⟨_,rfl,h3⟩⟩⟩⟩⟩⟩
theorem Yp {m:Mem}{cs:List Value}{x:g_api_Cert}(h:GoT.rep m cs x): ∃v1,∃v2,∃v3,cs=[vI x.Serial,vS x.Issuer,vS x.Subject,vU x.Key,v1,vI x.From,vI x.Until,vb x.Ca,vI x.Depth,v2,v3,vU x.Sig.E,vU x.Sig.S]∧SlR m v1 x.Names∧SlR m v2 x.Permit∧SlR m v3 x.Proms:=by
 obtain⟨_,_,rfl,rfl,⟨_,_,rfl,rfl,⟨_,_,rfl,rfl,⟨_,_,rfl,rfl,⟨_,_,rfl,⟨v1,rfl,h1⟩,⟨_,_,rfl,rfl,⟨_,_,rfl,rfl,⟨_,_,rfl,rfl,⟨_,_,rfl,rfl,⟨_,_,rfl,⟨v2,rfl,h2⟩,⟨_,_,rfl,⟨v3,rfl,h3⟩,⟨_,_,rfl,rfl,rfl⟩⟩⟩⟩⟩⟩⟩⟩⟩⟩⟩⟩:=h;exact⟨v1,v2,v3,rfl,h1,h2,h3⟩
theorem Y7 {m:Mem}{x:g_api_Cert}{v1:Value}{v2:Value}{v3:Value}(h1:SlR m v1 x.Names)(h2:SlR m v2 x.Permit)(h3:SlR m v3 x.Proms):GoT.rep m [vI x.Serial,vS x.Issuer,vS x.Subject,vU x.Key,v1,vI x.From,vI x.Until,vb x.Ca,vI x.Depth,v2,v3,vU x.Sig.E,vU x.Sig.S] x:=⟨[vI x.Serial],[vS x.Issuer,vS x.Subject,vU x.Key,v1,vI x.From,vI x.Until,vb x.Ca,vI x.Depth,v2,v3,vU x.Sig.E,vU x.Sig.S],rfl,rfl,⟨[vS x.Issuer],[vS x.Subject,vU x.Key,v1,vI x.From,vI x.Until,vb x.Ca,vI x.Depth,v2,v3,vU x.Sig.E,vU x.Sig.S],rfl,rfl,⟨[vS x.Subject],[vU x.Key,v1,vI x.From,vI x.Until,vb x.Ca,vI x.Depth,v2,v3,vU x.Sig.E,vU x.Sig.S],rfl,rfl,⟨[vU x.Key],[v1,vI x.From,vI x.Until,vb x.Ca,vI x.Depth,v2,v3,vU x.Sig.E,vU x.Sig.S],rfl,rfl,⟨[v1],[vI x.From,vI x.Until,vb x.Ca,vI x.Depth,v2,v3,vU x.Sig.E,vU x.Sig.S],rfl,⟨_,rfl,h1⟩,⟨[vI x.From],[vI x.Until,vb x.Ca,vI x.Depth,v2,v3,vU x.Sig.E,vU x.Sig.S],rfl,rfl,⟨[vI x.Until],[vb x.Ca,vI x.Depth,v2,v3,vU x.Sig.E,vU x.Sig.S],rfl,rfl,⟨[vb x.Ca],[vI x.Depth,v2,v3,vU x.Sig.E,vU x.Sig.S],rfl,rfl,⟨[vI x.Depth],[v2,v3,vU x.Sig.E,vU x.Sig.S],rfl,rfl,⟨[v2],[v3,vU x.Sig.E,vU x.Sig.S],rfl,⟨_,rfl,h2⟩,⟨[v3],[vU x.Sig.E,vU x.Sig.S],rfl,⟨_,rfl,h3⟩,⟨[vU x.Sig.E],[vU x.Sig.S],rfl,rfl,rfl⟩⟩⟩⟩⟩⟩⟩⟩⟩⟩⟩⟩
def FN (p q:g_api_Sig):Bool:=[(p.E==q.E),(p.S==q.S)].all id
theorem SO {p q:g_api_Sig}:EqV Tryz.prog 2 40 (.agg ([vU p.E,vU p.S]:List Value).toArray) (.agg ([vU q.E,vU q.S]:List Value).toArray) (FN p q):=
 EqV.struct (k:=1) (cs:=[vU p.E,vU p.S]) (ds:=[vU q.E,vU q.S]) (bs:=[(p.E==q.E),(p.S==q.S)]) Tryz.underlying40 (by kernel_rfl) ⟨⟨by decide,_,_,fd1 Tryz.isAgg22 Tryz.sizeOf22 rfl,fd1 Tryz.isAgg22 Tryz.sizeOf22 rfl,EqV.mono (EqV.u64 Tryz.underlying22) (by decide)⟩,⟨⟨by decide,_,_,fd1 Tryz.isAgg22 Tryz.sizeOf22 rfl,fd1 Tryz.isAgg22 Tryz.sizeOf22 rfl,EqV.mono (EqV.u64 Tryz.underlying22) (by decide)⟩,trivial⟩⟩
def C1 (p q:g_api_Promise):Bool:=[(p.Log==q.Log),(p.At==q.At),(Jn p.Leaf q.Leaf),(FN p.Sig q.Sig)].all id
theorem XB {p q:g_api_Promise}:EqV Tryz.prog 3 82 (.agg ([vI p.Log,vI p.At,vU p.Leaf.1,vU p.Leaf.2,vU p.Sig.E,vU p.Sig.S]:List Value).toArray) (.agg ([vI q.Log,vI q.At,vU q.Leaf.1,vU q.Leaf.2,vU q.Sig.E,vU q.Sig.S]:List Value).toArray) (C1 p q):=
 EqV.struct (k:=2) (cs:=[vI p.Log,vI p.At,vU p.Leaf.1,vU p.Leaf.2,vU p.Sig.E,vU p.Sig.S]) (ds:=[vI q.Log,vI q.At,vU q.Leaf.1,vU q.Leaf.2,vU q.Sig.E,vU q.Sig.S]) (bs:=[(p.Log==q.Log),(p.At==q.At),(Jn p.Leaf q.Leaf),(FN p.Sig q.Sig)]) Tryz.underlying82 (by kernel_rfl) ⟨⟨by decide,_,_,fd1 Tryz.isAgg3 Tryz.sizeOf3 rfl,fd1 Tryz.isAgg3 Tryz.sizeOf3 rfl,EqV.mono (EqV.int Tryz.underlying3) (by decide)⟩,⟨⟨by decide,_,_,fd1 Tryz.isAgg3 Tryz.sizeOf3 rfl,fd1 Tryz.isAgg3 Tryz.sizeOf3 rfl,EqV.mono (EqV.int Tryz.underlying3) (by decide)⟩,⟨⟨by decide,_,_,fdA Tryz.isAgg38 Tryz.sizeOf38 rfl rfl,fdA Tryz.isAgg38 Tryz.sizeOf38 rfl rfl,EqV.mono (EqV.sum Tryz.underlying38 Tryz.underlying22 Tryz.sizeOf22 Tryz.isAgg22) (by decide)⟩,⟨⟨by decide,_,_,fdA Tryz.isAgg40 Tryz.sizeOf40 rfl rfl,fdA Tryz.isAgg40 Tryz.sizeOf40 rfl rfl,EqV.mono (SO) (by decide)⟩,trivial⟩⟩⟩⟩
def AJ (p q:Ah):Bool:=[(eqS p.name_ q.name_),(p.key_==q.key_)].all id
theorem U5 {p q:Ah}:EqV Tryz.prog 2 91 (.agg ([vS p.name_,vU p.key_]:List Value).toArray) (.agg ([vS q.name_,vU q.key_]:List Value).toArray) (AJ p q):=
 EqV.struct (k:=1) (cs:=[vS p.name_,vU p.key_]) (ds:=[vS q.name_,vU q.key_]) (bs:=[(eqS p.name_ q.name_),(p.key_==q.key_)]) Tryz.underlying91 (by kernel_rfl) ⟨⟨by decide,_,_,fd1 Tryz.isAgg9 Tryz.sizeOf9 rfl,fd1 Tryz.isAgg9 Tryz.sizeOf9 rfl,EqV.mono (EqV.str Tryz.underlying9) (by decide)⟩,⟨⟨by decide,_,_,fd1 Tryz.isAgg22 Tryz.sizeOf22 rfl,fd1 Tryz.isAgg22 Tryz.sizeOf22 rfl,EqV.mono (EqV.u64 Tryz.underlying22) (by decide)⟩,trivial⟩⟩
theorem LB {k:Ah}(x:Ah)(h:AJ k x=true):x=k:=by
 cases k; cases x;simp only[AJ,List.all_cons,List.all_nil,id,Bool.and_true,Bool.and_eq_true,J0,beq_iff_eq,Jn,Prod.mk.injEq]at h;simp[h]
def tab_2:List Dl:=[⟨1,305⟩,⟨2,149⟩,⟨4,306⟩,⟨12,307⟩,⟨48,310⟩]
def Ak (a:g_api_Leaf):List D:=[.sl _ eB a.Body,.i a.At]
def Cl (a:Aj):List D:=[.i a.Id,.u a.Key,.i a.Delay,.sl _ Ak a.L,.sl _ eI a.Hide,.sl _ Ak a.Wait]
def AM (a:UInt64×UInt64):List D:=[.u a.1,.u a.2]
def FO (a:Dl):List D:=[.i a.tag_,.v (fnV a.may_)]
def RD (a:g_api_Sig):List D:=[.u a.E,.u a.S]
def Ai (a:g_api_Promise):List D:=[.i a.Log,.i a.At,.u a.Leaf.1,.u a.Leaf.2,.u a.Sig.E,.u a.Sig.S]
def Aq (a:g_api_Cert):List D:=[.i a.Serial,.s a.Issuer,.s a.Subject,.u a.Key,.sl _ eS a.Names,.i a.From,.i a.Until,.t a.Ca,.i a.Depth,.sl _ eS a.Permit,.sl _ Ai a.Proms,.u a.Sig.E,.u a.Sig.S]
def Aw (a:Ah):List D:=[.s a.name_,.u a.key_]
def CJ (a:AD):List D:=[.s a.Who,.sl _ eS a.Names,.u a.Key,.i a.At]
def LG (a:Bd):List D:=[.i a.Log,.i a.Size,.u a.Root.1,.u a.Root.2,.i a.At,.u a.Sig.E,.u a.Sig.S]
def RE (a:B4):List D:=[.i a.Log,.u a.Key,.i a.Delay]
def XE (a:UInt64×UInt64×UInt64):List D:=[.u a.1,.u a.2.1,.u a.2.2]
def AaQ (a:JZ):List D:=[.i a.Tag,.i a.Len,.i a.At,.i a.E]
theorem HN:Br g_api_Leaf Ak:=Br.mk' (Br.pair (Br.sl Br.b) Br.i) Ak (fun x=>(x.Body,x.At)) (fun _ _ _=>rfl) (fun _=>rfl) rfl
theorem Js:Br (UInt64×UInt64) AM:=Br.mk' (Br.pair Br.u Br.u) AM (fun x=>x) (fun _ _ _=>rfl) (fun _=>rfl) rfl
theorem NJ:Br Aj Cl:=Br.mk' (Br.pair Br.i (Br.pair Br.u (Br.pair Br.i (Br.pair (Br.sl HN) (Br.pair (Br.sl Br.i) (Br.sl HN)))))) Cl (fun x=>(x.Id,x.Key,x.Delay,x.L,x.Hide,x.Wait)) (fun _ _ _=>rfl) (fun _=>rfl) rfl
theorem b_a3_eU:Br (UInt64×UInt64×UInt64) XE:=Br.mk' (Br.pair Br.u (Br.pair Br.u Br.u)) XE (fun x=>x) (fun _ _ _=>rfl) (fun _=>rfl) rfl
end Go.Proofs.YtibojdgdjhngiaaGreatDoor
end
