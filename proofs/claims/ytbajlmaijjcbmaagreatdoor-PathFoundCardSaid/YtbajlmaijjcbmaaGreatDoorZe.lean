/- Several texts, one behind the other. Conditions: none. -/
import Derived.Test.YtbajlmaijjcbmaaGreatDoorProg
import Derived.Test.YtbajlmaijjcbmaaGreatDoorZd
set_option linter.unusedSimpArgs false
set_option linter.unusedVariables false
set_option maxHeartbeats 20000000
set_option maxRecDepth 100000
section
namespace Go.Proofs.YtbajlmaijjcbmaaGreatDoor
open Go Go.Gw Go.Ax Tryz
theorem BW:prog.follows .mixedOrders=true:=rfl
structure G (ρ:Option Nat)(N:Nat)(D0:Dw)(Q:C5)(As:List Ow)(η0:Env)(m0:Mem)(cf:Cf):Prop where
 h:Ax.Go ρ prog N D0 Q As η0 m0 cf
abbrev ag (l:List D):AV:= .agg (l.map dv)
abbrev sl {α:Type}(E:α→List D)(xs:List α):AV:= .d (.sl α E xs)
abbrev eI (n:Int):List D:=[.i n]
abbrev eU (n:UInt64):List D:=[.u n]
abbrev eW (n:UInt32):List D:=[.w n]
abbrev eB (n:UInt8):List D:=[.b n]
abbrev eR (n:Int):List D:=[.r n]
abbrev eT (n:Bool):List D:=[.t n]
abbrev eS (n:ByteArray):List D:=[.s n]
abbrev eL {α:Type}(E:α→List D)(xs:List α):List D:=[.sl α E xs]
section
variable {ρ:Option Nat}{N:Nat}{D0:Dw}{Q:C5}{As:List Ow}{η0:Env}{m0:Mem}{cf:Cf}
theorem sp {k:FuncId}{fn:Func}{c:Code}{args:List AV}{obs:List AObj}{n0:Nat}{Po:AV→List AObj→Nat→Prop}(hc: ∀(a:Array Value) w,(callFunc k a).run prog w= .ok (.enter k a) w)(hf:prog.funcs[k]? =some fn)(hb:fn.body=some c)(hN:fn.ntmps=N)
  (hle:Nat.ble args.length N=true) (h: ∀D0 As η0 m0,(∀n,η0 n≠none→n<n0)→G none N D0 (UW prog N fn (NW As η0 m0 Po)) As η0 m0 ⟨OQ args obs n0,.code c,[]⟩):Sp prog k args obs n0 Po:=
 sp_of hc hf hb hN hle fun a b c d e=>(h a b c d e).h
theorem gc {k:FuncId}{ea:List AV}{r:AV}(hs:gOf (adv prog N 100000 cf).1=true→Sf prog k ea r)
 (e:(V9 (adv prog N 100000 cf).1 ea,ea.all (okA 0),((adv prog N 100000 cf).2++A3 (adv prog N 100000 cf).1).map (·.1))=(some (k,ea),true,((adv prog N 100000 cf).2++A3 (adv prog N 100000 cf).1).map (·.2)))
 (g:G ρ N D0 Q As η0 m0 (IC N (adv prog N 100000 cf).1 r)):G ρ N D0 Q As η0 m0 cf:=⟨YF BW hs e g.h⟩
theorem gco {k:FuncId}{ea:List AV}{eobs obs':List AObj}{n0 n1:Nat}{r:AV}(hs:Sp prog k ea eobs n0 (is r obs' n1))
 (e:(Y4 (adv prog N 100000 cf).1 ea eobs n0,okA n1 r&&(obs'.all (okO n1)&&Nat.ble n0 n1),((adv prog N 100000 cf).2++A3 (adv prog N 100000 cf).1).map (·.1))=
  (some (k,(UB (adv prog N 100000 cf).1 ea eobs).1,(UB (adv prog N 100000 cf).1 ea eobs).2,true),true,((adv prog N 100000 cf).2++A3 (adv prog N 100000 cf).1).map (·.2)))
 (g:G ρ N D0 Q As η0 m0 (XS N (adv prog N 100000 cf).1 ea eobs n0 r obs' n1)):G ρ N D0 Q As η0 m0 cf:=⟨VQ BW hs e g.h⟩
theorem gi {β:Type}{b:Bool}{x y:Option β}{r:β}(hm:(if b=true then x else y)=some r)(e:(V6 (adv prog N 100000 cf).1,((adv prog N 100000 cf).2).map (·.1))=(some b,((adv prog N 100000 cf).2).map (·.2)))
  (h1:b=true→x=some r→G ρ N D0 Q As η0 m0 (way true (adv prog N 100000 cf).1)) (h0:b=false→y=some r→G ρ N D0 Q As η0 m0 (way false (adv prog N 100000 cf).1)):G ρ N D0 Q As η0 m0 cf:=
 ⟨go_if BW e (fun h=>(h1 h (by rw[h]at hm; exact hm)).h) fun h=>(h0 h (by rw[h]at hm; exact hm)).h⟩
theorem gspl (g:Nat){β:Type}{b:Bool}{x y:Option β}{r:β}(hm:(if b=true then x else y)=some r)(e:(get (LL g prog N 100000 cf).1.s.sl g,((LL g prog N 100000 cf).2).map (·.1))=(.d (.t b),((LL g prog N 100000 cf).2).map (·.2)))
  (h1:b=true→x=some r→G ρ N D0 Q As η0 m0 (setK g true (LL g prog N 100000 cf).1)) (h0:b=false→y=some r→G ρ N D0 Q As η0 m0 (setK g false (LL g prog N 100000 cf).1)):G ρ N D0 Q As η0 m0 cf:=
 ⟨go_spl BW e (fun h=>(h1 h (by rw[h]at hm; exact hm)).h) fun h=>(h0 h (by rw[h]at hm; exact hm)).h⟩
theorem gi' {b:Bool}(e:(V6 (adv prog N 100000 cf).1,((adv prog N 100000 cf).2).map (·.1))=(some b,((adv prog N 100000 cf).2).map (·.2)))
  (h1:b=true→G ρ N D0 Q As η0 m0 (way true (adv prog N 100000 cf).1)) (h0:b=false→G ρ N D0 Q As η0 m0 (way false (adv prog N 100000 cf).1)):G ρ N D0 Q As η0 m0 cf:=
 ⟨go_if BW e (fun h=>(h1 h).h) fun h=>(h0 h).h⟩
theorem Hf {k:Nat}{α:Type}{E:α→List D}{xs:List α}{j:Int}{x:α}(hE: ∀x,(E x).length=k)(hq:gOf (adv prog N 100000 cf).1=true→idx xs j=some x)
 (e:((idxK prog (adv prog N 100000 cf).1).map (fun r=>(r.1,r.2.1,r.2.2.1)),((adv prog N 100000 cf).2++A3 (adv prog N 100000 cf).1).map (·.1))=(some (.sl α E xs,j,k),((adv prog N 100000 cf).2++A3 (adv prog N 100000 cf).1).map (·.2)))
 (g:G ρ N D0 Q As η0 m0 (A9 N (adv prog N 100000 cf).1 (.d (.pf (E x))) (idxT prog (adv prog N 100000 cf).1))):G ρ N D0 Q As η0 m0 cf:=⟨go_idx BW hE hq e g.h⟩
theorem gcut {k:Nat}{α:Type}{E:α→List D}{xs ys:List α}{lo hi:Int}(hE: ∀x,(E x).length=k)(hq:gOf (adv prog N 100000 cf).1=true→cut xs lo hi=some ys)
 (e:((cutK prog (adv prog N 100000 cf).1).map (fun r=>(r.1,r.2.1,r.2.2.1,r.2.2.2.1,r.2.2.2.2.1)),((adv prog N 100000 cf).2++A3 (adv prog N 100000 cf).1).map (·.1))=(some (.sl α E xs,lo,hi,hi,k),((adv prog N 100000 cf).2++A3 (adv prog N 100000 cf).1).map (·.2)))
 (g:G ρ N D0 Q As η0 m0 (A9 N (adv prog N 100000 cf).1 (.d (.sl α E ys)) (cutT prog (adv prog N 100000 cf).1))):G ρ N D0 Q As η0 m0 cf:=⟨go_cut BW hE hq e g.h⟩
theorem UY {d r:D}(hq:gOf (adv prog N 100000 cf).1=true→nzD d)
 (e:(quoK (adv prog N 100000 cf).1,((adv prog N 100000 cf).2++A3 (adv prog N 100000 cf).1).map (·.1))=(some (.d d,r),((adv prog N 100000 cf).2++A3 (adv prog N 100000 cf).1).map (·.2)))
 (g:G ρ N D0 Q As η0 m0 (A9 N (adv prog N 100000 cf).1 (.d r) [])):G ρ N D0 Q As η0 m0 cf:=⟨go_quo BW hq e g.h⟩
theorem gsh {c:Int}{r:D}(hq:gOf (adv prog N 100000 cf).1=true→0≤c)
 (e:(shK (adv prog N 100000 cf).1,((adv prog N 100000 cf).2++A3 (adv prog N 100000 cf).1).map (·.1))=(some (c,r),((adv prog N 100000 cf).2++A3 (adv prog N 100000 cf).1).map (·.2)))
 (g:G ρ N D0 Q As η0 m0 (A9 N (adv prog N 100000 cf).1 (.d r) [])):G ρ N D0 Q As η0 m0 cf:=⟨go_sh BW hq e g.h⟩
theorem YJ {s:ByteArray}{j:Int}{b:UInt8}(hq:gOf (adv prog N 100000 cf).1=true→idx s.data.toList j=some b)
 (e:(Yq prog (adv prog N 100000 cf).1,((adv prog N 100000 cf).2++A3 (adv prog N 100000 cf).1).map (·.1))=(some (.d (.s s),j,true),((adv prog N 100000 cf).2++A3 (adv prog N 100000 cf).1).map (·.2)))
 (g:G ρ N D0 Q As η0 m0 (A9 N (adv prog N 100000 cf).1 (.d (.b b)) [])):G ρ N D0 Q As η0 m0 cf:=⟨YB BW hq e g.h⟩
theorem WY {k:FuncId}{fn:Func}{p q:UInt64}(hf:prog.funcs[k]? =some fn)(hname:(fn.name== "runtime.NumGoroutine")=false)(hb:fn.body.isNone=true)
 (hx:Extern.findNext fn=none) (he:Extern.find fn=some add64Entry)
 (e:(UK (adv prog N 100000 cf).1,((adv prog N 100000 cf).2++A3 (adv prog N 100000 cf).1).map (·.1))=(some (k,.d (.u p),.d (.u q),true),((adv prog N 100000 cf).2++A3 (adv prog N 100000 cf).1).map (·.2)))
 (g:G ρ N D0 Q As η0 m0 (A9 N (adv prog N 100000 cf).1 (.tup [.d (.u (p+q)),.d (.u (GG p q))]) [])):G ρ N D0 Q As η0 m0 cf:=⟨VS BW hf hname hb hx he e g.h⟩
theorem gofS {s:ByteArray}{zs:List UInt8}(hq:app 1 ([]:List UInt8) s.data.toList=some zs)
 (e:(ofSK prog (adv prog N 100000 cf).1,((adv prog N 100000 cf).2++A3 (adv prog N 100000 cf).1).map (·.1))=(some (.d (.s s),true),((adv prog N 100000 cf).2++A3 (adv prog N 100000 cf).1).map (·.2)))
 (g:G ρ N D0 Q As η0 m0 (push N (adv prog N 100000 cf).1 (Wx (adv prog N 100000 cf).1.s 1 UInt8 byE zs))):G ρ N D0 Q As η0 m0 cf:=⟨go_ofS BW hq e g.h⟩
theorem gapS {b:Nat}{s:ByteArray}{xs zs:List UInt8}(hq:app b xs s.data.toList=some zs)
 (e:((apSP prog (adv prog N 100000 cf).1).map (·.2),((adv prog N 100000 cf).2++A3 (adv prog N 100000 cf).1).map (·.1))=(some (.sl UInt8 byE xs,.d (.s s),b,true),((adv prog N 100000 cf).2++A3 (adv prog N 100000 cf).1).map (·.2)))
 (g:G ρ N D0 Q As η0 m0 (push N (adv prog N 100000 cf).1 (apST prog (adv prog N 100000 cf).1 zs))):G ρ N D0 Q As η0 m0 cf:=⟨go_apS BW hq e g.h⟩
theorem gmkm (e:(mkmK (adv prog N 100000 cf).1,((adv prog N 100000 cf).2++A3 (adv prog N 100000 cf).1).map (·.1))=(true,((adv prog N 100000 cf).2++A3 (adv prog N 100000 cf).1).map (·.2)))
 (g:G ρ N D0 Q As η0 m0 (push N (adv prog N 100000 cf).1 ⟨.ow (adv prog N 100000 cf).1.s.nx,[],[],[((adv prog N 100000 cf).1.s.nx,.hp (adv prog N 100000 cf).1.s.nx (.mp []))],(adv prog N 100000 cf).1.s.nx+1,[]⟩)):G ρ N D0 Q As η0 m0 cf:=⟨go_mkm BW e g.h⟩
theorem glk (kv:List (ByteArray×Bool))(k:ByteArray)
 (e:((lkK prog (adv prog N 100000 cf).1).map (fun r=>(r.1,r.2.1)),((adv prog N 100000 cf).2++A3 (adv prog N 100000 cf).1).map (·.1))=(some (kv,k),((adv prog N 100000 cf).2++A3 (adv prog N 100000 cf).1).map (·.2)))
 (g:G ρ N D0 Q As η0 m0 (A9 N (adv prog N 100000 cf).1 (.d (.t (lkB kv k))) (lkT prog (adv prog N 100000 cf).1))):G ρ N D0 Q As η0 m0 cf:=⟨go_lk BW kv k e g.h⟩
theorem gup {kv:List (ByteArray×Bool)}{k:ByteArray}(hn:(lkI kv k 0).isNone=true)
 (e:((upK prog (adv prog N 100000 cf).1).map (fun r=>(r.1,r.2.1)),((adv prog N 100000 cf).2++A3 (adv prog N 100000 cf).1).map (·.1))=(some (kv,k),((adv prog N 100000 cf).2++A3 (adv prog N 100000 cf).1).map (·.2)))
 (g:G ρ N D0 Q As η0 m0 (push N (adv prog N 100000 cf).1 (upS prog (adv prog N 100000 cf).1))):G ρ N D0 Q As η0 m0 cf:=⟨go_up BW hn e g.h⟩
theorem grng (k:ByteArray)(e:(rngK prog (adv prog N 100000 cf).1,((adv prog N 100000 cf).2++A3 (adv prog N 100000 cf).1).map (·.1))=(some k,((adv prog N 100000 cf).2++A3 (adv prog N 100000 cf).1).map (·.2)))
 (g:G ρ N D0 Q As η0 m0 (push N (adv prog N 100000 cf).1 ⟨.ow (adv prog N 100000 cf).1.s.nx,[],[],[((adv prog N 100000 cf).1.s.nx,.hp (adv prog N 100000 cf).1.s.nx (.it k 0))],(adv prog N 100000 cf).1.s.nx+1,[]⟩)):G ρ N D0 Q As η0 m0 cf:=⟨go_rng BW k e g.h⟩
theorem gnx {s:ByteArray}{pos:Nat}{β:Type}{x y:Option β}{r:β}(hm:(if pos<s.size then x else y)=some r)
  (e:((nxK (adv prog N 100000 cf).1).map (fun r=>(r.1,r.2.1)),((adv prog N 100000 cf).2++A3 (adv prog N 100000 cf).1).map (·.1))=(some (s,pos),((adv prog N 100000 cf).2++A3 (adv prog N 100000 cf).1).map (·.2)))
  (h1:pos<s.size→x=some r→G ρ N D0 Q As η0 m0 (push N (adv prog N 100000 cf).1 (nxS (adv prog N 100000 cf).1))) (h0: ¬pos<s.size→y=some r→G ρ N D0 Q As η0 m0 (push N (adv prog N 100000 cf).1 (nxE (adv prog N 100000 cf).1))):G ρ N D0 Q As η0 m0 cf:=
 ⟨go_nx BW e (fun h=>(h1 h (by rw[if_pos h]at hm; exact hm)).h) fun h=>(h0 h (by rw[if_neg h]at hm; exact hm)).h⟩
theorem VU {s z:ByteArray}{lo hi:Int}(hq:gOf (adv prog N 100000 cf).1=true→LI s lo hi=some z)
 (e:(V4 prog (adv prog N 100000 cf).1,((adv prog N 100000 cf).2++A3 (adv prog N 100000 cf).1).map (·.1))=(some (s,lo,hi),((adv prog N 100000 cf).2++A3 (adv prog N 100000 cf).1).map (·.2)))
 (g:G ρ N D0 Q As η0 m0 (A9 N (adv prog N 100000 cf).1 (.d (.s z)) [])):G ρ N D0 Q As η0 m0 cf:=⟨YD BW hq e g.h⟩
theorem gcutSG {c:Bool}{s z:ByteArray}{lo hi:Int}(hq:c=true→LI s lo hi=some z)
 (e:(gOf (adv prog N 100000 cf).1,V4 prog (adv prog N 100000 cf).1,((adv prog N 100000 cf).2++A3 (adv prog N 100000 cf).1).map (·.1))=(c,some (s,lo,hi),((adv prog N 100000 cf).2++A3 (adv prog N 100000 cf).1).map (·.2)))
 (g:G ρ N D0 Q As η0 m0 (A9 N (adv prog N 100000 cf).1 (.d (.s z)) [])):G ρ N D0 Q As η0 m0 cf:=VU (fun h=>hq (Eq.trans (Eq.symm (congrArg Prod.fst e)) h)) (congrArg Prod.snd e) g
theorem gcat {x y z:ByteArray}(hq:gOf (adv prog N 100000 cf).1=true→Xa x y=some z)
 (e:(catK (adv prog N 100000 cf).1,((adv prog N 100000 cf).2++A3 (adv prog N 100000 cf).1).map (·.1))=(some (x,y),((adv prog N 100000 cf).2++A3 (adv prog N 100000 cf).1).map (·.2)))
 (g:G ρ N D0 Q As η0 m0 (A9 N (adv prog N 100000 cf).1 (.d (.s z)) [])):G ρ N D0 Q As η0 m0 cf:=⟨go_cat BW hq e g.h⟩
theorem gext {k:FuncId}{fn:Func}{F:ByteArray→UInt8→Int}{p:ByteArray}{q:UInt8}(hf:prog.funcs[k]? =some fn)(hE:UN prog fn F)
 (e:(extK (adv prog N 100000 cf).1,((adv prog N 100000 cf).2++A3 (adv prog N 100000 cf).1).map (·.1))=(some (k,.d (.s p),.d (.b q)),((adv prog N 100000 cf).2++A3 (adv prog N 100000 cf).1).map (·.2)))
 (g:G ρ N D0 Q As η0 m0 (A9 N (adv prog N 100000 cf).1 (.d (.i (F p q))) [])):G ρ N D0 Q As η0 m0 cf:=⟨go_ext BW hf hE e g.h⟩
theorem P2 (d:Nat)(ds:List D)
 (e:(Y6 (Kl d prog N 100000 cf).1,((Kl d prog N 100000 cf).2++A3 (Kl d prog N 100000 cf).1).map (·.1))=(some ds,((Kl d prog N 100000 cf).2++A3 (Kl d prog N 100000 cf).1).map (·.2)))
 (g:G ρ N D0 Q As η0 m0 (A9 N (Kl d prog N 100000 cf).1 (.d (.pf ds)) [])):G ρ N D0 Q As η0 m0 cf:=⟨YG d ds BW e g.h⟩
theorem gslM {k:Nat}{α:Type}{E:α→List D}(xs:List α)(hE: ∀x,(E x).length=k)
 (e:(slMK prog (adv prog N 100000 cf).1,((adv prog N 100000 cf).2++A3 (adv prog N 100000 cf).1).map (·.1))=(some (xs.flatMap E,k,xs.length,true),((adv prog N 100000 cf).2++A3 (adv prog N 100000 cf).1).map (·.2)))
 (g:G ρ N D0 Q As η0 m0 (A9 N (adv prog N 100000 cf).1 (.d (.sl α E xs)) [])):G ρ N D0 Q As η0 m0 cf:=⟨go_slM BW xs hE e g.h⟩
theorem gslG {k:Nat}{α:Type}{E:α→List D}(xs:List α)(hE: ∀x,(E x).length=k)
 (e:(slGK prog (adv prog N 100000 cf).1,((adv prog N 100000 cf).2++A3 (adv prog N 100000 cf).1).map (·.1))=(some (xs.flatMap E,k,xs.length,true),((adv prog N 100000 cf).2++A3 (adv prog N 100000 cf).1).map (·.2)))
 (g:G ρ N D0 Q As η0 m0 (A9 N (adv prog N 100000 cf).1 (.d (.sl α E xs)) [])):G ρ N D0 Q As η0 m0 cf:=⟨go_slG BW xs hE e g.h⟩
theorem gidG {k:Nat}{α:Type}{E:α→List D}(xs:List α){j:Int}{z:α}(hE: ∀x,(E x).length=k)(hq:gOf (adv prog N 100000 cf).1=true→idx xs j=some z)
 (e:(idGK prog (adv prog N 100000 cf).1,((adv prog N 100000 cf).2++A3 (adv prog N 100000 cf).1).map (·.1))=(some (xs.flatMap E,j,k,xs.length),((adv prog N 100000 cf).2++A3 (adv prog N 100000 cf).1).map (·.2)))
 (g:G ρ N D0 Q As η0 m0 (A9 N (adv prog N 100000 cf).1 (.d (.pf (E z))) [])):G ρ N D0 Q As η0 m0 cf:=⟨go_idG BW xs hE hq e g.h⟩
theorem gdyn {x:Int}{ea:List AV}{r:AV}(hs:gOf (adv prog N 100000 cf).1=true→∃k:Nat,x=(k:Int)∧Sf prog k ea r)
 (e:((dynP (adv prog N 100000 cf).1).map (fun p=>(p.1,RX (adv prog N 100000 cf).1.s.fz ea p.2)),ea.all (okA 0),((adv prog N 100000 cf).2++A3 (adv prog N 100000 cf).1).map (·.1))=(some (fnV x,ea),true,((adv prog N 100000 cf).2++A3 (adv prog N 100000 cf).1).map (·.2)))
 (g:G ρ N D0 Q As η0 m0 (IC N (adv prog N 100000 cf).1 r)):G ρ N D0 Q As η0 m0 cf:=⟨go_dyn BW hs e g.h⟩
theorem gdynG {c:Bool}{x:Int}{ea:List AV}{r:AV}(hs:c=true→∃k:Nat,x=(k:Int)∧Sf prog k ea r)
 (e:(gOf (adv prog N 100000 cf).1,(dynP (adv prog N 100000 cf).1).map (fun p=>(p.1,RX (adv prog N 100000 cf).1.s.fz ea p.2)),ea.all (okA 0),((adv prog N 100000 cf).2++A3 (adv prog N 100000 cf).1).map (·.1))=(c,some (fnV x,ea),true,((adv prog N 100000 cf).2++A3 (adv prog N 100000 cf).1).map (·.2)))
 (g:G ρ N D0 Q As η0 m0 (IC N (adv prog N 100000 cf).1 r)):G ρ N D0 Q As η0 m0 cf:=gdyn (fun h=>hs (Eq.trans (Eq.symm (congrArg Prod.fst e)) h)) (congrArg Prod.snd e) g
theorem gdyc {k:Nat}{ds:List D}{ea:List AV}{r:AV}(hs:gOf (adv prog N 100000 cf).1=true→Sf prog k (.agg (ds.map dv)::ea) r)
 (e:((dycP (adv prog N 100000 cf).1).map (fun p=>(p.1,p.2.1,RX (adv prog N 100000 cf).1.s.fz ea p.2.2)),ea.all (okA 0),((adv prog N 100000 cf).2++A3 (adv prog N 100000 cf).1).map (·.1))=(some (k,ds,ea),true,((adv prog N 100000 cf).2++A3 (adv prog N 100000 cf).1).map (·.2)))
 (g:G ρ N D0 Q As η0 m0 (IC N (adv prog N 100000 cf).1 r)):G ρ N D0 Q As η0 m0 cf:=⟨go_dyc BW hs e g.h⟩
abbrev w8 (n:Int):Int:=IntKind.i8.wrap n
abbrev eF:Int→List D:=fun x=> [.v (fnV x)]
theorem glit {k:Nat}{α:Type}(E:α→List D)(xs:List α)(hE: ∀x,(E x).length=k)
 (e:(litK prog (adv prog N 100000 cf).1,((adv prog N 100000 cf).2++A3 (adv prog N 100000 cf).1).map (·.1))=(some ((xs.flatMap E).map dv,xs.length,k,true),((adv prog N 100000 cf).2++A3 (adv prog N 100000 cf).1).map (·.2)))
 (g:G ρ N D0 Q As η0 m0 (push N (adv prog N 100000 cf).1 (Wx (adv prog N 100000 cf).1.s k α E xs))):G ρ N D0 Q As η0 m0 cf:=⟨go_lit BW hE e g.h⟩
theorem F3 {k:Nat}{α:Type}(E:α→List D)(xs:List α)(hE: ∀x,(E x).length=k)
 (e:(litG prog (adv prog N 100000 cf).1,((adv prog N 100000 cf).2++A3 (adv prog N 100000 cf).1).map (·.1))=(some ((xs.flatMap E).map dv,xs.length,k,true),((adv prog N 100000 cf).2++A3 (adv prog N 100000 cf).1).map (·.2)))
 (g:G ρ N D0 Q As η0 m0 (A9 N (adv prog N 100000 cf).1 (.d (.sl α E xs)) [])):G ρ N D0 Q As η0 m0 cf:=⟨YA BW hE e g.h⟩
theorem glitFc {k:Nat}{α:Type}(E:α→List D)(xs:List α)(hE: ∀x,(E x).length=k)
 (e:((litG prog (adv prog N 100000 cf).1).map (fun r=>((cvL [] ((xs.flatMap E).map dv) r.1).1,r.2)),((adv prog N 100000 cf).2++A3 (adv prog N 100000 cf).1).map (·.1))=(some ((xs.flatMap E).map dv,xs.length,k,true),((adv prog N 100000 cf).2++A3 (adv prog N 100000 cf).1).map (·.2)))
 (g:G ρ N D0 Q As η0 m0 (A9 N (adv prog N 100000 cf).1 (.d (.sl α E xs)) [])):G ρ N D0 Q As η0 m0 cf:=⟨VO BW hE e g.h⟩
theorem YI {k:Nat}{α:Type}(E:α→List D)(xs:List α)(hE: ∀x,(E x).length=k)
 (e:(VA prog (adv prog N 100000 cf).1,((adv prog N 100000 cf).2++A3 (adv prog N 100000 cf).1).map (·.1))=(some ((xs.flatMap E).map dv,xs.length,k,true),((adv prog N 100000 cf).2++A3 (adv prog N 100000 cf).1).map (·.2)))
 (g:G ρ N D0 Q As η0 m0 (push N (adv prog N 100000 cf).1 (Vz prog (adv prog N 100000 cf).1 α E xs))):G ρ N D0 Q As η0 m0 cf:=⟨Yz BW hE e g.h⟩
theorem BM {α β:Type}{a:α}{b:β}(h:(Sum.inl a:α⊕β)= .inr b):False:=by cases h
theorem Fi {α β:Type}{a:α}{b:β}(h:(Sum.inr b:α⊕β)= .inl a):False:=by cases h
theorem AY {α β:Type}{a:α}{k:α→β}{r:β}(h:bnd a k=r):k a=r:=h
theorem P1 {α:Type}{E:α→List D}{xs:List α}{j:Int}{x:α}(hq:gOf (adv prog N 100000 cf).1=true→idx xs j=some x)
 (e:((P0 prog (adv prog N 100000 cf).1).map (fun r=>(r.1,r.2.1,r.2.2.2.2.1)),((adv prog N 100000 cf).2++A3 (adv prog N 100000 cf).1).map (·.1))=(some (.sl α E xs,j,true),((adv prog N 100000 cf).2++A3 (adv prog N 100000 cf).1).map (·.2)))
 (g:G ρ N D0 Q As η0 m0 (A9 N (adv prog N 100000 cf).1 (TY prog (adv prog N 100000 cf).1) (TZ prog (adv prog N 100000 cf).1))):G ρ N D0 Q As η0 m0 cf:=⟨YC BW hq e g.h⟩
theorem gldO {k fo nn:Nat}{ag:Bool}{α:Type}{E:α→List D}{xs:List α}{j:Int}{x:α}(hE: ∀x,(E x).length=k)(hq:gOf (adv prog N 100000 cf).1=true→idx xs j=some x)
 (e:((ldOP prog (adv prog N 100000 cf).1).map (fun r=>(r.1,r.2.1,r.2.2.1,r.2.2.2.1,r.2.2.2.2.1,r.2.2.2.2.2.1,r.2.2.2.2.2.2.1)),((adv prog N 100000 cf).2++A3 (adv prog N 100000 cf).1).map (·.1))=(some (.sl α E xs,j,fo,nn,ag,k,true),((adv prog N 100000 cf).2++A3 (adv prog N 100000 cf).1).map (·.2)))
 (g:G ρ N D0 Q As η0 m0 (A9 N (adv prog N 100000 cf).1 (pkA ag ((((E x).drop fo).take nn).map .d)) (ldOT prog (adv prog N 100000 cf).1))):G ρ N D0 Q As η0 m0 cf:=⟨go_ldO BW hE hq e g.h⟩
theorem gstO {k:Nat}{α:Type}{E:α→List D}{xs:List α}{j:Int}{z0:α}(z:α)(hE: ∀x,(E x).length=k)(hq:idx xs j=some z0)
 (e:((Va prog (adv prog N 100000 cf).1).map (fun r=>(r.1,r.2.1,r.2.2.1,r.2.2.2.1,r.2.2.2.2.1,r.2.2.2.2.2.1)),((adv prog N 100000 cf).2++A3 (adv prog N 100000 cf).1).map (·.1))=(some (.sl α E xs,j,0,(E z).map dv,k,true),((adv prog N 100000 cf).2++A3 (adv prog N 100000 cf).1).map (·.2)))
 (g:G ρ N D0 Q As η0 m0 (push N (adv prog N 100000 cf).1 (Wn prog (adv prog N 100000 cf).1 k α E (xs.set j.toNat z)))):G ρ N D0 Q As η0 m0 cf:=⟨go_stO BW hE hq e g.h⟩
theorem QV {c:Bool}{α:Type}{E:α→List D}{xs:List α}{j:Int}{x:α}(hq:c=true→idx xs j=some x)
 (e:(gOf (adv prog N 100000 cf).1,(P0 prog (adv prog N 100000 cf).1).map (fun r=>(r.1,r.2.1,r.2.2.2.2.1)),((adv prog N 100000 cf).2++A3 (adv prog N 100000 cf).1).map (·.1))=(c,some (.sl α E xs,j,true),((adv prog N 100000 cf).2++A3 (adv prog N 100000 cf).1).map (·.2)))
 (g:G ρ N D0 Q As η0 m0 (A9 N (adv prog N 100000 cf).1 (TY prog (adv prog N 100000 cf).1) (TZ prog (adv prog N 100000 cf).1))):G ρ N D0 Q As η0 m0 cf:=P1 (fun h=>hq (Eq.trans (Eq.symm (congrArg Prod.fst e)) h)) (congrArg Prod.snd e) g
theorem VT {c:Bool}{k fo nn:Nat}{ag:Bool}{α:Type}{E:α→List D}{xs:List α}{j:Int}{x:α}(hE: ∀x,(E x).length=k)(hq:c=true→idx xs j=some x)
 (e:(gOf (adv prog N 100000 cf).1,(ldOP prog (adv prog N 100000 cf).1).map (fun r=>(r.1,r.2.1,r.2.2.1,r.2.2.2.1,r.2.2.2.2.1,r.2.2.2.2.2.1,r.2.2.2.2.2.2.1)),((adv prog N 100000 cf).2++A3 (adv prog N 100000 cf).1).map (·.1))=(c,some (.sl α E xs,j,fo,nn,ag,k,true),((adv prog N 100000 cf).2++A3 (adv prog N 100000 cf).1).map (·.2)))
 (g:G ρ N D0 Q As η0 m0 (A9 N (adv prog N 100000 cf).1 (pkA ag ((((E x).drop fo).take nn).map .d)) (ldOT prog (adv prog N 100000 cf).1))):G ρ N D0 Q As η0 m0 cf:=gldO hE (fun h=>hq (Eq.trans (Eq.symm (congrArg Prod.fst e)) h)) (congrArg Prod.snd e) g
theorem RO {k b:Nat}{α:Type}{E:α→List D}{xs ys zs:List α}(hE: ∀x,(E x).length=k)(hq:app b xs ys=some zs)
 (e:(appK prog (adv prog N 100000 cf).1,((adv prog N 100000 cf).2++A3 (adv prog N 100000 cf).1).map (·.1))=(some (.sl α E xs,.sl α E ys,b,k,true),((adv prog N 100000 cf).2++A3 (adv prog N 100000 cf).1).map (·.2)))
 (g:G ρ N D0 Q As η0 m0 (push N (adv prog N 100000 cf).1 (appS prog (adv prog N 100000 cf).1.s (adv prog N 100000 cf).1 k α E zs))):G ρ N D0 Q As η0 m0 cf:=⟨go_app BW hE hq e g.h⟩
theorem AN {fn:Func}{n0 n1:Nat}{er:AV}{eobs:List AObj}(hd: ∀n,η0 n≠none→n<n0)
 (e:(endL prog fn (adv prog N 100000 cf).1 er eobs n0 n1,(endP prog fn (adv prog N 100000 cf).1 er eobs).isSome,((adv prog N 100000 cf).2).map (·.1))=(endR prog fn (adv prog N 100000 cf).1 er eobs,true,((adv prog N 100000 cf).2).map (·.2))):
 G ρ N D0 (UW prog N fn (NW As η0 m0 (is er eobs n1))) As η0 m0 cf:=⟨go_fin BW hd e ⟨rfl,rfl,rfl⟩⟩
theorem sb {k:FuncId}{fn:Func}{c:Code}{args:List AV}{obs:List AObj}{n0:Nat}{ov:Value}{Po:AV→List AObj→Nat→Prop}{Xp:Prop}(hc: ∀(a:Array Value) w,(callFunc k a).run prog w= .ok (.enter k a) w)(hf:prog.funcs[k]? =some fn)(hb:fn.body=some c)(hN:fn.ntmps=N)
  (hle:Nat.ble args.length N=true) (h: ∀D0 As η0 m0,(∀n,η0 n≠none→n<n0)→G none N D0 (outB prog N fn (NW As η0 m0 Po) ov (PostX As m0 Xp)) As η0 m0 ⟨OQ args obs n0,.code c,[]⟩):Sb prog k args obs n0 ov Po Xp:=
 sb_of hc hf hb hN hle fun a b c d e=>(h a b c d e).h
theorem gb {n0:Nat}{ι:Type}{J:ι→AS}{ok:ι→Prop}{Jp:Fr→World→Prop}(bk:Bk As η0 m0 J ok Jp)(hd: ∀n,η0 n≠none→n<n0)(x:ι)(hx:ok x)
 (e:(Zc (adv prog N 100000 cf).1,vwL (adv prog N 100000 cf).1.s (J x) n0,(vwP (adv prog N 100000 cf).1.s (J x)).isSome,((adv prog N 100000 cf).2).map (·.1))=(some Jp,vwR (adv prog N 100000 cf).1.s (J x),true,((adv prog N 100000 cf).2).map (·.2))):
 G ρ N D0 Q As η0 m0 cf:=⟨VR BW bk x hx hd e⟩
theorem gjU (id:Nat){ι:Type}(J:ι→AS)(ok:ι→Prop)(e:(JX (FU id prog N 100000 cf).1,((FU id prog N 100000 cf).2).map (·.1))=(true,((FU id prog N 100000 cf).2).map (·.2)))
 (h1: ∀Jp,Bk As η0 m0 J ok Jp→G ρ N D0 Q As η0 m0 (ctnC (FU id prog N 100000 cf).1 Jp)) (h2: ∀x,ok x→G ρ N D0 Q As η0 m0 ⟨J x,.pop,(FU id prog N 100000 cf).1.K⟩):G ρ N D0 Q As η0 m0 cf:=⟨VP BW J ok e (h1 _ ⟨fun _ _ h=>h⟩).h fun x hx=>(h2 x hx).h⟩
theorem gj {ι:Type}(J:ι→AS)(ok:ι→Prop)(e:(JX (adv prog N 100000 cf).1,((adv prog N 100000 cf).2).map (·.1))=(true,((adv prog N 100000 cf).2).map (·.2)))
 (h1: ∀Jp,Bk As η0 m0 J ok Jp→G ρ N D0 Q As η0 m0 (ctnC (adv prog N 100000 cf).1 Jp)) (h2: ∀x,ok x→G ρ N D0 Q As η0 m0 ⟨J x,.pop,(adv prog N 100000 cf).1.K⟩):G ρ N D0 Q As η0 m0 cf:=⟨T5 BW J ok e (h1 _ ⟨fun _ _ h=>h⟩).h fun x hx=>(h2 x hx).h⟩
theorem gl {n0:Nat}{ι:Type}(hd: ∀n,η0 n≠none→n<n0)(J:ι→AS)(pre:ι→Prop)(μ:ι→Nat)(x0:ι)(hx:pre x0)
 (e:((WO (adv prog N 100000 cf).1).isSome,vwL (adv prog N 100000 cf).1.s (J x0) n0,(vwP (adv prog N 100000 cf).1.s (J x0)).isSome,((adv prog N 100000 cf).2).map (·.1))=(true,vwR (adv prog N 100000 cf).1.s (J x0),true,((adv prog N 100000 cf).2).map (·.2)))
 (h: ∀x,pre x→∀Jp,Bk As η0 m0 J (fun y=>pre y∧μ y<μ x) Jp→G ρ N D0 Q As η0 m0 (rndC (adv prog N 100000 cf).1 (J x) Jp)):G ρ N D0 Q As η0 m0 cf:=⟨Yy BW J pre μ x0 hx hd e fun x hx=>(h x hx _ ⟨fun _ _ h=>h⟩).h⟩
theorem F8 {n i:Nat}(hlt:i<n)(hn:n≤9223372036854775807):n-(w64 ((i:Int)+1)).toNat<n-((i:Int)).toNat:=by
 rw[A5 hlt hn]; omega
theorem Lx (id:Nat){α:Type}{E:α→List D}{xs:List α}(t:Nat)(e:(JX (FU id prog N 100000 cf).1,lenK (FU id prog N 100000 cf).1.s t,((FU id prog N 100000 cf).2).map (·.1))=(true,some (.sl α E xs),((FU id prog N 100000 cf).2).map (·.2)))
 (h:xs.length≤9223372036854775807→G ρ N D0 Q As η0 m0 (FU id prog N 100000 cf).1):G ρ N D0 Q As η0 m0 cf:=⟨go_len BW t e fun q=>(h q).h⟩
theorem gnil {α:Type}(E:α→List D)(t sz:Nat)
 (e:(HT (adv prog N 100000 cf).1,Iu (get (adv prog N 100000 cf).1.s.sl t),((adv prog N 100000 cf).2).map (·.1))=(true,true,((adv prog N 100000 cf).2).map (·.2)))
 (g:G ρ N D0 Q As η0 m0 (nilC (adv prog N 100000 cf).1 t sz α E)):G ρ N D0 Q As η0 m0 cf:=⟨go_nil BW t sz e g.h⟩
theorem YH (id:Nat){α:Type}(E:α→List D)(t sz:Nat)
 (e:(HT (FU id prog N 100000 cf).1,Iu (get (FU id prog N 100000 cf).1.s.sl t),((FU id prog N 100000 cf).2).map (·.1))=(true,true,((FU id prog N 100000 cf).2).map (·.2)))
 (g:G ρ N D0 Q As η0 m0 (nilC (FU id prog N 100000 cf).1 t sz α E)):G ρ N D0 Q As η0 m0 cf:=⟨Yx BW t sz e g.h⟩
theorem gnilBU (id:Nat){α:Type}(E:α→List D)(t j sz:Nat)
 (e:(HT (FU id prog N 100000 cf).1,(PM (FU id prog N 100000 cf).1.s t j).isSome,((FU id prog N 100000 cf).2).map (·.1))=(true,true,((FU id prog N 100000 cf).2).map (·.2)))
 (g:G ρ N D0 Q As η0 m0 (Yf (FU id prog N 100000 cf).1 t j sz α E)):G ρ N D0 Q As η0 m0 cf:=⟨VN BW t j sz e g.h⟩
theorem gcG {c:Bool}{k:FuncId}{ea:List AV}{r:AV}(hs:c=true→Sf prog k ea r)
 (e:(gOf (adv prog N 100000 cf).1,V9 (adv prog N 100000 cf).1 ea,ea.all (okA 0),((adv prog N 100000 cf).2++A3 (adv prog N 100000 cf).1).map (·.1))=(c,some (k,ea),true,((adv prog N 100000 cf).2++A3 (adv prog N 100000 cf).1).map (·.2)))
 (g:G ρ N D0 Q As η0 m0 (IC N (adv prog N 100000 cf).1 r)):G ρ N D0 Q As η0 m0 cf:=gc (fun h=>hs (Eq.trans (Eq.symm (congrArg Prod.fst e)) h)) (congrArg Prod.snd e) g
theorem OT {c:Bool}{k:Nat}{α:Type}{E:α→List D}{xs:List α}{j:Int}{x:α}(hE: ∀x,(E x).length=k)(hq:c=true→idx xs j=some x)
 (e:(gOf (adv prog N 100000 cf).1,(idxK prog (adv prog N 100000 cf).1).map (fun r=>(r.1,r.2.1,r.2.2.1)),((adv prog N 100000 cf).2++A3 (adv prog N 100000 cf).1).map (·.1))=(c,some (.sl α E xs,j,k),((adv prog N 100000 cf).2++A3 (adv prog N 100000 cf).1).map (·.2)))
 (g:G ρ N D0 Q As η0 m0 (A9 N (adv prog N 100000 cf).1 (.d (.pf (E x))) (idxT prog (adv prog N 100000 cf).1))):G ρ N D0 Q As η0 m0 cf:=Hf hE (fun h=>hq (Eq.trans (Eq.symm (congrArg Prod.fst e)) h)) (congrArg Prod.snd e) g
theorem gcutG {c:Bool}{k:Nat}{α:Type}{E:α→List D}{xs ys:List α}{lo hi:Int}(hE: ∀x,(E x).length=k)(hq:c=true→cut xs lo hi=some ys)
 (e:(gOf (adv prog N 100000 cf).1,(cutK prog (adv prog N 100000 cf).1).map (fun r=>(r.1,r.2.1,r.2.2.1,r.2.2.2.1,r.2.2.2.2.1)),((adv prog N 100000 cf).2++A3 (adv prog N 100000 cf).1).map (·.1))=(c,some (.sl α E xs,lo,hi,hi,k),((adv prog N 100000 cf).2++A3 (adv prog N 100000 cf).1).map (·.2)))
 (g:G ρ N D0 Q As η0 m0 (A9 N (adv prog N 100000 cf).1 (.d (.sl α E ys)) (cutT prog (adv prog N 100000 cf).1))):G ρ N D0 Q As η0 m0 cf:=gcut hE (fun h=>hq (Eq.trans (Eq.symm (congrArg Prod.fst e)) h)) (congrArg Prod.snd e) g
end
end Go.Proofs.YtbajlmaijjcbmaaGreatDoor
end
section
namespace Go.Ax
open Go Go.Gw
structure Br (α:Type) [GoT α](E:α→List D):Prop where
 to: ∀{m:Mem} {cs:List Value} {x:α},GoT.rep m cs x→FRL m (E x) cs
 of: ∀{m:Mem} {cs:List Value} {x:α},FRL m (E x) cs→GoT.rep m cs x
 len: ∀x,(E x).length=GoT.sz α
theorem FRL.c1 {m:Mem}{d:D}{v:Value}(h:FR m d v):FRL m [d] [v]:= .cons h .nil
theorem FRL.c1_inv {m:Mem}{d:D}{cs:List Value}(h:FRL m [d] cs): ∃v,cs=[v]∧FR m d v:=by
 obtain⟨v,us,rfl,h1,h2⟩:=h.cons_inv;have:=h2.nil_inv; subst this;exact⟨v,rfl,h1⟩
theorem FR.i_inv {m:Mem}{n}{v:Value}(h:FR m (.i n) v):v=vI n:=by cases h; rfl
theorem FR.u_inv {m:Mem}{n}{v:Value}(h:FR m (.u n) v):v=vU n:=by cases h; rfl
theorem FR.b_inv {m:Mem}{n}{v:Value}(h:FR m (.b n) v):v=vB n:=by cases h; rfl
theorem FR.t_inv {m:Mem}{n}{v:Value}(h:FR m (.t n) v):v=vb n:=by cases h; rfl
theorem FR.s_inv {m:Mem}{n}{v:Value}(h:FR m (.s n) v):v=vS n:=by cases h; rfl
theorem Br.i:Br Int (fun n=> [.i n]):=⟨fun h=>by have h:_=_:=h; subst h; exact .c1 (.i _),fun h=>by obtain⟨v,rfl,g⟩:=FRL.c1_inv h; exact congrArg (fun z=> [z]) g.i_inv,fun _=>rfl⟩
theorem Br.u:Br UInt64 (fun n=> [.u n]):=⟨fun h=>by have h:_=_:=h; subst h; exact .c1 (.u _),fun h=>by obtain⟨v,rfl,g⟩:=FRL.c1_inv h; exact congrArg (fun z=> [z]) g.u_inv,fun _=>rfl⟩
theorem Br.b:Br UInt8 (fun n=> [.b n]):=⟨fun h=>by have h:_=_:=h; subst h; exact .c1 (.b _),fun h=>by obtain⟨v,rfl,g⟩:=FRL.c1_inv h; exact congrArg (fun z=> [z]) g.b_inv,fun _=>rfl⟩
theorem Br.t:Br Bool (fun n=> [.t n]):=⟨fun h=>by have h:_=_:=h; subst h; exact .c1 (.t _),fun h=>by obtain⟨v,rfl,g⟩:=FRL.c1_inv h; exact congrArg (fun z=> [z]) g.t_inv,fun _=>rfl⟩
theorem Br.s:Br ByteArray (fun n=> [.s n]):=⟨fun h=>by have h:_=_:=h; subst h; exact .c1 (.s _),fun h=>by obtain⟨v,rfl,g⟩:=FRL.c1_inv h; exact congrArg (fun z=> [z]) g.s_inv,fun _=>rfl⟩
theorem Br.pair {α β:Type} [GoT α] [GoT β]{E:α→List D}{F:β→List D}(a:Br α E)(b:Br β F):Br (α×β) (fun x=>E x.1++F x.2):=
 ⟨fun⟨c,d,e,h1,h2⟩=>by subst e; exact(a.to h1).append (b.to h2),fun {m cs x} h=>by
  have h1:=h.take (E x.1).length;have h2:=h.drop (E x.1).length;rw[List.take_left]at h1;rw[List.drop_left]at h2;exact⟨_,_,(List.take_append_drop _ _).symm,a.of h1,b.of h2⟩,fun x=>by
  rw[List.length_append,a.len,b.len]; rfl⟩
section
variable {α:Type} [GoT α]{E:α→List D}{m:Mem}{v:Value}
theorem Br.toL (b:Br α E): ∀{xs:List α} {cs:List Value},By m cs xs→FRL m (xs.flatMap E) cs
 | [],cs,h=>by have h:cs=[]:=h; subst h; exact .nil
 |x::xs,cs,⟨c,d,e,h1,h2⟩=>by subst e; rw[List.flatMap_cons]; exact(b.to h1).append (b.toL h2)
theorem Br.ofL (b:Br α E): ∀{xs:List α} {cs:List Value},FRL m (xs.flatMap E) cs→By m cs xs
 | [],cs,h=>show cs=[]from FRL.nil_inv (by simpa using h)
 |x::xs,cs,h=>by
  rw[List.flatMap_cons]at h;have h1:=h.take (E x).length;have h2:=h.drop (E x).length;rw[List.take_left]at h1;rw[List.drop_left]at h2;exact⟨_,_,(List.take_append_drop _ _).symm,b.of h1,b.ofL h2⟩
theorem Br.toS (b:Br α E){xs:List α}(h:SlR m v xs):FR m (.sl α E xs) v:=by
 obtain⟨cs,h1,h2⟩:=h;have:=b.toL h2;exact .sl h1 (fun x _=>b.len x) this.1 this.2
theorem Br.ofS (b:Br α E){xs:List α}(h:FR m (.sl α E xs) v):SlR m v xs:=by
 cases h with
 | @sl _ _ _ sz' _ cs h hE' hl hr=>
  refine⟨cs,?_,b.ofL ⟨hl,hr⟩⟩;cases xs with
  |nil=>
   have:cs=[]:=by simp at hl; exact List.length_eq_zero_iff.1 hl.symm
   subst this;exact⟨by simp,h.2.1,h.2.2⟩
  |cons x xs=>
   have:sz'=GoT.sz α:=by rw[←hE' x List.mem_cons_self,b.len x]
   subst this; exact h
theorem Br.sl (b:Br α E):Br (List α) (fun xs=> [.sl α E xs]):=
 ⟨fun⟨v,e,h⟩=>by subst e; exact .c1 (b.toS h),fun h=>by obtain⟨v,rfl,g⟩:=FRL.c1_inv h; exact⟨v,rfl,b.ofS g⟩,fun _=>rfl⟩
theorem Br.mk' {β:Type} [GoT β]{F:β→List D}(b:Br β F)(E:α→List D)(f:α→β)(hr: ∀(m:Mem) (cs:List Value) (x:α),GoT.rep m cs x=GoT.rep m cs (f x))(hE: ∀x,F (f x)=E x)(hs:GoT.sz α=GoT.sz β):Br α E:=
 ⟨fun h=>by rw[←hE]; rw[hr]at h; exact b.to h,fun h=>by rw[←hE]at h; rw[hr]; exact b.of h,fun x=>by rw[←hE,b.len,hs]⟩
theorem Br.toA (b:Br α E){η:Env}{x:α}{cs:List Value}(h:GoT.rep m cs x):Rel η m (.agg ((E x).map dv)) (.agg cs.toArray):=by
 have:=Bo.ofDv (η:=η) (b.to h);exact .agg this.1 this.2
theorem Br.toR (b:Br α E){η:Env}{n sz:Nat}{cs:List Value}{xs:List α}(hs:GoT.sz α=sz)(hn:η n=some v)(h1:v.oneCell'=true)(h:By m cs xs): ∀x,Gw.row sz v cs xs.length x→rep η m (.row n sz α E xs) x:=
 fun x hx=>⟨v,cs,hn,h1,b.toL h,fun x _=>(b.len x).trans hs,hx⟩
end
theorem sepC {A B:Ow}{As Bs:List Ow}(h: ∀x,A x→B x)(k: ∀x,sepL As x→sepL Bs x): ∀x,sepL (A::As) x→sepL (B::Bs) x:=
 fun x ⟨h1,h2,a,s,d,e⟩=>⟨h1,h2,h h1 a,k h2 s,d,e⟩
theorem _root_.Go.Gw.St.impL {m:Mem}{As Bs:List Ow}{w:World}(S:St m As w)(h: ∀x,sepL As x→sepL Bs x):St m Bs w:=by
 obtain⟨x,sx,rx⟩:=S.own;exact⟨S.os,S.tape,S.output,x,h x sx,rx⟩
theorem Rel.tup' {η:Env}{m:Mem}{cs:List AV}{vs:List Value}(h:Bo η m cs vs):Rel η m (.tup cs) (.tuple vs.toArray):= .tup h.1 h.2
def YV (l:List Value):Env:=fun n=>l[n]?
theorem Ij {l:List Value}{k:Nat}(hk:l.length=k): ∀n,YV l n≠none→n<k:=by
 intro n h;rcases Nat.lt_or_ge n l.length with q|q
 ·omega
 ·exact absurd (List.getElem?_eq_none q) h
theorem RP {η:Env}(hd: ∀n,η n≠none→n<0)(η':Env):η.le η':=fun n v h=>absurd (hd n (by rw[h]; simp)) (by omega)
def cvR (ob:List Tok):AV→AV→AV
 | .tup es,.tup az=> .tup (cvV ob es az).1
 |e,a=>(cvA ob e a).1
theorem YW {ob:List Tok}{η:Env}{m:Mem}(k: ∀ns,Kn ob η m ns){e a:AV}{v:Value}(r:Rel η m a v):Rel η m (cvR ob e a) v:=by
 unfold cvR;split
 ·obtain⟨vs,rfl,h⟩:=r.tup_inv;exact .tup' (Ln (k _) h)
 ·exact Uq (k _) r
theorem Sp.fz {P:Program}{k:FuncId}{args:List AV}{er er':AV}{eobs:List AObj}{n1:Nat}(h:Sp P k args [] 0 (is er eobs n1))
  (e:((enO 0 eobs).all (fun p=>GZ p.2),okA 0 er',cvR (enO 0 eobs) er' er)=(true,true,er')):Sf P k args er':=by
 simp only[Prod.mk.injEq]at e;obtain⟨e1,e2,e3⟩:=e;refine⟨h.1,fun η m As w vs hv hd S=>AB.mono (h.2 η m As w vs hv hd S) ?_⟩;rintro v w' ⟨M,η',r,obs',n1',hle,hη,⟨rfl,rfl,rfl⟩,hdom,hR,S'⟩;rw[←GW (k:=0)]at S';obtain⟨M2,l2,K,S2⟩:=H2 e1 S';have KN: ∀ns,Kn (enO 0 obs') η' M2 ns:=fun ns n hn d hd=>by
  obtain⟨p,hf,hp,_,hnm⟩:=Jg hd;obtain⟨v,a,b⟩:=K p (Ex hf);rw[hnm]at a; rw[hp]at b; exact⟨v,a,b⟩
 have hr:=YW KN (e:=er') (hR.up Env.le_refl l2);rw[e3]at hr;exact⟨M2,none0,er',[],0,Mem.tr hle l2,RP hd _,⟨rfl,rfl,rfl⟩,fun n h=>absurd rfl h,PK (fun k hk=>absurd hk (by omega)) e2 hr,S2⟩
theorem Sp.nil0 {P:Program}{k:FuncId}{args:List AV}{sz:Nat}{α:Type}{E:α→List D}{Po:AV→List AObj→Nat→Prop}(h:Sp P k (.ow 0::args) [.row 0 sz α E []] 1 Po)(ha:args.all (okA 0)=true):Sp P k (.d (.v (.slice none 0 0))::args) [] 0 Po:=by
 refine⟨h.1,fun η m As w vs hv hd S=> ?_⟩;obtain⟨v,us,rfl,h1,h2⟩:=hv.cons_inv;have hvv:v= .slice none 0 0:=by have:=h1.dd; cases this; rfl
 subst hvv;have he:η.le (η.put 0 (.slice none 0 0)):=Env.le_put (by cases q:η 0 with|none=>rfl|some u=>exact absurd (hd 0 (by rw[q]; simp)) (by omega));have S1:St m (rep (η.put 0 (.slice none 0 0)) m (.row 0 sz α E [])::As) w:=by
  exact St.closeRow (η:=η.put 0 (.slice none 0 0)) (n:=0) (E:=E) (xs:=[]) Env.put_self rfl (by simpa using FRL.nil) (fun _ h=>by cases h) (St.rowNil S sz)
 have:=h.2 (η.put 0 (.slice none 0 0)) m As w (.slice none 0 0::us) (.cons (.ow Env.put_self rfl) (JH (n:=0) (fun k hk=>absurd hk (by omega)) ha (h2.up he (Mem.rfl' m)))) (fun n hn=>by
  rcases Env.put_dom hn with q|q
  ·have:=hd n q; omega
  ·omega) S1
 refine AB.mono this ?_;rintro r w' ⟨M,η',r',obs',n1,a,b,c⟩;exact⟨M,η',r',obs',n1,a,Env.le_tr he b,c⟩
end Go.Ax
end
section
namespace Go.Ax
open Go Go.Gw
theorem Vc {A:Ow}{h:PH}(a:A h):sepL [A] h:=⟨h,PH.emp,a,rfl,PH.disj_emp h,(PH.join_emp h).symm⟩
theorem Sy {A:Ow}{h:PH}(s:sepL [A] h):A h:=by
 obtain⟨h1,h2,a,e,d,j⟩:=s;have e':h2=PH.emp:=e;subst e';rw[PH.join_emp]at j;subst j;exact a
theorem KT {Bs:List Ow}: ∀{L:List Ow} {h:PH},sepL (L++Bs) h→∃h1 h2,sepL L h1∧sepL Bs h2∧h1.disj h2∧h=h1.join h2
 | [],h,s=>⟨PH.emp,h,rfl,s,PH.disj_symm (PH.disj_emp h),(PH.emp_join h).symm⟩
 |A::L,h,⟨h1,h2,a,s,d,e⟩=>by
  obtain⟨k1,k2,s1,s2,d2,rfl⟩:=KT (L:=L) s;have dd:=PH.disj_join.1 d;exact⟨h1.join k1,k2,⟨h1,k1,a,s1,dd.1,rfl⟩,s2,PH.join_disj.2 ⟨dd.2,d2⟩,by rw[e,PH.join_assoc]⟩
theorem Qt {Bs:List Ow}: ∀{L:List Ow} {h1 h2:PH},sepL L h1→sepL Bs h2→h1.disj h2→sepL (L++Bs) (h1.join h2)
 | [],h1,h2,e,s,d=>by
  have e':h1=PH.emp:=e;subst e';rw[PH.emp_join]; exact s
 |A::L,_,h2,⟨k1,k2,a,s1,d1,e⟩,s,d=>by
  subst e;have dd:=PH.join_disj.1 d;exact⟨k1,k2.join h2,a,Qt s1 s dd.2,PH.disj_join.2 ⟨d1,dd.1⟩,by rw[PH.join_assoc]⟩
def hkC {σ:Type}(R:σ→Mem→Ow)(s:σ)(m:Mem):Ow:=fun h=> ∃m0,m0≤m∧R s m0 h
def Zh (P:Program)(g:Value){σ α:Type}(A:α→List AV)(R:σ→Mem→Ow)(p:σ→α→Option (Bool×σ)):Prop:= ∀s x r,p s x=some r→∀(m:Mem) (vs:List Value) (As:List Ow) (w:World),Bo none0 m (A x) vs→St m (hkC R s m::As) w→DJ P g vs w fun v w'=> ∃M,v=vb r.1∧m≤M∧St M (hkC R r.2 M::As) w'
def cbK (cf:Cf)(ea:List AV):Option (Nat×Nat×HK×List AV):=
 match EF cf with
 |some a=>match a.g,a.o.op with
  |none,.call c=>match c.callee with
   | .value x=>match aev a.sl x with
    | .ow n=>match T0 cf.s.ob n with
     |some (i,q)=>some (i,n,q,RX cf.s.fz ea (c.args.toList.map (aev a.sl)))
     |none=>none
    |_=>none
   |_=>none
  |_,_=>none
 |none=>none
def cbS (cf:Cf)(ea:List AV)(q:HK)(v:AV):Stp:=match cbK cf ea with|some (i,n,q0,_)=>⟨v,[],[(i,.hp n q0)],[(cf.s.nx,.hp n q)],cf.s.nx+1,[]⟩|none=>⟨.no,[],[],[],0,[]⟩
section
variable {ρ:Option Nat}{P:Program}{N:Nat}{D0:Dw}{Q:C5}{As:List Ow}{η0:Env}{m0:Mem}
theorem go_cb (hm:P.follows .mixedOrders=true){n:Nat}{cf:Cf}{σ α:Type}{A:α→List AV}{g:Value}{R:σ→Mem→Ow}{p:σ→α→Option (Bool×σ)}{s:σ}{x:α}{r:Bool×σ}
  (hg:Zh P g A R p) (hp:p s x=some r)
  (e:((cbK (adv P N n cf).1 (A x)).map (fun q=>(q.2.2.1,q.2.2.2)),(A x).all (okA 0),((adv P N n cf).2++A3 (adv P N n cf).1).map (·.1))=(some (.cb g σ R s,A x),true,((adv P N n cf).2++A3 (adv P N n cf).1).map (·.2)))
  (gg:Go ρ P N D0 Q As η0 m0 (push N (adv P N n cf).1 (cbS (adv P N n cf).1 (A x) (.cb g σ R r.2) (.d (.t r.1))))):Go ρ P N D0 Q As η0 m0 cf:=by
 simp only[Prod.mk.injEq]at e;obtain⟨e1,e2,e3⟩:=e;obtain⟨he1,-⟩:=EqsOk.two e3;refine BA hm he1 ?_;generalize (adv P N n cf).1=c0 at*;cases hq:cbK c0 (A x)with
 |none=>rw[hq]at e1; cases e1
 |some t=>
  obtain⟨i,nn,q0,asg⟩:=t;have hT:cbS c0 (A x) (.cb g σ R r.2) (.d (.t r.1))=⟨.d (.t r.1),[],[(i,.hp nn q0)],[(c0.s.nx,.hp nn (.cb g σ R r.2))],c0.s.nx+1,[]⟩:=by unfold cbS; rw[hq]
  rw[hT]at gg;rw[hq]at e1;simp only[Option.map_some,Option.some.injEq,Prod.mk.injEq]at e1;obtain⟨e4,e5⟩:=e1;subst e4;unfold cbK at hq;split at hq
  ·rename_i a ha;split at hq
   ·rename_i c hgd0 hop;split at hq
    ·rename_i xo hce;split at hq
     ·rename_i n2 hx;split at hq
      ·rename_i i2 q2 hh;simp only[Option.some.injEq,Prod.mk.injEq]at hq;obtain⟨rfl,rfl,rfl,rfl⟩:=hq;have hgd:=Cr ha hgd0;refine E2 ha hgd0 ?_ (M7 (Lc hh)) gg;obtain⟨l,⟨dst,op',ty,pos,af,gd⟩,gg',sl,es⟩:=a;simp only at hop hx hgd e5⊢; subst hop hgd;obtain⟨ce,⟨xs⟩,ts⟩:=c;simp only at hce e5; subst hce;refine⟨Nat.le_succ _,fun rest Q η m f w As hr hz hn' S hk=> ?_⟩;have rx:=Ao hr xo;rw[hx]at rx;obtain⟨ex,_⟩:=rx.ow_inv;have S0:St m (rep η m (.hp n2 (.cb g σ R s))::As) w:=S;obtain⟨b,hb,S1⟩:=St.openHp S0;rw[ex]at hb;have hxv:ev f xo=g:=Option.some.inj hb;have ra:=H8 (es:=A x) hz (Bo.map_aev hr xs);rw[e5]at ra;refine FX hxv (hg s x r hp m _ As w (JH (n:=0) (fun k hk=>absurd hk (Nat.not_lt_zero k)) e2 ra) S1) rfl ?_;rintro v w2 ⟨M,rfl,lM,S2⟩;exact hk η M w2 _ Env.le_refl lM (fun n h=> .inl h) (.d (.t _)) (St.closeHp (q:= .cb g σ R r.2) (b:=b) (by rw[ex,hxv]; rfl) S2)
      ·cases hq
     ·cases hq
    ·cases hq
   ·cases hq
  ·cases hq
end
def rgK (cf:Cf):Option (Nat×List Nat):=match cf.md with| .code (.rangeFunc (.tmp g) ps _ _)=>some (g,ps.toList)|_=>none
def asgC (cf:Cf)(s:AS)(J:Fr→World→Prop):Cf:=match cf.md with| .code (.rangeFunc _ _ a _)=>⟨s,.code a,[.ctn J]⟩|_=>cf
def bodC (cf:Cf)(s:AS)(J:Fr→World→Prop):Cf:=match cf.md with| .code (.rangeFunc _ _ _ b)=>⟨s,.code b,[.ctn J]⟩|_=>cf
def slz (N:Nat):Sl→List Nat→List AV→Sl
 |sl,t::ts,a::asg=>slz N (setS N sl (some t) a) ts asg
 |sl,_,_=>sl
def Wy (J:Fr→World→Prop):C5
 | .ret,f,w=>J f w
 |_,_,_=>False
def isL {ι κ:Type}:ι⊕κ→Bool
 | .inl _=>true
 | .inr _=>false
def M9 {ι κ α:Type}(p:ι→α→Option (ι⊕κ)):(ι⊕κ)→α→Option (Bool×(ι⊕κ))
 | .inl x,a=>(p x a).map fun r=>(isL r,r)
 | .inr _,_=>none
theorem Su {η:Env}{m:Mem}{N:Nat}: ∀{ts:List Nat} {asg:List AV} {vs:List Value} {sl:Sl} {f:Fr},(∀t,Rel η m (get sl t) (f t))→Bo η m asg vs→ts.length=asg.length→∀t,Rel η m (get (slz N sl ts asg) t) (upz N f ts vs t)
 | [],asg,vs,sl,f,h,_,_=>by
  intro t;show Rel η m (get (slz N sl [] asg) t) (upz N f [] vs t);have e1:slz N sl [] asg=sl:=by cases asg<;>rfl
  have e2:upz N f [] vs=f:=by cases vs<;>rfl
  rw[e1,e2]; exact h t
 |t0::ts,[],vs,sl,f,h,_,hl=>by simp at hl
 |t0::ts,a::asg,vs,sl,f,h,hv,hl=>by
  obtain⟨v,us,rfl,h1,h2⟩:=hv.cons_inv;intro t;exact Su (f:=up N f t0 v) (fun t=>QW (N:=N) (d:=some t0) h h1 t) h2 (by simpa using hl) t
theorem T7 {n:Nat}: ∀{sl:Sl},(sl.map (·.2)).all (okA n)=true→∀t,okA n (get sl t)=true
 | [],_,_=>rfl
 |p::l,h,t=>by
  simp only[List.map_cons,List.all_cons,Bool.and_eq_true]at h;show okA n (bif Nat.beq p.1 t then p.2 else get l t)=true;cases Nat.beq p.1 t
  ·exact T7 h.2 t
  ·exact h.1
def rgOb {ι κ:Type}(oJ:ι→List Tok)(oK:κ→List Tok):ι⊕κ→List Tok
 | .inl x=>oJ x
 | .inr y=>oK y
def rgSt {ι κ:Type}:ι⊕κ→LoopState×Option Code
 | .inl _=>(.ready,none)
 | .inr _=>(.done,some .ret)
def rgR {ι κ:Type}(l:Nat)(i:LM)(oJ:ι→List Tok)(oK:κ→List Tok)(As:List Ow)(ηc:Env)(m1:Mem)(nx:Nat):(ι⊕κ)→Mem→Ow:=fun q M h=> ∃η',ηc.le η'∧m1≤M∧(∀n,η' n≠none→n<nx)∧sepL (Lp l i (rgSt q).1 (rgSt q).2::(reps η' M (rgOb oJ oK q)++As)) h
theorem perm_mid {A:Ow}{X Y:List Ow}:(X++A::Y).Perm (A::(X++Y)):=List.perm_middle
section
variable {P:Program}{N:Nat}{D0:Dw}{Q:C5}{As:List Ow}{η0:Env}{m0:Mem}
theorem rg_cb {n1 nx:Nat}{l:Nat}{i:LM}{ι κ α:Type}{ps:List Nat}{sl0:Sl}{oJ:ι→List Tok}{oK:κ→List Tok}{A:α→List AV}{sB:ι→α→AS}{p:ι→α→Option (ι⊕κ)}{f:Fr}{asg bo:Code}{ηc:Env}{m1:Mem}
  (hi:i.Ok N f ps asg bo) (hdc: ∀n,ηc n≠none→n<n1) (hsl: ∀t,Rel ηc m1 (get sl0 t) (f t)) (hAl: ∀a,ps.length=(A a).length)
  (hJ: ∀x,(NX (tids (oJ x))&&Ny nx (tids (oJ x)))=true)
  (hA: ∀x a s',p x a=some s'→∀l D0 As η0 m0,(∀n,η0 n≠none→n<n1)→Go (some l) P N D0 (Wy fun _ _=>False) As η0 m0 ⟨⟨slz N sl0 ps (A a),oJ x,[],nx⟩,.code asg,[.ctn (Rl As η0 m0 (fun _:Unit=>sB x a) fun _=>True)]⟩)
  (hB: ∀x a s',p x a=some s'→∀l D0 As η0 m0,(∀n,η0 n≠none→n<n1)→Go (some l) P N D0 (Wy (Rl As η0 m0 (fun y=>⟨sl0,oK y,[],nx⟩) fun y=>s'= .inr y)) As η0 m0
   ⟨sB x a,.code bo,[.ctn (Rl As η0 m0 (fun y=>⟨sl0,oJ y,[],nx⟩) fun y=>s'= .inl y)]⟩):
  Zh P (.func (.yield l) #[] #[]) A (rgR l i oJ oK As ηc m1 nx) (M9 p):=by
 rintro s x r hp m vs Bs w hv S;cases s with
 |inr y=>cases hp
 |inl x'=>
  obtain⟨s',hs',rfl⟩:=Option.map_eq_some_iff.1 (show(p x' x).map (fun r=>(isL r,r))=some r from hp);obtain⟨h,⟨h1,h2,⟨m2,lm,η2,c1,c2,c3,c4⟩,hb,d,ej⟩,hr⟩:=S.own;have S1:St m (Lp l i .ready none::(reps η2 m2 (oJ x')++(As++Bs))) w:=by
   refine⟨S.os,S.tape,S.output,h,?_,hr⟩;have:=Qt c4 hb d;rw[←ej]at this;have e:Lp l i .ready none::(reps η2 m2 (oJ x')++(As++Bs))=(Lp l i .ready none::(reps η2 m2 (oJ x')++As))++Bs:=by simp
   rw[e]; exact this
  have S2:St m (reps η2 m (oJ x')++(Lp l i .ready none::(As++Bs))) w:=St.ru Env.le_refl lm (S1.perm perm_mid.symm);have lm1:m1≤m:=Mem.tr c2 lm;have hj:=hJ x';simp only[Bool.and_eq_true]at hj;have gA:Gm (Lp l i .ready none::(As++Bs)) ⟨slz N sl0 ps (A x),oJ x',[],nx⟩ η2 m (upz N f ps vs) w:=
   ⟨Su (fun t=>(hsl t).up c1 lm1) (hv.up (fun n v e=>by cases e) (Mem.rfl' m)) (hAl x),fun n d h=>(by cases h),c3,S2,FY hj.1,fun t ht=>I9 hj.2 t ht⟩
  refine DJ.round hi (by rw[hAl x]; exact hv.1.symm) (S2.perm perm_mid) ?_;refine F6 (fun ex f1 w1 q=> ?_) (hA x' x s' hs' l (w,[],false) (Lp l i .ready none::(As++Bs)) ηc m hdc η2 m _ w c1 (Mem.rfl' m) gA);cases ex with
  |normal=>
   obtain⟨_,_,η3,m3,b1,b2,gB⟩:=q;refine⟨m3,reps η3 m3 (sB x' x).ob++(As++Bs),gB.st.perm perm_mid,fun w2 T2=> ?_⟩;have gB':Gm (Lp l i .busy none::(As++Bs)) (sB x' x) η3 m3 f1 w2:=⟨gB.slr,gB.fz,gB.dom,T2.perm perm_mid.symm,gB.wf⟩;refine F6 (fun ex f4 w4 q=> ?_) (hB x' x s' hs' l (w,[],false) (Lp l i .busy none::(As++Bs)) ηc m hdc η3 m3 f1 w2 b1 b2 gB');cases ex with
   |normal=>
    obtain⟨y,hy,η4,m4,d1,d2,g4⟩:=q;refine⟨m4,reps η4 m4 (oJ y)++(As++Bs),g4.st.perm perm_mid,fun w' S'=>⟨m4,by rw[hy]; rfl,d2,?_⟩⟩;obtain⟨h',hx,hr'⟩:=S'.own;have e:Lp l i .ready none::(reps η4 m4 (oJ y)++(As++Bs))=(Lp l i .ready none::(reps η4 m4 (oJ y)++As))++Bs:=by simp
    rw[e]at hx;obtain⟨k1,k2,s1,s2,dd,rfl⟩:=KT hx;exact⟨S'.os,S'.tape,S'.output,_,⟨k1,k2,⟨m4,Mem.rfl' m4,η4,d1,Mem.tr lm1 d2,g4.dom,by rw[hy]; exact s1⟩,s2,dd,rfl⟩,hr'⟩
   |ret=>
    obtain⟨y,hy,η4,m4,d1,d2,g4⟩:=q;refine⟨m4,reps η4 m4 (oK y)++(As++Bs),g4.st.perm perm_mid,fun w' S'=>⟨m4,by rw[hy]; rfl,d2,?_⟩⟩;obtain⟨h',hx,hr'⟩:=S'.own;have e:Lp l i .done (some .ret)::(reps η4 m4 (oK y)++(As++Bs))=(Lp l i .done (some .ret)::(reps η4 m4 (oK y)++As))++Bs:=by simp
    rw[e]at hx;obtain⟨k1,k2,s1,s2,dd,rfl⟩:=KT hx;exact⟨S'.os,S'.tape,S'.output,_,⟨k1,k2,⟨m4,Mem.rfl' m4,η4,d1,Mem.tr lm1 d2,g4.dom,by rw[hy]; exact s1⟩,s2,dd,rfl⟩,hr'⟩
   |exit id=>exact q.elim
   |goto l=>exact q.elim
   |panic ch=>exact q.elim
   |outgrown=>exact q.elim
  |exit id=>exact q.elim
  |goto l=>exact q.elim
  |ret=>exact q.elim
  |panic ch=>exact q.elim
  |outgrown=>exact q.elim
theorem VM (hm:P.follows .mixedOrders=true)(hD:D0.2.2=false){n n0:Nat}(n1 nx:Nat){cf:Cf}{ι κ α:Type}{gt:Nat}{ps:List Nat}{gf:FuncId}{cs:List AV}{r0:AV}(sl0:Sl)(oJ:ι→List Tok)(oK:κ→List Tok)
  (A:α→List AV) (sB:ι→α→AS) (p:ι→α→Option (ι⊕κ)) (x0:ι) {s1:ι⊕κ} (hd: ∀n,η0 n≠none→n<n0)
  (hs: ∀(g:Value) (R:(ι⊕κ)→Mem→Ow),Zh P g A R (M9 p)→Sp P gf (.ow 0::cs) [.hp 0 (.cb g (ι⊕κ) R (.inl x0))] 1 (is r0 [.hp 0 (.cb g (ι⊕κ) R s1)] 1))
  (e:(rgK (adv P N n cf).1,vwL (adv P N n cf).1.s ⟨sl0,oJ x0,[],nx⟩ n0,(vwP (adv P N n cf).1.s ⟨sl0,oJ x0,[],nx⟩).isSome,((adv P N n cf).2).map (·.1))=(some (gt,ps),vwR (adv P N n cf).1.s ⟨sl0,oJ x0,[],nx⟩,true,((adv P N n cf).2).map (·.2)))
  (hsl:get sl0 gt= .fn (.func gf) [] cs) (hok:(cs.all (okA 0)&&((sl0.map (·.2)).all (okA n1)&&Nat.ble n0 n1))=true) (hAl: ∀a,ps.length=(A a).length)
  (hJ: ∀x,(NX (tids (oJ x))&&Ny nx (tids (oJ x)))=true) (hK: ∀y,(NX (tids (oK y))&&Ny nx (tids (oK y)))=true)
  (hA: ∀x a s',p x a=some s'→∀l D0 As η0 m0,(∀n,η0 n≠none→n<n1)→Go (some l) P N D0 (Wy fun _ _=>False) As η0 m0 (asgC (adv P N n cf).1 ⟨slz N sl0 ps (A a),oJ x,[],nx⟩ (Rl As η0 m0 (fun _:Unit=>sB x a) fun _=>True)))
  (hB: ∀x a s',p x a=some s'→∀l D0 As η0 m0,(∀n,η0 n≠none→n<n1)→Go (some l) P N D0 (Wy (Rl As η0 m0 (fun y=>⟨sl0,oK y,[],nx⟩) fun y=>s'= .inr y)) As η0 m0
   (bodC (adv P N n cf).1 (sB x a) (Rl As η0 m0 (fun y=>⟨sl0,oJ y,[],nx⟩) fun y=>s'= .inl y)))
  (h1: ∀x,s1= .inl x→Go none P N D0 Q As η0 m0 ⟨⟨sl0,oJ x,[],nx⟩,.pop,(adv P N n cf).1.K⟩)
  (h2: ∀y,s1= .inr y→Go none P N D0 Q As η0 m0 ⟨⟨sl0,oK y,[],nx⟩,.ret,(adv P N n cf).1.K⟩):Go none P N D0 Q As η0 m0 cf:=by
 simp only[Prod.mk.injEq]at e;obtain⟨e1,e2,e4,e3⟩:=e;refine BA hm (.of e3) ?_;generalize (adv P N n cf).1=c0 at*;obtain⟨s,md,K⟩:=c0;unfold rgK at e1;split at e1
 ·rename_i g' ps' asg bo hmd;simp only at hmd; subst hmd;simp only[Option.some.injEq,Prod.mk.injEq]at e1;obtain⟨rfl,rfl⟩:=e1;simp only[Bool.and_eq_true]at hok;obtain⟨o1,o2,o3⟩:=hok;have o3:=Nat.le_of_ble_eq_true o3;intro η m f w a1 a2 g;obtain⟨η1,m1,l1,le1,g1⟩:=MW e2 e4 hd a1 g;have hfn:Rel η1 m1 (get sl0 g') (f g'):=g1.slr g';rw[hsl]at hfn;obtain⟨us,caps,hv,hu,hc⟩:=hfn.fn_inv;have:=hu.nil_inv; subst this;have he: ∀k,k<n1→V5 η1 n1 k=η1 k:=fun k hk=>if_pos hk;have hslc: ∀t,Rel (V5 η1 n1) m1 (get sl0 t) (f t):=fun t=>PK he (T7 o2 t) (g1.slr t);have hle:η0.le (V5 η1 n1):=fun k v hk=>by
   unfold V5; rw[if_pos (Nat.lt_of_lt_of_le (hd k (by rw[hk]; simp)) o3)]; exact le1 k v hk
  have hdc: ∀n,V5 η1 n1 n≠none→n<n1:=fun k hk=>by
   unfold V5 at hk;split at hk
   ·assumption
   ·exact absurd rfl hk
  have hce:(V5 η1 n1).le η1:=fun k v hk=>by
   unfold V5 at hk;split at hk
   ·exact hk
   ·cases hk
  have eg: ∀(args:Array Value) w,(callFunc gf args).run P w= .ok (.enter gf args) w:=
   (hs undef (fun _ _ _=>False) (fun s x r _ m vs As w _ S=>by
    obtain⟨h,⟨h1,h2,⟨_,_,ff⟩,_⟩,_⟩:=S.own;exact ff.elim)).1
  have hps:ps'.toList.toArray=ps':=by simp
  rw[←hps];refine EH g1.st (show ev f (.tmp g')=_ from hv) eg (fun l i w1 hi S1=> ?_) hD;have hcb:Zh P (.func (.yield l) #[] #[]) A (rgR l i oJ oK As (V5 η1 n1) m1 nx) (M9 p):=rg_cb hi hdc hslc hAl hJ hA hB;have sp:=(hs _ _ hcb).2 (none0.put 0 (.func (.yield l) #[] #[])) m1 [] w1 (.func (.yield l) #[] #[]::caps) (Bo.cons (.ow Env.put_self rfl) (JH (n:=0) (fun k hk=>absurd hk (Nat.not_lt_zero k)) o1 hc))
   (fun k hk=>by
    rcases Env.put_dom hk with q|q
    ·exact absurd rfl q
    ·omega)
   (by
    obtain⟨x,hx,hr⟩:=S1.own;exact⟨S1.os,S1.tape,S1.output,x,Vc ⟨0,Env.put_self,m1,Mem.rfl' m1,η1,hce,Mem.rfl' m1,g1.dom,hx⟩,hr⟩)
  refine sp.mono ?_;rintro v w2 ⟨M,η2,r,obs',n2,l2,le2,⟨rfl,rfl,rfl⟩,dom2,rr,S2⟩;obtain⟨x,hx,hr⟩:=S2.own;obtain⟨b,hb,M0,lM,η3,c1,c2,c3,c4⟩:=Sy hx;have S3:St M (Lp l i (rgSt s1).1 (rgSt s1).2::(reps η3 M0 (rgOb oJ oK s1)++As)) w2:=⟨S2.os,S2.tape,S2.output,x,c4,hr⟩;refine⟨M,(rgSt s1).1,(rgSt s1).2,_,l2,(by cases s1<;>exact fun h=>(by cases h)),S3,fun M' w3 lM' S4=> ?_⟩;have S5:=St.ru Env.le_refl (Mem.tr lM lM') S4;have lm:m0≤M':=Mem.tr a2 (Mem.tr l1 (Mem.tr l2 lM'));have hsr: ∀t,Rel η3 M' (get sl0 t) (f t):=fun t=>(hslc t).up c1 (Mem.tr l2 lM');cases s1 with
  |inl x1=>
   have hj:=hJ x1;simp only[Bool.and_eq_true]at hj;exact h1 x1 rfl η3 M' f w3 (Env.le_tr hle c1) lm ⟨hsr,fun n d h=>(by cases h),c3,S5,FY hj.1,fun t ht=>I9 hj.2 t ht⟩
  |inr y=>
   have hj:=hK y;simp only[Bool.and_eq_true]at hj;have gr:=OG hm (cf:=⟨⟨sl0,oK y,[],nx⟩,.code .ret,K⟩) rfl trivial (h2 y rfl);exact gr η3 M' f w3 (Env.le_tr hle c1) lm ⟨hsr,fun n d h=>(by cases h),c3,S5,FY hj.1,fun t ht=>I9 hj.2 t ht⟩
 ·cases e1
end
def eqNK (P:Program)(cf:Cf):Option (Bool×List D):=
 match EF cf with
 |some a=>match a.o.op with
  | .binOp .eql t x (.const (.pointer none)) _=>match P.underlying t,aev a.sl x with
   |some (.pointer _),.d (.op p ds)=>some (p,ds)
   |_,_=>none
  |_=>none
 |none=>none
def nckK (cf:Cf):Option (Bool×List D):=
 match EF cf with
 |some a=>match a.o.op with
  | .nilCheck x=>match aev a.sl x with
   | .d (.op p ds)=>some (p,ds)
   |_=>none
  |_=>none
 |none=>none
def Y1 (P:Program)(cf:Cf):Option (D×Int×Int):=
 match EF cf with
 |some a=>match a.o.op with
  | .slice t x none (some h) (some k)=>match P.underlying t,aev a.sl x,Jo a.sl h,Jo a.sl k with
   |some (.slice el),.d d,some (_,i),some (_,j)=>match HA P el with
    |some _=>some (d,i,j)
    |none=>none
   |_,_,_,_=>none
  |_=>none
 |none=>none
section
variable {ρ:Option Nat}{P:Program}{N:Nat}{D0:Dw}{Q:C5}{As:List Ow}{η0:Env}{m0:Mem}
theorem Ya {m:Mem}{ds:List D}{v:Value}(h:FR m (.pf ds) v): ∃b off,v=pt b off:=by
 cases h with
 |pf h _ _ _=>obtain⟨b,off,_,_,_,rfl,_⟩:=h; exact⟨b,off,rfl⟩
theorem go_eqN (hm:P.follows .mixedOrders=true){n:Nat}{cf:Cf}{p:Bool}{ds:List D}
  (e:(eqNK P (adv P N n cf).1,((adv P N n cf).2++A3 (adv P N n cf).1).map (·.1))=(some (p,ds),((adv P N n cf).2++A3 (adv P N n cf).1).map (·.2)))
  (g:Go ρ P N D0 Q As η0 m0 (A9 N (adv P N n cf).1 (.d (.t (!p))) [])):Go ρ P N D0 Q As η0 m0 cf:=by
 simp only[Prod.mk.injEq]at e;obtain⟨e1,e3⟩:=e;obtain⟨he1,he2⟩:=EqsOk.two e3;refine BA hm he1 ?_;generalize (adv P N n cf).1=c0 at*;unfold eqNK at e1;split at e1
 ·rename_i a ha;rw[CU ha]at he2;split at e1
  ·rename_i t xo t' hop;split at e1
   ·rename_i el p0 q0 hu hx;simp only[Option.some.injEq,Prod.mk.injEq]at e1;obtain⟨rfl,rfl⟩:=e1;refine CT (rd:=[]) ha he2 HB (fun hp=> ?_) g;obtain⟨ll,⟨dst,op',ty,pos,af,gd⟩,gg,sl,es⟩:=a;simp only at hop hx⊢; subst hop;refine⟨Nat.le_refl _,fun rest Q η m f w As hr hz hn S hk=> ?_⟩;have rx:=Ao hr xo;rw[hx]at rx;have fx:=rx.dd;refine Av (v:=vb (!p0)) (w':=w) rfl (fun _ e=>by cases e) ?_ (hk η m w _ Env.le_refl (Mem.rfl' m) (fun n h=> .inl h) (.d (.t _)) S);have key:(Op.equal t (ev f xo) (.pointer none)).run P w= .ok (!p0) w:=by
     show(Op.equalIn (9999+1) _ _ _).run P w=_;cases p0 with
     |false=>generalize ev f xo=v at fx; cases fx; unfold Op.equalIn; simp[run_underlying hu]
     |true=>
      generalize ev f xo=v at fx;cases fx with
      |op1 h=>obtain⟨b,off,rfl⟩:=Ya h; unfold Op.equalIn; simp[run_underlying hu,pt]
    have hv: ∃q,ev f xo= .pointer q:=by
     cases p0 with
     |false=>generalize ev f xo=v at fx; cases fx; exact⟨_,rfl⟩
     |true=>
      generalize ev f xo=v at fx;cases fx with
      |op1 h=>obtain⟨b,off,rfl⟩:=Ya h; exact⟨_,rfl⟩
    obtain⟨q,hq⟩:=hv;rw[hq]at key;have hg:(eqGuard .eql t xo (.const (.pointer none)) (.pointer q) (.pointer none)).run P w= .ok () w:=by simp[eqGuard]
    have hc:ev f (.const (.pointer none))= .pointer none:=rfl;simp only[execOp,hq,hc];simp[hg,binOp,key]
   ·cases e1
  ·cases e1
 ·cases e1
theorem go_nck (hm:P.follows .mixedOrders=true){n:Nat}{cf:Cf}{p:Bool}{ds ds':List D}(hq:gOf (adv P N n cf).1=true→p=true∧ds=ds')
  (e:(nckK (adv P N n cf).1,((adv P N n cf).2++A3 (adv P N n cf).1).map (·.1))=(some (p,ds),((adv P N n cf).2++A3 (adv P N n cf).1).map (·.2)))
  (g:Go ρ P N D0 Q As η0 m0 (A9 N (adv P N n cf).1 (.d (.pf ds')) [])):Go ρ P N D0 Q As η0 m0 cf:=by
 simp only[Prod.mk.injEq]at e;obtain⟨e1,e3⟩:=e;obtain⟨he1,he2⟩:=EqsOk.two e3;refine BA hm he1 ?_;generalize (adv P N n cf).1=c0 at*;unfold nckK at e1;split at e1
 ·rename_i a ha;rw[CU ha]at he2;split at e1
  ·rename_i xo hop;split at e1
   ·rename_i p0 q0 hx;simp only[Option.some.injEq,Prod.mk.injEq]at e1;obtain⟨rfl,rfl⟩:=e1;refine CT (rd:=[]) ha he2 HB (fun hp=> ?_) g;obtain⟨rfl,rfl⟩:=hq (H0 ha hp);obtain⟨ll,⟨dst,op',ty,pos,af,gd⟩,gg,sl,es⟩:=a;simp only at hop hx⊢; subst hop;refine⟨Nat.le_refl _,fun rest Q η m f w As hr hz hn S hk=> ?_⟩;have rx:=Ao hr xo;rw[hx]at rx;have fx:=rx.dd;have fp:FR m (.pf q0) (ev f xo):=by generalize ev f xo=v at fx; cases fx with|op1 h=>exact h
    obtain⟨b,off,hv⟩:=Ya fp;refine Av (v:=ev f xo) (w':=w) rfl (fun _ e=>by cases e) ?_ (hk η m w _ Env.le_refl (Mem.rfl' m) (fun n h=> .inl h) (.d fp) S);rw[hv];simp[execOp,hv,pt]
   ·cases e1
  ·cases e1
 ·cases e1
theorem Yv (hm:P.follows .mixedOrders=true){n k:Nat}{cf:Cf}{α:Type}{E:α→List D}{xs:List α}{j:Int}{z0 z:α}(hE: ∀x,(E x).length=k)(hq:idx xs j=some z0)
  (e:((Va P (adv P N n cf).1).map (fun r=>(r.1,r.2.1,r.2.2.1,(cvL [] ((E z).map dv) r.2.2.2.1).1,r.2.2.2.2.1,r.2.2.2.2.2.1)),((adv P N n cf).2++A3 (adv P N n cf).1).map (·.1))=(some (.sl α E xs,j,0,(E z).map dv,k,true),((adv P N n cf).2++A3 (adv P N n cf).1).map (·.2)))
  (g:Go ρ P N D0 Q As η0 m0 (push N (adv P N n cf).1 (Wn P (adv P N n cf).1 k α E (xs.set j.toNat z)))):Go ρ P N D0 Q As η0 m0 cf:=by
 simp only[Prod.mk.injEq]at e;obtain⟨e1,e3⟩:=e;obtain⟨he1,-⟩:=EqsOk.two e3;refine BA hm he1 ?_;generalize (adv P N n cf).1=c0 at*;cases hk:Va P c0 with
 |none=>rw[hk]at e1; cases e1
 |some r=>
  obtain⟨d,j',fo,ds,k',ok,nn,p,rd,fw⟩:=r;have hS:Wn P c0 k α E (xs.set j.toNat z)=⟨.no,rd,p::fw,enO c0.s.nx (.row nn k α E (xs.set j.toNat z)::Jq fw),c0.s.nx+(1+(Jq fw).length),[]⟩:=by unfold Wn; rw[hk]
  rw[hS]at g;rw[hk]at e1;simp only[Option.map_some,Option.some.injEq,Prod.mk.injEq]at e1;obtain⟨e1,e2,e4,e5,e6,e7⟩:=e1;subst e1 e2 e4 e6 e7;unfold Va at hk;split at hk
  ·rename_i a ha;split at hk
   ·rename_i t x y hg hop;split at hk
    ·rename_i n' jj sz fo2 ds0 i h1 h2 hi;split at hk
     ·rename_i d' sz' p' hrow;simp only[Option.some.injEq,Prod.mk.injEq]at hk;obtain⟨q1,q2,q3,q4,q5,q6,q7,q8,q9,q10⟩:=hk;subst q1 q2 q3 q5 q7 q8 q9 q10;simp only[Bool.and_eq_true]at q6;obtain⟨⟨b1,b2⟩,b3,b4,b5⟩:=q6;have b1:=Nat.eq_of_beq_eq_true b1;have b2:=Nat.eq_of_beq_eq_true b2;obtain⟨hmem,i0,α',E',xs',hd,hp⟩:=Kc hrow;cases hd; subst hp;subst b1;have hgd:=Cr ha hg;have csub:=Io (ob:=c0.s.ob) (cs:=ds0);refine E2 ha hg ?_ ?_ g
      ·obtain⟨l,⟨dst,op,ty,pos,af,gd⟩,gg,sl,es⟩:=a;simp only at hop hgd h1 h2⊢; subst hop hgd;refine⟨Nat.le_add_right _ _,fun rest Q η m f w As hr hfz hn S hk=> ?_⟩;simp only at S hk hn;rw[Be,List.append_assoc]at S;have S0:St m (rep η m (.row n' sz α E xs)::(reps η m (Cq c0.s.ob ds0).2.2++(reps η m (Cq c0.s.ob ds0).2.1++As))) w:=S;have S1:=S0.perm List.perm_middle.symm;obtain⟨m1,l1,K1,S2⟩:=H2 b5 S1;obtain⟨v,cs,a1,a2,a3,a4,S3⟩:=St.openRow (m:=m1) (St.imp0 S2 fun h hh=>rep.up Env.le_refl l1 hh);have S4:=S3.perm List.perm_middle.symm;have S5:=St.ru Env.le_refl l1 S4;obtain⟨K2,S6⟩:=IF b4 S5;have hr1: ∀t,Rel η m1 (get sl t) (f t):=fun t=>(hr t).up Env.le_refl l1;obtain⟨c1,c2⟩:=FQ h2 (Ao hr1 y);have c3:=H6 c1 K1 K2;rw[q4]at c3;replace c3:=NL (ob:=[]) (es:=(E z).map dv) (fun n _ d hd=>by simp[frD,find]at hd) c3;rw[e5]at c3;have c4:=FRL.ofRelv c3;have rx:=Ao hr1 x; rw[h1]at rx;obtain⟨v',hv',hp'⟩:=rx.pe_inv;rw[a1]at hv'; cases hv';letI:=Ki E sz;have hsz:(ev f y).cells.size=ds0.length:=by rw[c1.1]; simp
       refine Wo (α:=α) (i:=0) (z:=z) S6 rfl rfl (by rw[Nat.add_zero]at hp'; exact hp') rfl (QB a3 a4) hq (by rw[hsz,←b2]; exact Cc hi) (PJ c4.one) ⟨c4,hE z⟩ fun w' cs' S7 hrep=> ?_;have hrep':=SV hrep;refine hk η m1 w' undef Env.le_refl l1 (fun n h=> .inl h) .no ?_;rw[Be,List.append_assoc,GW];show St m1 (rep η m1 (.row n' sz α E (xs.set jj.toNat z))::((Jq (Cq c0.s.ob ds0).2.2).map (rep η m1)++(reps η m1 (Cq c0.s.ob ds0).2.1++As))) w';have T1:=St.closeRow (η:=η) (n:=n') a1 a2 hrep'.1 hrep'.2 S7;have T2:=Il K1 (Im b4 K2 T1);exact T2.perm ((List.Perm.append_left _ List.perm_middle).trans List.perm_middle)
      ·refine⟨fun q hq=> ?_,FY b3,?_,fun t ht=> ?_⟩
       ·simp only[List.cons_append,List.mem_cons]at hq;rcases hq with h|h
        ·subst h; exact hmem
        ·exact csub q h
       ·simp only; rw[Ec]; exact List.nodup_range'
       ·simp only at ht⊢;rw[Ec,List.mem_range']at ht;obtain⟨i2,hi2,rfl⟩:=ht;simp only[List.length_cons]at hi2;omega
     ·cases hk
    ·cases hk
   ·cases hk
  ·cases hk
theorem YE (hm:P.follows .mixedOrders=true){n k:Nat}{cf:Cf}{α:Type}{E:α→List D}{xs:List α}(hE: ∀x,(E x).length=k)
  (e:(Y1 P (adv P N n cf).1,((adv P N n cf).2++A3 (adv P N n cf).1).map (·.1))=(some (.sl α E xs,(xs.length:Int),(xs.length:Int)),((adv P N n cf).2++A3 (adv P N n cf).1).map (·.2)))
  (g:Go ρ P N D0 Q As η0 m0 (A9 N (adv P N n cf).1 (.d (.kp α E xs)) [])):Go ρ P N D0 Q As η0 m0 cf:=by
 simp only[Prod.mk.injEq]at e;obtain⟨e1,e3⟩:=e;obtain⟨he1,he2⟩:=EqsOk.two e3;refine BA hm he1 ?_;generalize (adv P N n cf).1=c0 at*;unfold Y1 at e1;split at e1
 ·rename_i a ha;rw[CU ha]at he2;split at e1
  ·rename_i t xo ho ko hop;split at e1
   ·rename_i el d i1 i i2 j hu hx hi hj;split at e1
    case h_2=>cases e1
    rename_i inf hinf;simp only[Option.some.injEq,Prod.mk.injEq]at e1;obtain⟨rfl,rfl,rfl⟩:=e1;refine CT (rd:=[]) ha he2 HB (fun hp=> ?_) g;obtain⟨ll,⟨dst,op',ty,pos,af,gd⟩,gg,sl,es⟩:=a;simp only at hop hx hi hj⊢; subst hop;refine⟨Nat.le_refl _,fun rest Q η m f w As hr hz hn S hk=> ?_⟩;have rx:=Ao hr xo;rw[hx]at rx;have fx:=rx.dd;have ei:=BR hi hr;have ej:=BR hj hr;have hs:=Cc hinf;obtain⟨cs,h1,h2⟩: ∃cs,SlC m k (ev f xo) cs xs.length∧ @By α (Ki E k) m cs xs:=RK fx hE;obtain⟨a0,c0,hv⟩:=h1.val;have hcap:xs.length≤c0:=by
     obtain⟨_,_,⟨h0,_⟩|⟨b,off,cap,l,e,fr,hv',hn,_⟩⟩:=h1
     ·omega
     ·rw[hv]at hv'; cases hv'; exact hn
    have fk:FR m (.kp α E xs) (.slice a0 xs.length xs.length):=by
     refine .kp ?_ fun a n c q=>by cases q; exact Nat.le_refl _
     rw[hv]at fx h1;cases fx with
     | @sl _ _ _ sz' _ cs' h hE' hl hr=>
      refine .sl (cs:=cs') (sz:=sz') ?_ hE' hl hr;obtain⟨q1,q2,⟨q3,q4⟩|⟨b,off,cap,l,e,fr,hv',hn',hb,hc⟩⟩:=h
      ·exact⟨q1,q2,.inl ⟨q3,a0,xs.length,by rw[q3]⟩⟩
      ·cases hv'; exact⟨q1,q2,.inr ⟨b,off,xs.length,l,e,fr,rfl,Nat.le_refl _,hb,hc⟩⟩
    refine Av (v:= .slice a0 xs.length xs.length) (w':=w) rfl (fun _ e=>by cases e) ?_ (hk η m w _ Env.le_refl (Mem.rfl' m) (fun n h=> .inl h) (.d fk) S);have c1:(xs.length:Int)≤(c0:Int):=by omega
    have c2:(0:Int)≤(xs.length:Int):=by omega
    have hb: ∀w,(Instr.sliceBounds true xs.length c0 none (some (.int i1 xs.length)) (some (.int i2 xs.length))).run P w= .ok (0,xs.length,xs.length) w:=by
     intro w;simp[Instr.sliceBounds,Instr.sliceBound,asIntOf,c1,c2]
    simp only[execOp,hv,Option.map_some,Option.map_none,ei,ej];simp[Instr.slice,Instr.sliceAt,Sem.run_bind,run_underlying hu,hb,hs];intro _;cases a0 with
    |none=>rfl
    |some a=>obtain⟨b,off,sp⟩:=a; cases sp<;>simp[Addr.add]
   ·cases e1
  ·cases e1
 ·cases e1
end
section
variable {P:Program}{N:Nat}
theorem sp_ofR {k:FuncId}{fn:Func}{c:Code}{args:List AV}{obs:List AObj}{n0:Nat}{Po:AV→List AObj→Nat→Prop}(hc: ∀(a:Array Value) w,(callFunc k a).run P w= .ok (.enter k a) w)(hf:P.funcs[k]? =some fn)(hb:fn.body=some c)(hN:fn.ntmps=N)
  (hle:Nat.ble args.length N=true) (h: ∀D0 As η0 m0,D0.2.2=false→(∀n,η0 n≠none→n<n0)→Go none P N D0 (UW P N fn (NW As η0 m0 Po)) As η0 m0 ⟨OQ args obs n0,.code c,[]⟩):Sp P k args obs n0 Po:=by
 refine⟨hc,fun η m As w vs hv hd S=> ?_⟩;refine CD hf hb hN (by rw[←hv.1]; exact Nat.le_of_ble_eq_true hle) ?_;exact h (w,[],false) As η m rfl hd η m (f0 vs) w Env.le_refl (Mem.rfl' m) (PZ hv hd S)
end
def Zd (cf:Cf):Bool:=match cf.md,cf.K with| .ret,[]=>true|_,_=>false
section
variable {ρ:Option Nat}{P:Program}{N:Nat}{D0:Dw}{Q:C5}{As:List Ow}{η0:Env}{m0:Mem}
theorem Yw (hm:P.follows .mixedOrders=true){n n0:Nat}{cf:Cf}{ι:Type}{J:ι→AS}{ok:ι→Prop}{Jr:Fr→World→Prop}(bk:Bk As η0 m0 J ok Jr)(x:ι)(hx:ok x)(hd: ∀n,η0 n≠none→n<n0)
  (e:(Zd (adv P N n cf).1,vwL (adv P N n cf).1.s (J x) n0,(vwP (adv P N n cf).1.s (J x)).isSome,((adv P N n cf).2).map (·.1))=(true,vwR (adv P N n cf).1.s (J x),true,((adv P N n cf).2).map (·.2))):
  Go ρ P N D0 (Wy Jr) As η0 m0 cf:=by
 simp only[Prod.mk.injEq]at e;obtain⟨e1,e2,e4,e3⟩:=e;refine BA hm (.of e3) ?_;generalize (adv P N n cf).1=c0 at*;obtain⟨s,md,K⟩:=c0;unfold Zd at e1;split at e1
 ·rename_i hmd hK;simp only at hmd hK; subst hmd hK;intro η m f w a1 a2 g;obtain⟨η',m',l,le,g'⟩:=MW e2 e4 hd a1 g;exact bk.h f w ⟨x,hx,η',m',le,Mem.tr a2 l,g'⟩
 ·cases e1
end
end Go.Ax
end
section
namespace Go.Proofs.YtbajlmaijjcbmaaGreatDoor
open Go Go.Gw Go.Ax Tryz
section
variable {ρ:Option Nat}{N:Nat}{D0:Dw}{Q:C5}{As:List Ow}{η0:Env}{m0:Mem}{cf:Cf}
theorem spR {k:FuncId}{fn:Func}{c:Code}{args:List AV}{obs:List AObj}{n0:Nat}{Po:AV→List AObj→Nat→Prop}(hc: ∀(a:Array Value) w,(callFunc k a).run prog w= .ok (.enter k a) w)(hf:prog.funcs[k]? =some fn)(hb:fn.body=some c)(hN:fn.ntmps=N)
  (hle:Nat.ble args.length N=true) (h: ∀D0 As η0 m0,D0.2.2=false→(∀n,η0 n≠none→n<n0)→G none N D0 (UW prog N fn (NW As η0 m0 Po)) As η0 m0 ⟨OQ args obs n0,.code c,[]⟩):Sp prog k args obs n0 Po:=
 sp_ofR hc hf hb hN hle fun a b c d e f=>(h a b c d e f).h
theorem gcb {σ α:Type}{A:α→List AV}{g:Value}{R:σ→Mem→Ow}{p:σ→α→Option (Bool×σ)}{s:σ}(x:α){r:Bool×σ}(hg:Zh prog g A R p)(hp:p s x=some r)
 (e:((cbK (adv prog N 100000 cf).1 (A x)).map (fun q=>(q.2.2.1,q.2.2.2)),(A x).all (okA 0),((adv prog N 100000 cf).2++A3 (adv prog N 100000 cf).1).map (·.1))=(some (.cb g σ R s,A x),true,((adv prog N 100000 cf).2++A3 (adv prog N 100000 cf).1).map (·.2)))
 (gg:G ρ N D0 Q As η0 m0 (push N (adv prog N 100000 cf).1 (cbS (adv prog N 100000 cf).1 (A x) (.cb g σ R r.2) (.d (.t r.1))))):G ρ N D0 Q As η0 m0 cf:=⟨go_cb BW hg hp e gg.h⟩
theorem geqN {p:Bool}{ds:List D}
 (e:(eqNK prog (adv prog N 100000 cf).1,((adv prog N 100000 cf).2++A3 (adv prog N 100000 cf).1).map (·.1))=(some (p,ds),((adv prog N 100000 cf).2++A3 (adv prog N 100000 cf).1).map (·.2)))
 (g:G ρ N D0 Q As η0 m0 (A9 N (adv prog N 100000 cf).1 (.d (.t (!p))) [])):G ρ N D0 Q As η0 m0 cf:=⟨go_eqN BW e g.h⟩
theorem gnck {p:Bool}{ds ds':List D}(hq:gOf (adv prog N 100000 cf).1=true→p=true∧ds=ds')
 (e:(nckK (adv prog N 100000 cf).1,((adv prog N 100000 cf).2++A3 (adv prog N 100000 cf).1).map (·.1))=(some (p,ds),((adv prog N 100000 cf).2++A3 (adv prog N 100000 cf).1).map (·.2)))
 (g:G ρ N D0 Q As η0 m0 (A9 N (adv prog N 100000 cf).1 (.d (.pf ds')) [])):G ρ N D0 Q As η0 m0 cf:=⟨go_nck BW hq e g.h⟩
theorem gnckG {c:Bool}{p:Bool}{ds ds':List D}(hq:c=true→p=true∧ds=ds')
 (e:(gOf (adv prog N 100000 cf).1,nckK (adv prog N 100000 cf).1,((adv prog N 100000 cf).2++A3 (adv prog N 100000 cf).1).map (·.1))=(c,some (p,ds),((adv prog N 100000 cf).2++A3 (adv prog N 100000 cf).1).map (·.2)))
 (g:G ρ N D0 Q As η0 m0 (A9 N (adv prog N 100000 cf).1 (.d (.pf ds')) [])):G ρ N D0 Q As η0 m0 cf:=gnck (fun h=>hq (Eq.trans (Eq.symm (congrArg Prod.fst e)) h)) (congrArg Prod.snd e) g
theorem gretB {n0:Nat}{ι:Type}{J:ι→AS}{ok:ι→Prop}{Jr:Fr→World→Prop}(bk:Bk As η0 m0 J ok Jr)(hd: ∀n,η0 n≠none→n<n0)(x:ι)(hx:ok x)
 (e:(Zd (adv prog N 100000 cf).1,vwL (adv prog N 100000 cf).1.s (J x) n0,(vwP (adv prog N 100000 cf).1.s (J x)).isSome,((adv prog N 100000 cf).2).map (·.1))=(true,vwR (adv prog N 100000 cf).1.s (J x),true,((adv prog N 100000 cf).2).map (·.2))):
 G ρ N D0 (Wy Jr) As η0 m0 cf:=⟨Yw BW bk x hx hd e⟩
theorem gclip {k:Nat}{α:Type}{E:α→List D}{xs:List α}(hE: ∀x,(E x).length=k)
 (e:(Y1 prog (adv prog N 100000 cf).1,((adv prog N 100000 cf).2++A3 (adv prog N 100000 cf).1).map (·.1))=(some (.sl α E xs,(xs.length:Int),(xs.length:Int)),((adv prog N 100000 cf).2++A3 (adv prog N 100000 cf).1).map (·.2)))
 (g:G ρ N D0 Q As η0 m0 (A9 N (adv prog N 100000 cf).1 (.d (.kp α E xs)) [])):G ρ N D0 Q As η0 m0 cf:=⟨YE BW hE e g.h⟩
theorem gstOc {k:Nat}{α:Type}{E:α→List D}{xs:List α}{j:Int}{z0:α}(z:α)(hE: ∀x,(E x).length=k)(hq:idx xs j=some z0)
 (e:((Va prog (adv prog N 100000 cf).1).map (fun r=>(r.1,r.2.1,r.2.2.1,(cvL [] ((E z).map dv) r.2.2.2.1).1,r.2.2.2.2.1,r.2.2.2.2.2.1)),((adv prog N 100000 cf).2++A3 (adv prog N 100000 cf).1).map (·.1))=(some (.sl α E xs,j,0,(E z).map dv,k,true),((adv prog N 100000 cf).2++A3 (adv prog N 100000 cf).1).map (·.2)))
 (g:G ρ N D0 Q As η0 m0 (push N (adv prog N 100000 cf).1 (Wn prog (adv prog N 100000 cf).1 k α E (xs.set j.toNat z)))):G ρ N D0 Q As η0 m0 cf:=⟨Yv BW hE hq e g.h⟩
end
section
variable {N:Nat}{D0:Dw}{Q:C5}{As:List Ow}{η0:Env}{m0:Mem}{cf:Cf}
theorem WW (hD:D0.2.2=false){n0:Nat}(n1 nx:Nat){ι κ α:Type}{gt:Nat}{ps:List Nat}{gf:FuncId}{cs:List AV}{r0:AV}(sl0:Sl)(oJ:ι→List Tok)(oK:κ→List Tok)
  (A:α→List AV) (sB:ι→α→AS) (p:ι→α→Option (ι⊕κ)) (x0:ι) {s1:ι⊕κ} (hd: ∀n,η0 n≠none→n<n0)
  (hs: ∀(g:Value) (R:(ι⊕κ)→Mem→Ow),Zh prog g A R (M9 p)→Sp prog gf (.ow 0::cs) [.hp 0 (.cb g (ι⊕κ) R (.inl x0))] 1 (is r0 [.hp 0 (.cb g (ι⊕κ) R s1)] 1))
  (e:(rgK (adv prog N 100000 cf).1,vwL (adv prog N 100000 cf).1.s ⟨sl0,oJ x0,[],nx⟩ n0,(vwP (adv prog N 100000 cf).1.s ⟨sl0,oJ x0,[],nx⟩).isSome,((adv prog N 100000 cf).2).map (·.1))=(some (gt,ps),vwR (adv prog N 100000 cf).1.s ⟨sl0,oJ x0,[],nx⟩,true,((adv prog N 100000 cf).2).map (·.2)))
  (hsl:get sl0 gt= .fn (.func gf) [] cs) (hok:(cs.all (okA 0)&&((sl0.map (·.2)).all (okA n1)&&Nat.ble n0 n1))=true) (hAl: ∀a,ps.length=(A a).length)
  (hJ: ∀x,(NX (tids (oJ x))&&Ny nx (tids (oJ x)))=true) (hK: ∀y,(NX (tids (oK y))&&Ny nx (tids (oK y)))=true)
  (hA: ∀x a s',p x a=some s'→∀l D0 As η0 m0,(∀n,η0 n≠none→n<n1)→∀Jp,Bk As η0 m0 (fun _:Unit=>sB x a) (fun _=>True) Jp→G (some l) N D0 (Wy fun _ _=>False) As η0 m0 (asgC (adv prog N 100000 cf).1 ⟨slz N sl0 ps (A a),oJ x,[],nx⟩ Jp))
  (hB: ∀x a s',p x a=some s'→∀l D0 As η0 m0,(∀n,η0 n≠none→n<n1)→∀Jp,Bk As η0 m0 (fun y=>⟨sl0,oJ y,[],nx⟩) (fun y=>s'= .inl y) Jp→∀Jr,Bk As η0 m0 (fun y=>⟨sl0,oK y,[],nx⟩) (fun y=>s'= .inr y) Jr→
   G (some l) N D0 (Wy Jr) As η0 m0 (bodC (adv prog N 100000 cf).1 (sB x a) Jp))
  (h1: ∀x,s1= .inl x→G none N D0 Q As η0 m0 ⟨⟨sl0,oJ x,[],nx⟩,.pop,(adv prog N 100000 cf).1.K⟩)
  (h2: ∀y,s1= .inr y→G none N D0 Q As η0 m0 ⟨⟨sl0,oK y,[],nx⟩,.ret,(adv prog N 100000 cf).1.K⟩):G none N D0 Q As η0 m0 cf:=
 ⟨VM BW hD n1 nx sl0 oJ oK A sB p x0 hd hs e hsl hok hAl hJ hK (fun x a s' h l D0 As η0 m0 hd=>(hA x a s' h l D0 As η0 m0 hd _ ⟨fun _ _ h=>h⟩).h)
  (fun x a s' h l D0 As η0 m0 hd=>(hB x a s' h l D0 As η0 m0 hd _ ⟨fun _ _ h=>h⟩ _ ⟨fun _ _ h=>h⟩).h) (fun x h=>(h1 x h).h) fun y h=>(h2 y h).h⟩
end
end Go.Proofs.YtbajlmaijjcbmaaGreatDoor
end
section
namespace Go.Proofs.YtbajlmaijjcbmaaGreatDoor
open Go Go.Gw Go.Ax Tryz
def str_0:ByteArray:=⟨#[0,1,2,2,3,3,3,3,4,4,4,4,4,4,4,4,5,5,5,5,5,5,5,5,5,5,5,5,5,5,5,5,6,6,6,6,6,6,6,6,6,6,6,6,6,6,6,6,6,6,6,6,6,6,6,6,6,6,6,6,6,6,6,6,7,7,7,7,7,7,7,7,7,7,7,7,7,7,7,7,7,7,7,7,7,7,7,7,7,7,7,7,7,7,7,7,7,7,7,7,7,7,7,7,7,7,7,7,7,7,7,7,7,7,7,7,7,7,7,7,7,7,7,7,7,7,7,7,8,8,8,8,8,8,8,8,8,8,8,8,8,8,8,8,8,8,8,8,8,8,8,8,8,8,8,8,8,8,8,8,8,8,8,8,8,8,8,8,8,8,8,8,8,8,8,8,8,8,8,8,8,8,8,8,8,8,8,8,8,8,8,8,8,8,8,8,8,8,8,8,8,8,8,8,8,8,8,8,8,8,8,8,8,8,8,8,8,8,8,8,8,8,8,8,8,8,8,8,8,8,8,8,8,8,8,8,8,8,8,8,8,8,8,8,8,8,8,8,8,8,8,8,8,8,8,8]⟩
structure g_api_Sig where
 E:UInt64
 S:UInt64
instance:GoT g_api_Sig where
 sz:=GoT.sz (UInt64×UInt64)
 rep m cs x:=GoT.rep (α:=UInt64×UInt64) m cs (x.E,x.S)
 len h:=GoT.len (α:=UInt64×UInt64) h
 up l h:=GoT.up (α:=UInt64×UInt64) l h
 one h:=GoT.one (α:=UInt64×UInt64) h
instance:Inhabited g_api_Sig:=⟨⟨default,default⟩⟩
structure g_api_Promise where
 Log:Int
 At:Int
 Leaf:UInt64×UInt64
 Sig:g_api_Sig
instance:GoT g_api_Promise where
 sz:=GoT.sz (Int×Int×(UInt64×UInt64)×g_api_Sig)
 rep m cs x:=GoT.rep (α:=Int×Int×(UInt64×UInt64)×g_api_Sig) m cs (x.Log,x.At,x.Leaf,x.Sig)
 len h:=GoT.len (α:=Int×Int×(UInt64×UInt64)×g_api_Sig) h
 up l h:=GoT.up (α:=Int×Int×(UInt64×UInt64)×g_api_Sig) l h
 one h:=GoT.one (α:=Int×Int×(UInt64×UInt64)×g_api_Sig) h
instance:Inhabited g_api_Promise:=⟨⟨default,default,default,default⟩⟩
structure g_api_Cert where
 Serial:Int
 Issuer:ByteArray
 Subject:ByteArray
 Key:UInt64
 Names:List ByteArray
 From:Int
 Until:Int
 Ca:Bool
 Depth:Int
 Permit:List ByteArray
 Proms:List g_api_Promise
 Sig:g_api_Sig
instance:GoT g_api_Cert where
 sz:=GoT.sz (Int×ByteArray×ByteArray×UInt64×(List ByteArray)×Int×Int×Bool×Int×(List ByteArray)×(List g_api_Promise)×g_api_Sig)
 rep m cs x:=GoT.rep (α:=Int×ByteArray×ByteArray×UInt64×(List ByteArray)×Int×Int×Bool×Int×(List ByteArray)×(List g_api_Promise)×g_api_Sig) m cs (x.Serial,x.Issuer,x.Subject,x.Key,x.Names,x.From,x.Until,x.Ca,x.Depth,x.Permit,x.Proms,x.Sig)
 len h:=GoT.len (α:=Int×ByteArray×ByteArray×UInt64×(List ByteArray)×Int×Int×Bool×Int×(List ByteArray)×(List g_api_Promise)×g_api_Sig) h
 up l h:=GoT.up (α:=Int×ByteArray×ByteArray×UInt64×(List ByteArray)×Int×Int×Bool×Int×(List ByteArray)×(List g_api_Promise)×g_api_Sig) l h
 one h:=GoT.one (α:=Int×ByteArray×ByteArray×UInt64×(List ByteArray)×Int×Int×Bool×Int×(List ByteArray)×(List g_api_Promise)×g_api_Sig) h
instance:Inhabited g_api_Cert:=⟨⟨default,default,default,default,default,default,default,default,default,default,default,default⟩⟩
structure CH where
 tag_:Int
 may_:Int
instance:Inhabited CH:=⟨⟨default,default⟩⟩
structure g_api_Item where
 Tag:Int
 B:List UInt8
 L:List g_api_Item
instance:Inhabited g_api_Item:=⟨⟨default,default,default⟩⟩
def Aj (a:g_api_Item):List D:=[.i a.Tag,.sl _ eB a.B,.rs _ (fun a=> [.i a.Tag,.sl _ eB a.B]) (fun a=> []) (fun a=>a.L) a.L]
instance:GoT g_api_Item:=Ki Aj 3
theorem UR {m:Mem}{cs:List Value}{x:g_api_Item}(h:GoT.rep m cs x): ∃v1,∃v2,cs=[vI x.Tag,v1,v2]∧SlR m v1 x.B∧SlR m v2 x.L:=by
 obtain⟨h,_⟩:=h;obtain⟨u0,us0,rfl,a0,g0⟩:=FRL.cons_inv h;cases a0;obtain⟨u1,us1,rfl,a1,g1⟩:=FRL.cons_inv g0;obtain⟨u2,us2,rfl,a2,g2⟩:=FRL.cons_inv g1;obtain rfl:=FRL.nil_inv g2;exact⟨u1,u2,rfl,Br.ofS Br.b a1,RK (Sa a2) (fun _=>rfl)⟩
theorem Nv {m:Mem}{x:g_api_Item}{v1:Value}{v2:Value}(h1:SlR m v1 x.B)(h2:SlR m v2 x.L):GoT.rep m [vI x.Tag,v1,v2] x:=⟨(FRL.cons (.i _) (FRL.cons (Br.toS Br.b h1) (FRL.cons (.rs (On h2)) FRL.nil))),rfl⟩
theorem JK:Br g_api_Item Aj:=⟨fun h=>h.1,fun h=>⟨h,rfl⟩,fun _=>rfl⟩
structure g_path_trip where
 roots_:List g_api_Cert
 chain_:List g_api_Cert
 name_:ByteArray
 now_:Int
instance:GoT g_path_trip where
 sz:=GoT.sz ((List g_api_Cert)×(List g_api_Cert)×ByteArray×Int)
 rep m cs x:=GoT.rep (α:=(List g_api_Cert)×(List g_api_Cert)×ByteArray×Int) m cs (x.roots_,x.chain_,x.name_,x.now_)
 len h:=GoT.len (α:=(List g_api_Cert)×(List g_api_Cert)×ByteArray×Int) h
 up l h:=GoT.up (α:=(List g_api_Cert)×(List g_api_Cert)×ByteArray×Int) l h
 one h:=GoT.one (α:=(List g_api_Cert)×(List g_api_Cert)×ByteArray×Int) h
instance:Inhabited g_path_trip:=⟨⟨default,default,default,default⟩⟩
structure Ee where
 lo_:UInt8
 hi_:UInt8
instance:GoT Ee where
 sz:=GoT.sz (UInt8×UInt8)
 rep m cs x:=GoT.rep (α:=UInt8×UInt8) m cs (x.lo_,x.hi_)
 len h:=GoT.len (α:=UInt8×UInt8) h
 up l h:=GoT.up (α:=UInt8×UInt8) l h
 one h:=GoT.one (α:=UInt8×UInt8) h
instance:Inhabited Ee:=⟨⟨default,default⟩⟩
theorem SS {m:Mem}{cs:List Value}{x:UInt64×UInt64×UInt64}(h:GoT.rep m cs x):cs=[vU x.1,vU x.2.1,vU x.2.2]:=by
 obtain⟨_,_,rfl,rfl,⟨_,_,rfl,rfl,rfl⟩⟩:=h;exact rfl
theorem UX {m:Mem}{x:UInt64×UInt64×UInt64}:GoT.rep m [vU x.1,vU x.2.1,vU x.2.2] x:=⟨[vU x.1],[vU x.2.1,vU x.2.2],rfl,rfl,⟨[vU x.2.1],[vU x.2.2],rfl,rfl,rfl⟩⟩
theorem SU {m:Mem}{cs:List Value}{x:UInt64×UInt64}(h:GoT.rep m cs x):cs=[vU x.1,vU x.2]:=by
 obtain⟨_,_,rfl,rfl,rfl⟩:=h;exact rfl
theorem LF {m:Mem}{x:UInt64×UInt64}:GoT.rep m [vU x.1,vU x.2] x:=⟨[vU x.1],[vU x.2],rfl,rfl,rfl⟩
theorem RF {m:Mem}{cs:List Value}{x:g_api_Promise}(h:GoT.rep m cs x):cs=[vI x.Log,vI x.At,vU x.Leaf.1,vU x.Leaf.2,vU x.Sig.E,vU x.Sig.S]:=by
 obtain⟨_,_,rfl,rfl,⟨_,_,rfl,rfl,⟨_,_,rfl,⟨_,_,rfl,rfl,rfl⟩,⟨_,_,rfl,rfl,rfl⟩⟩⟩⟩:=h;exact rfl
theorem RW {m:Mem}{x:g_api_Promise}:GoT.rep m [vI x.Log,vI x.At,vU x.Leaf.1,vU x.Leaf.2,vU x.Sig.E,vU x.Sig.S] x:=⟨[vI x.Log],[vI x.At,vU x.Leaf.1,vU x.Leaf.2,vU x.Sig.E,vU x.Sig.S],rfl,rfl,⟨[vI x.At],[vU x.Leaf.1,vU x.Leaf.2,vU x.Sig.E,vU x.Sig.S],rfl,rfl,⟨[vU x.Leaf.1,vU x.Leaf.2],[vU x.Sig.E,vU x.Sig.S],rfl,⟨[vU x.Leaf.1],[vU x.Leaf.2],rfl,rfl,rfl⟩,⟨[vU x.Sig.E],[vU x.Sig.S],rfl,rfl,rfl⟩⟩⟩⟩
theorem US {m:Mem}{cs:List Value}{x:g_api_Cert}(h:GoT.rep m cs x): ∃v1,∃v2,∃v3,cs=[vI x.Serial,vS x.Issuer,vS x.Subject,vU x.Key,v1,vI x.From,vI x.Until,vb x.Ca,vI x.Depth,v2,v3,vU x.Sig.E,vU x.Sig.S]∧SlR m v1 x.Names∧SlR m v2 x.Permit∧SlR m v3 x.Proms:=by
 obtain⟨_,_,rfl,rfl,⟨_,_,rfl,rfl,⟨_,_,rfl,rfl,⟨_,_,rfl,rfl,⟨_,_,rfl,⟨v1,rfl,h1⟩,⟨_,_,rfl,rfl,⟨_,_,rfl,rfl,⟨_,_,rfl,rfl,⟨_,_,rfl,rfl,⟨_,_,rfl,⟨v2,rfl,h2⟩,⟨_,_,rfl,⟨v3,rfl,h3⟩,⟨_,_,rfl,rfl,rfl⟩⟩⟩⟩⟩⟩⟩⟩⟩⟩⟩⟩:=h;exact⟨v1,v2,v3,rfl,h1,h2,h3⟩
theorem Nw {m:Mem}{x:g_api_Cert}{v1:Value}{v2:Value}{v3:Value}(h1:SlR m v1 x.Names)(h2:SlR m v2 x.Permit)(h3:SlR m v3 x.Proms):GoT.rep m [vI x.Serial,vS x.Issuer,vS x.Subject,vU x.Key,v1,vI x.From,vI x.Until,vb x.Ca,vI x.Depth,v2,v3,vU x.Sig.E,vU x.Sig.S] x:=⟨[vI x.Serial],[vS x.Issuer,vS x.Subject,vU x.Key,v1,vI x.From,vI x.Until,vb x.Ca,vI x.Depth,v2,v3,vU x.Sig.E,vU x.Sig.S],rfl,rfl,⟨[vS x.Issuer],[vS x.Subject,vU x.Key,v1,vI x.From,vI x.Until,vb x.Ca,vI x.Depth,v2,v3,vU x.Sig.E,vU x.Sig.S],rfl,rfl,⟨[vS x.Subject],[vU x.Key,v1,vI x.From,vI x.Until,vb x.Ca,vI x.Depth,v2,v3,vU x.Sig.E,vU x.Sig.S],rfl,rfl,⟨[vU x.Key],[v1,vI x.From,vI x.Until,vb x.Ca,vI x.Depth,v2,v3,vU x.Sig.E,vU x.Sig.S],rfl,rfl,⟨[v1],[vI x.From,vI x.Until,vb x.Ca,vI x.Depth,v2,v3,vU x.Sig.E,vU x.Sig.S],rfl,⟨_,rfl,h1⟩,⟨[vI x.From],[vI x.Until,vb x.Ca,vI x.Depth,v2,v3,vU x.Sig.E,vU x.Sig.S],rfl,rfl,⟨[vI x.Until],[vb x.Ca,vI x.Depth,v2,v3,vU x.Sig.E,vU x.Sig.S],rfl,rfl,⟨[vb x.Ca],[vI x.Depth,v2,v3,vU x.Sig.E,vU x.Sig.S],rfl,rfl,⟨[vI x.Depth],[v2,v3,vU x.Sig.E,vU x.Sig.S],rfl,rfl,⟨[v2],[v3,vU x.Sig.E,vU x.Sig.S],rfl,⟨_,rfl,h2⟩,⟨[v3],[vU x.Sig.E,vU x.Sig.S],rfl,⟨_,rfl,h3⟩,⟨[vU x.Sig.E],[vU x.Sig.S],rfl,rfl,rfl⟩⟩⟩⟩⟩⟩⟩⟩⟩⟩⟩⟩
def ED (p q:g_api_Sig):Bool:=[(p.E==q.E),(p.S==q.S)].all id
theorem P5 {p q:g_api_Sig}:EqV Tryz.prog 2 26 (.agg ([vU p.E,vU p.S]:List Value).toArray) (.agg ([vU q.E,vU q.S]:List Value).toArray) (ED p q):=
 EqV.struct (k:=1) (cs:=[vU p.E,vU p.S]) (ds:=[vU q.E,vU q.S]) (bs:=[(p.E==q.E),(p.S==q.S)]) Tryz.underlying26 (by kernel_rfl) ⟨⟨by decide,_,_,fd1 Tryz.isAgg22 Tryz.sizeOf22 rfl,fd1 Tryz.isAgg22 Tryz.sizeOf22 rfl,EqV.mono (EqV.u64 Tryz.underlying22) (by decide)⟩,⟨⟨by decide,_,_,fd1 Tryz.isAgg22 Tryz.sizeOf22 rfl,fd1 Tryz.isAgg22 Tryz.sizeOf22 rfl,EqV.mono (EqV.u64 Tryz.underlying22) (by decide)⟩,trivial⟩⟩
def Cp (p q:g_api_Promise):Bool:=[(p.Log==q.Log),(p.At==q.At),(P6 p.Leaf q.Leaf),(ED p.Sig q.Sig)].all id
theorem Ue {p q:g_api_Promise}:EqV Tryz.prog 3 86 (.agg ([vI p.Log,vI p.At,vU p.Leaf.1,vU p.Leaf.2,vU p.Sig.E,vU p.Sig.S]:List Value).toArray) (.agg ([vI q.Log,vI q.At,vU q.Leaf.1,vU q.Leaf.2,vU q.Sig.E,vU q.Sig.S]:List Value).toArray) (Cp p q):=
 EqV.struct (k:=2) (cs:=[vI p.Log,vI p.At,vU p.Leaf.1,vU p.Leaf.2,vU p.Sig.E,vU p.Sig.S]) (ds:=[vI q.Log,vI q.At,vU q.Leaf.1,vU q.Leaf.2,vU q.Sig.E,vU q.Sig.S]) (bs:=[(p.Log==q.Log),(p.At==q.At),(P6 p.Leaf q.Leaf),(ED p.Sig q.Sig)]) Tryz.underlying86 (by kernel_rfl) ⟨⟨by decide,_,_,fd1 Tryz.isAgg3 Tryz.sizeOf3 rfl,fd1 Tryz.isAgg3 Tryz.sizeOf3 rfl,EqV.mono (EqV.int Tryz.underlying3) (by decide)⟩,⟨⟨by decide,_,_,fd1 Tryz.isAgg3 Tryz.sizeOf3 rfl,fd1 Tryz.isAgg3 Tryz.sizeOf3 rfl,EqV.mono (EqV.int Tryz.underlying3) (by decide)⟩,⟨⟨by decide,_,_,fdA Tryz.isAgg84 Tryz.sizeOf84 rfl rfl,fdA Tryz.isAgg84 Tryz.sizeOf84 rfl rfl,EqV.mono (EqV.sum Tryz.underlying84 Tryz.underlying22 Tryz.sizeOf22 Tryz.isAgg22) (by decide)⟩,⟨⟨by decide,_,_,fdA Tryz.isAgg26 Tryz.sizeOf26 rfl rfl,fdA Tryz.isAgg26 Tryz.sizeOf26 rfl rfl,EqV.mono (P5) (by decide)⟩,trivial⟩⟩⟩⟩
structure En where
 k:Nat
 a:g_path_trip
def tab_0:List CH:=[⟨1,252⟩,⟨2,157⟩,⟨4,253⟩,⟨12,254⟩,⟨48,257⟩]
def H5 (a:g_api_Sig):List D:=[.u a.E,.u a.S]
def Ai (a:g_api_Promise):List D:=[.i a.Log,.i a.At,.u a.Leaf.1,.u a.Leaf.2,.u a.Sig.E,.u a.Sig.S]
def Ac (a:g_api_Cert):List D:=[.i a.Serial,.s a.Issuer,.s a.Subject,.u a.Key,.sl _ eS a.Names,.i a.From,.i a.Until,.t a.Ca,.i a.Depth,.sl _ eS a.Permit,.sl _ Ai a.Proms,.u a.Sig.E,.u a.Sig.S]
def EE (a:CH):List D:=[.i a.tag_,.v (fnV a.may_)]
def Lk (a:UInt64×UInt64):List D:=[.u a.1,.u a.2]
def Dn (a:g_path_trip):List D:=[.sl _ Ac a.roots_,.sl _ Ac a.chain_,.s a.name_,.i a.now_]
def Lj (a:En):List D:=[.cl a.k (Dn a.a)]
def Un (a:UInt64×UInt64×UInt64):List D:=[.u a.1,.u a.2.1,.u a.2.2]
theorem UG:Br (UInt64×UInt64) Lk:=Br.mk' (Br.pair Br.u Br.u) Lk (fun x=>x) (fun _ _ _=>rfl) (fun _=>rfl) rfl
theorem O9:Br g_api_Sig H5:=Br.mk' (Br.pair Br.u Br.u) H5 (fun x=>(x.E,x.S)) (fun _ _ _=>rfl) (fun _=>rfl) rfl
theorem NT:Br g_api_Promise Ai:=Br.mk' (Br.pair Br.i (Br.pair Br.i (Br.pair UG O9))) Ai (fun x=>(x.Log,x.At,x.Leaf,x.Sig)) (fun _ _ _=>rfl) (fun _=>rfl) rfl
theorem FB:Br g_api_Cert Ac:=Br.mk' (Br.pair Br.i (Br.pair Br.s (Br.pair Br.s (Br.pair Br.u (Br.pair (Br.sl Br.s) (Br.pair Br.i (Br.pair Br.i (Br.pair Br.t (Br.pair Br.i (Br.pair (Br.sl Br.s) (Br.pair (Br.sl NT) O9))))))))))) Ac (fun x=>(x.Serial,x.Issuer,x.Subject,x.Key,x.Names,x.From,x.Until,x.Ca,x.Depth,x.Permit,x.Proms,x.Sig)) (fun _ _ _=>rfl) (fun _=>rfl) rfl
theorem b_a3_eU:Br (UInt64×UInt64×UInt64) Un:=Br.mk' (Br.pair Br.u (Br.pair Br.u Br.u)) Un (fun x=>x) (fun _ _ _=>rfl) (fun _=>rfl) rfl
end Go.Proofs.YtbajlmaijjcbmaaGreatDoor
end
