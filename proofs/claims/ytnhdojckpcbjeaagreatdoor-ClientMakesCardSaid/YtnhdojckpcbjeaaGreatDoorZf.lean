/- Several texts, one behind the other. Conditions: none. -/
import Derived.Test.YtnhdojckpcbjeaaGreatDoorProg
import Derived.Test.YtnhdojckpcbjeaaGreatDoorZe
import Derived.KernelRfl
import Derived.Test.YtnhdojckpcbjeaaGreatDoorZd
set_option linter.unusedSimpArgs false
set_option linter.unusedVariables false
set_option maxHeartbeats 20000000
set_option maxRecDepth 100000
section
namespace Go.Ax
open Go Go.Gw
abbrev ag (l:List D):AV:= .agg (l.map dv)
abbrev sl {α:Type}(E:α->List D)(xs:List α):AV:= .d (.sl α E xs)
abbrev eI (n:Int):List D:=[.i n]
abbrev eU (n:UInt64):List D:=[.u n]
abbrev eB (n:UInt8):List D:=[.b n]
abbrev eS (n:ByteArray):List D:=[.s n]
abbrev eL {α:Type}(E:α->List D)(xs:List α):List D:=[.sl α E xs]
abbrev w8 (n:Int):Int:=IntKind.i8.wrap n
abbrev eF:Int->List D:=λx=> [.v (fnV x)]
section
variable {P:Program}{ρ:Option Nat}{N:Nat}{D0:Dw}{Q:DP}{As:List Ow}{u4:Env}{m0:Mem}{cf:Cf}
theorem sp {k:FuncId}{fn:Func}{c:Code}{args:List AV}{obs:List AObj}{n0:Nat}{Po:AV->List AObj->Nat->Prop}(hc: ∀(a:Array Value) w,(callFunc k a).run P w= .ok (.enter k a) w)(hf:P.funcs[k]? =some fn)(hb:fn.body=some c)(hN:fn.ntmps=N)(hle:Nat.ble args.length N=true)(h: ∀D0 As u4 m0,(∀n,u4 n≠none->n<n0)->Go none P N D0 (AdQ P N fn (Tu As u4 m0 Po)) As u4 m0 ⟨VQ args obs n0,.code c,[]⟩):
 Sp P k args obs n0 Po:=sp_of hc hf hb hN hle h
theorem gi {β:Type}{b:Bool}{x y:Option β}{r:β}(hm:(if b=true then x else y)=some r)(h1:b=true->x=some r->Go ρ P N D0 Q As u4 m0 (way true (aC P N cf)))(h0:b=false->y=some r->Go ρ P N D0 Q As u4 m0 (way false (aC P N cf)))
 (e:(Vf (aC P N cf),bL P N cf)=(some b,bR P N cf):=by kernel_rfl) (hM:P.follows .mixedOrders=true:=by rfl):
 Go ρ P N D0 Q As u4 m0 cf:=Ajt hM e (λh=>h1 h (by rw[h]at hm; exact hm)) λh=>h0 h (by rw[h]at hm; exact hm)
theorem gspl (g:Nat){β:Type}{b:Bool}{x y:Option β}{r:β}(hm:(if b=true then x else y)=some r)(h1:b=true->x=some r->Go ρ P N D0 Q As u4 m0 (setK g true (VX g P N 100000 cf).1))(h0:b=false->y=some r->Go ρ P N D0 Q As u4 m0 (setK g false (VX g P N 100000 cf).1))
 (e:(get (VX g P N 100000 cf).1.s.sl g,((VX g P N 100000 cf).2).map (·.1))=(.d (.t b),((VX g P N 100000 cf).2).map (·.2)):=by kernel_rfl) (hM:P.follows .mixedOrders=true:=by rfl):
 Go ρ P N D0 Q As u4 m0 cf:=go_spl hM e (λh=>h1 h (by rw[h]at hm; exact hm)) λh=>h0 h (by rw[h]at hm; exact hm)
theorem gi' {b:Bool}(h1:b=true->Go ρ P N D0 Q As u4 m0 (way true (aC P N cf)))(h0:b=false->Go ρ P N D0 Q As u4 m0 (way false (aC P N cf)))
 (e:(Vf (aC P N cf),bL P N cf)=(some b,bR P N cf):=by kernel_rfl) (hM:P.follows .mixedOrders=true:=by rfl):
 Go ρ P N D0 Q As u4 m0 cf:=Ajt hM e h1 h0
theorem gnx {s:ByteArray}{pos:Nat}{β:Type}{x y:Option β}{r:β}(hm:(if pos<s.size then x else y)=some r)(h1:pos<s.size->x=some r->Go ρ P N D0 Q As u4 m0 (push N (aC P N cf) (nxS (aC P N cf))))(h0: ¬pos<s.size->y=some r->Go ρ P N D0 Q As u4 m0 (push N (aC P N cf) (nxE (aC P N cf))))
 (e:((nxK (aC P N cf)).map (λr=>(r.1,r.2.1)),aL P N cf)=(some (s,pos),aR P N cf):=by kernel_rfl) (hM:P.follows .mixedOrders=true:=by rfl):
 Go ρ P N D0 Q As u4 m0 cf:=go_nx hM e (λh=>h1 h (by rw[AnT h]at hm; exact hm)) λh=>h0 h (by rw[AnW h]at hm; exact hm)
theorem Ali {α β:Type}{a:α}{k:α->β}{r:β}(h:bnd a k=r):k a=r:=h
theorem gend {fn:Func}{n0 n1:Nat}{er:AV}{eobs:List AObj}(hd: ∀n,u4 n≠none->n<n0)
 (e:(endL P fn (aC P N cf) er eobs n0 n1,(Ano P fn (aC P N cf) er eobs).isSome,bL P N cf)=(endR P fn (aC P N cf) er eobs,true,bR P N cf):=by kernel_rfl) (hM:P.follows .mixedOrders=true:=by rfl):
 Go ρ P N D0 (AdQ P N fn (Tu As u4 m0 (is er eobs n1))) As u4 m0 cf:=go_fin hM hd e ⟨rfl,rfl,rfl⟩
theorem sb {k:FuncId}{fn:Func}{c:Code}{args:List AV}{obs:List AObj}{n0:Nat}{ov:Value}{Po:AV->List AObj->Nat->Prop}{Xp:Prop}(hc: ∀(a:Array Value) w,(callFunc k a).run P w= .ok (.enter k a) w)(hf:P.funcs[k]? =some fn)(hb:fn.body=some c)(hN:fn.ntmps=N)(hle:Nat.ble args.length N=true)(h: ∀D0 As u4 m0,(∀n,u4 n≠none->n<n0)->Go none P N D0 (outB P N fn (Tu As u4 m0 Po) ov (PostX As m0 Xp)) As u4 m0 ⟨VQ args obs n0,.code c,[]⟩):
 Sb P k args obs n0 ov Po Xp:=sb_of hc hf hb hN hle h
theorem gjU (id:Nat){ι:Type}(J:ι->AS)(ok:ι->Prop)(h1: ∀Jp,Bk As u4 m0 J ok Jp->Go ρ P N D0 Q As u4 m0 (ctnC (LJ id P N 100000 cf).1 Jp))(h2: ∀x,ok x->Go ρ P N D0 Q As u4 m0 ⟨J x,.pop,(LJ id P N 100000 cf).1.K⟩)
 (e:(SL (LJ id P N 100000 cf).1,((LJ id P N 100000 cf).2).map (·.1))=(true,((LJ id P N 100000 cf).2).map (·.2)):=by kernel_rfl) (hM:P.follows .mixedOrders=true:=by rfl):
 Go ρ P N D0 Q As u4 m0 cf:=Ajs hM J ok e (h1 _ ⟨λ_ _ h=>h⟩) h2
theorem gj {ι:Type}(J:ι->AS)(ok:ι->Prop)(h1: ∀Jp,Bk As u4 m0 J ok Jp->Go ρ P N D0 Q As u4 m0 (ctnC (aC P N cf) Jp))(h2: ∀x,ok x->Go ρ P N D0 Q As u4 m0 ⟨J x,.pop,(aC P N cf).K⟩)
 (e:(SL (aC P N cf),bL P N cf)=(true,bR P N cf):=by kernel_rfl) (hM:P.follows .mixedOrders=true:=by rfl):
 Go ρ P N D0 Q As u4 m0 cf:=Agy hM J ok e (h1 _ ⟨λ_ _ h=>h⟩) h2
theorem gl {n0:Nat}{ι:Type}(hd: ∀n,u4 n≠none->n<n0)(J:ι->AS)(pre:ι->Prop)(μ:ι->Nat)(x0:ι)(hx:pre x0)(h: ∀x,pre x->∀Jp,Bk As u4 m0 J (λy=>pre y/\μ y<μ x) Jp->Go ρ P N D0 Q As u4 m0 (rndC (aC P N cf) (J x) Jp))
 (e:((AcO (aC P N cf)).isSome,vwL (aC P N cf).s (J x0) n0,(vwP (aC P N cf).s (J x0)).isSome,bL P N cf)=(true,vwR (aC P N cf).s (J x0),true,bR P N cf):=by kernel_rfl) (hM:P.follows .mixedOrders=true:=by rfl):
 Go ρ P N D0 Q As u4 m0 cf:=Am3 hM J pre μ x0 hx hd e λx hx=>h x hx _ ⟨λ_ _ h=>h⟩
theorem mu_lt {n i:Nat}(hlt:i<n)(hn:n<=9223372036854775807):n-(w64 ((i:Int)+1)).toNat<n-((i:Int)).toNat:=by
 rw[Ab5 hlt hn]; omega
theorem Jj (id:Nat){α:Type}{E:α->List D}{xs:List α}(t:Nat)(h:xs.length<=9223372036854775807->Go ρ P N D0 Q As u4 m0 (LJ id P N 100000 cf).1)
 (e:(SL (LJ id P N 100000 cf).1,lenK (LJ id P N 100000 cf).1.s t,((LJ id P N 100000 cf).2).map (·.1))=(true,some (.sl α E xs),((LJ id P N 100000 cf).2).map (·.2)):=by kernel_rfl) (hM:P.follows .mixedOrders=true:=by rfl):
 Go ρ P N D0 Q As u4 m0 cf:=go_len hM t e h
theorem spR {k:FuncId}{fn:Func}{c:Code}{args:List AV}{obs:List AObj}{n0:Nat}{Po:AV->List AObj->Nat->Prop}(hc: ∀(a:Array Value) w,(callFunc k a).run P w= .ok (.enter k a) w)(hf:P.funcs[k]? =some fn)(hb:fn.body=some c)(hN:fn.ntmps=N)(hle:Nat.ble args.length N=true)(h: ∀D0 As u4 m0,D0.2.2=false->(∀n,u4 n≠none->n<n0)->Go none P N D0 (AdQ P N fn (Tu As u4 m0 Po)) As u4 m0 ⟨VQ args obs n0,.code c,[]⟩):
 Sp P k args obs n0 Po:=sp_ofR hc hf hb hN hle h
theorem AkW {c:Bool}{s z:ByteArray}{lo hi:Int}(hq:c=true->Ts s lo hi=some z)(g:Go ρ P N D0 Q As u4 m0 (CH N (aC P N cf) (.d (.s z)) []))
 (e:(gOf (aC P N cf),Anv P (aC P N cf),aL P N cf)=(c,some (s,lo,hi),aR P N cf):=by kernel_rfl) (hM:P.follows .mixedOrders=true:=by rfl):
 Go ρ P N D0 Q As u4 m0 cf:=VT (λh=>hq ((Aos Prod.fst e).symm.trans h)) g (Aos Prod.snd e) hM
theorem gdynG {c:Bool}{x:Int}{ea:List AV}{r:AV}(hs:c=true->∃k:Nat,x=(k:Int)/\Sf P k ea r)(g:Go ρ P N D0 Q As u4 m0 (P4 N (aC P N cf) r))
 (e:(gOf (aC P N cf),(dynP (aC P N cf)).map (λp=>(p.1,Akd (aC P N cf).s.fz ea p.2)),ea.all (okA 0),aL P N cf)=(c,some (fnV x,ea),true,aR P N cf):=by kernel_rfl) (hM:P.follows .mixedOrders=true:=by rfl):
 Go ρ P N D0 Q As u4 m0 cf:=gdyn (λh=>hs ((Aos Prod.fst e).symm.trans h)) g (Aos Prod.snd e) hM
theorem AkU {c:Bool}{α:Type}{E:α->List D}{xs:List α}{j:Int}{x:α}(hq:c=true->idx xs j=some x)(g:Go ρ P N D0 Q As u4 m0 (CH N (aC P N cf) (Ajj P (aC P N cf)) (Ajk P (aC P N cf))))
 (e:(gOf (aC P N cf),(AdZ P (aC P N cf)).map (λr=>(r.1,r.2.1,r.2.2.2.2.1)),aL P N cf)=(c,some (.sl α E xs,j,true),aR P N cf):=by kernel_rfl) (hM:P.follows .mixedOrders=true:=by rfl):
 Go ρ P N D0 Q As u4 m0 cf:=Jk (λh=>hq ((Aos Prod.fst e).symm.trans h)) g (Aos Prod.snd e) hM
theorem gldOG {c:Bool}{k fo nn:Nat}{ag:Bool}{α:Type}{E:α->List D}{xs:List α}{j:Int}{x:α}(hE: ∀x,(E x).length=k)(hq:c=true->idx xs j=some x)(g:Go ρ P N D0 Q As u4 m0 (CH N (aC P N cf) (pkA ag ((((E x).drop fo).take nn).map .d)) (ldOT P (aC P N cf))))
 (e:(gOf (aC P N cf),(ldOP P (aC P N cf)).map (λr=>(r.1,r.2.1,r.2.2.1,r.2.2.2.1,r.2.2.2.2.1,r.2.2.2.2.2.1,r.2.2.2.2.2.2.1)),aL P N cf)=(c,some (.sl α E xs,j,fo,nn,ag,k,true),aR P N cf):=by kernel_rfl) (hM:P.follows .mixedOrders=true:=by rfl):
 Go ρ P N D0 Q As u4 m0 cf:=AaD hE (λh=>hq ((Aos Prod.fst e).symm.trans h)) g (Aos Prod.snd e) hM
theorem gcG {c:Bool}{k:FuncId}{ea:List AV}{r:AV}(hs:c=true->Sf P k ea r)(g:Go ρ P N D0 Q As u4 m0 (P4 N (aC P N cf) r))
 (e:(gOf (aC P N cf),Aec (aC P N cf) ea,ea.all (okA 0),aL P N cf)=(c,some (k,ea),true,aR P N cf):=by kernel_rfl) (hM:P.follows .mixedOrders=true:=by rfl):
 Go ρ P N D0 Q As u4 m0 cf:=gc (λh=>hs ((Aos Prod.fst e).symm.trans h)) g (Aos Prod.snd e) hM
theorem gidxG {c:Bool}{k:Nat}{α:Type}{E:α->List D}{xs:List α}{j:Int}{x:α}(hE: ∀x,(E x).length=k)(hq:c=true->idx xs j=some x)(g:Go ρ P N D0 Q As u4 m0 (CH N (aC P N cf) (.d (.pf (E x))) (idxT P (aC P N cf))))
 (e:(gOf (aC P N cf),(AmP P (aC P N cf)).map (λr=>(r.1,r.2.1,r.2.2.1)),aL P N cf)=(c,some (.sl α E xs,j,k),aR P N cf):=by kernel_rfl) (hM:P.follows .mixedOrders=true:=by rfl):
 Go ρ P N D0 Q As u4 m0 cf:=gidx hE (λh=>hq ((Aos Prod.fst e).symm.trans h)) g (Aos Prod.snd e) hM
theorem SM {c:Bool}{s:ByteArray}{j:Int}{b:UInt8}(hq:c=true->idx s.data.toList j=some b)(g:Go ρ P N D0 Q As u4 m0 (CH N (aC P N cf) (.d (.b b)) []))
 (e:(gOf (aC P N cf),AmO P (aC P N cf),aL P N cf)=(c,some (.d (.s s),j,true),aR P N cf):=by kernel_rfl) (hM:P.follows .mixedOrders=true:=by rfl):
 Go ρ P N D0 Q As u4 m0 cf:=Aab (λh=>hq ((Aos Prod.fst e).symm.trans h)) g (Aos Prod.snd e) hM
theorem gB {α β:Type}{a:Option α}{kk:α->Option β}{z:β}(hq:Ab a kk=some z){k:FuncId}{ea:List AV}{R:α->AV}(hs: ∀x,a=some x->Sf P k ea (R x))(g: ∀x,a=some x->kk x=some z->Go ρ P N D0 Q As u4 m0 (P4 N (aC P N cf) (R x)))
 (e:(Aec (aC P N cf) ea,ea.all (okA 0),aL P N cf)=(some (k,ea),true,aR P N cf):=by kernel_rfl) (hM:P.follows .mixedOrders=true:=by rfl):
 Go ρ P N D0 Q As u4 m0 cf:=let ⟨x,h1,h2⟩:=Ag hq; gc (λ_=>hs x h1) (g x h1 h2) e hM
theorem gBo {α β:Type}{a:Option α}{kk:α->Option β}{z:β}(hq:Ab a kk=some z){k:FuncId}{ea:List AV}{eobs:List AObj}{n0 n1:Nat}{R:α->AV}{O:α->List AObj}(hs: ∀x,a=some x->Sp P k ea eobs n0 (is (R x) (O x) n1))(g: ∀x,a=some x->kk x=some z->Go ρ P N D0 Q As u4 m0 (Aix N (aC P N cf) ea eobs n0 (R x) (O x) n1))
 (e: ∀x,(Aj0 (aC P N cf) ea eobs n0,okA n1 (R x)&&((O x).all (okO n1)&&Nat.ble n0 n1),aL P N cf)=(some (k,(AbW (aC P N cf) ea eobs).1,(AbW (aC P N cf) ea eobs).2,true),true,aR P N cf):=by intro x; kernel_rfl) (hM:P.follows .mixedOrders=true:=by rfl):
 Go ρ P N D0 Q As u4 m0 cf:=let ⟨x,h1,h2⟩:=Ag hq; gco (hs x h1) (g x h1 h2) (e x) hM
theorem oB {α β:Type}{a:Option α}{kk:α->Option β}{z:β}{G:Prop}(hq:Ab a kk=some z)(g: ∀x,a=some x->kk x=some z->G):G:=let ⟨x,h1,h2⟩:=Ag hq; g x h1 h2
end
end Go.Ax
namespace Go.Proofs.YtnhdojckpcbjeaaGreatDoor
open Go Tryz
theorem AiW:prog.follows .mixedOrders=true:=rfl
end Go.Proofs.YtnhdojckpcbjeaaGreatDoor
end
section
namespace Go.Ax
open Go Go.Gw
structure Br (α:Type) [GoT α](E:α->List D):Prop where
 to: ∀{m:Mem} {cs:List Value} {x:α},GoT.rep m cs x->FRL m (E x) cs
 of: ∀{m:Mem} {cs:List Value} {x:α},FRL m (E x) cs->GoT.rep m cs x
 len: ∀x,(E x).length=GoT.sz α
theorem FRL.c1 {m:Mem}{d:D}{v:Value}(h:FR m d v):FRL m [d] [v]:= .cons h .nil
theorem FRL.c1_inv {m:Mem}{d:D}{cs:List Value}(h:FRL m [d] cs): ∃v,cs=[v]/\FR m d v:=by
 obtain⟨v,us,rfl,h1,h2⟩:=h.cons_inv;have:=h2.nil_inv; subst this;exact⟨v,rfl,h1⟩
theorem FR.i_inv {m:Mem}{n}{v:Value}(h:FR m (.i n) v):v=vI n:=by cases h; rfl
theorem FR.u_inv {m:Mem}{n}{v:Value}(h:FR m (.u n) v):v=vU n:=by cases h; rfl
theorem FR.b_inv {m:Mem}{n}{v:Value}(h:FR m (.b n) v):v=vB n:=by cases h; rfl
theorem FR.t_inv {m:Mem}{n}{v:Value}(h:FR m (.t n) v):v=vb n:=by cases h; rfl
theorem FR.s_inv {m:Mem}{n}{v:Value}(h:FR m (.s n) v):v=vS n:=by cases h; rfl
theorem Br.i:Br Int (λn=> [.i n]):=⟨λh=>by have h:_=_:=h; subst h; exact .c1 (.i _),λh=>by obtain⟨v,rfl,g⟩:=FRL.c1_inv h; exact Aos (λz=> [z]) g.i_inv,λ_=>rfl⟩
theorem Br.u:Br UInt64 (λn=> [.u n]):=⟨λh=>by have h:_=_:=h; subst h; exact .c1 (.u _),λh=>by obtain⟨v,rfl,g⟩:=FRL.c1_inv h; exact Aos (λz=> [z]) g.u_inv,λ_=>rfl⟩
theorem Br.b:Br UInt8 (λn=> [.b n]):=⟨λh=>by have h:_=_:=h; subst h; exact .c1 (.b _),λh=>by obtain⟨v,rfl,g⟩:=FRL.c1_inv h; exact Aos (λz=> [z]) g.b_inv,λ_=>rfl⟩
theorem Br.t:Br Bool (λn=> [.t n]):=⟨λh=>by have h:_=_:=h; subst h; exact .c1 (.t _),λh=>by obtain⟨v,rfl,g⟩:=FRL.c1_inv h; exact Aos (λz=> [z]) g.t_inv,λ_=>rfl⟩
theorem Br.s:Br ByteArray (λn=> [.s n]):=⟨λh=>by have h:_=_:=h; subst h; exact .c1 (.s _),λh=>by obtain⟨v,rfl,g⟩:=FRL.c1_inv h; exact Aos (λz=> [z]) g.s_inv,λ_=>rfl⟩
theorem Br.pair {α β:Type} [GoT α] [GoT β]{E:α->List D}{F:β->List D}(a:Br α E)(b:Br β F):Br (α×β) (λx=>E x.1++F x.2):=
 ⟨λ⟨c,d,e,h1,h2⟩=>by subst e; exact(a.to h1).append (b.to h2),λ{m cs x} h=>by
  have h1:=h.take (E x.1).length;have h2:=h.drop (E x.1).length;rw[List.take_left]at h1;rw[List.drop_left]at h2;exact⟨_,_,(List.take_append_drop _ _).symm,a.of h1,b.of h2⟩,λx=>by
  rw[AnY,a.len,b.len]; rfl⟩
section
variable {α:Type} [GoT α]{E:α->List D}{m:Mem}{v:Value}
theorem Br.toL (b:Br α E): ∀{xs:List α} {cs:List Value},Cl m cs xs->FRL m (xs.flatMap E) cs
 | [],cs,h=>by have h:cs=[]:=h; subst h; exact .nil
 |x::xs,cs,⟨c,d,e,h1,h2⟩=>by subst e; rw[AoK]; exact(b.to h1).append (b.toL h2)
theorem Br.ofL (b:Br α E): ∀{xs:List α} {cs:List Value},FRL m (xs.flatMap E) cs->Cl m cs xs
 | [],cs,h=>show cs=[]from FRL.nil_inv (by simpa using h)
 |x::xs,cs,h=>by
  rw[AoK]at h;have h1:=h.take (E x).length;have h2:=h.drop (E x).length;rw[List.take_left]at h1;rw[List.drop_left]at h2;exact⟨_,_,(List.take_append_drop _ _).symm,b.of h1,b.ofL h2⟩
theorem Br.toS (b:Br α E){xs:List α}(h:SlR m v xs):FR m (.sl α E xs) v:=by
 obtain⟨cs,h1,h2⟩:=h;have:=b.toL h2;exact .sl h1 (λx _=>b.len x) this.1 this.2
theorem Br.ofS (b:Br α E){xs:List α}(h:FR m (.sl α E xs) v):SlR m v xs:=by
 cases h with
 | @sl _ _ _ sz' _ cs h hE' hl hr=>
  refine⟨cs,?_,b.ofL ⟨hl,hr⟩⟩;cases xs with
  |nil=>
   have:cs=[]:=by simp at hl; exact List.length_eq_zero_iff.1 hl.symm
   subst this;exact⟨by simp,h.2.1,h.2.2⟩
  |cons x xs=>
   have:sz'=GoT.sz α:=by rw[<-hE' x Aoe,b.len x]
   subst this; exact h
theorem Br.sl (b:Br α E):Br (List α) (λxs=> [.sl α E xs]):=
 ⟨λ⟨v,e,h⟩=>by subst e; exact .c1 (b.toS h),λh=>by obtain⟨v,rfl,g⟩:=FRL.c1_inv h; exact⟨v,rfl,b.ofS g⟩,λ_=>rfl⟩
theorem Br.mk' {β:Type} [GoT β]{F:β->List D}(b:Br β F)(E:α->List D)(f:α->β)(hr: ∀(m:Mem) (cs:List Value) (x:α),GoT.rep m cs x=GoT.rep m cs (f x))(hE: ∀x,F (f x)=E x)(hs:GoT.sz α=GoT.sz β):Br α E:=
 ⟨λh=>by rw[<-hE]; rw[hr]at h; exact b.to h,λh=>by rw[<-hE]at h; rw[hr]; exact b.of h,λx=>by rw[<-hE,b.len,hs]⟩
theorem Br.toA (b:Br α E){U:Env}{x:α}{cs:List Value}(h:GoT.rep m cs x):Rel U m (.agg ((E x).map dv)) (.agg cs.toArray):=by
 have:=BB.ofDv (U:=U) (b.to h);exact .agg this.1 this.2
theorem Br.ofA (b:Br α E){U:Env}{x:α}{v:Value}(h:Rel U m (.agg ((E x).map dv)) v): ∃cs,v= .agg cs.toArray/\GoT.rep m cs x:=by
 obtain⟨vs,rfl,g⟩:=h.agg_inv;exact⟨vs,rfl,b.of (FRL.ofRelv g)⟩
theorem Br.toR (b:Br α E){U:Env}{n sz:Nat}{cs:List Value}{xs:List α}(hs:GoT.sz α=sz)(hn:U n=some v)(h1:v.oneCell'=true)(h:Cl m cs xs): ∀x,Gw.row sz v cs xs.length x->rep U m (.row n sz α E xs) x:=
 λx hx=>⟨v,cs,hn,h1,b.toL h,λx _=>(b.len x).trans hs,hx⟩
end
theorem Ae7 {A B:Ow}{As Bs:List Ow}(h: ∀x,A x->B x)(k: ∀x,sepL As x->sepL Bs x): ∀x,sepL (A::As) x->sepL (B::Bs) x:=
 λx ⟨h1,h2,a,s,d,e⟩=>⟨h1,h2,h h1 a,k h2 s,d,e⟩
theorem _root_.Go.Gw.St.impL {m:Mem}{As Bs:List Ow}{w:World}(S:St m As w)(h: ∀x,sepL As x->sepL Bs x):St m Bs w:=by
 obtain⟨x,sx,rx⟩:=S.own;exact⟨S.os,S.tape,S.output,x,h x sx,rx⟩
theorem Rel.tup' {U:Env}{m:Mem}{cs:List AV}{vs:List Value}(h:BB U m cs vs):Rel U m (.tup cs) (.tuple vs.toArray):= .tup h.1 h.2
def envL (l:List Value):Env:=λn=>l[n]?
theorem Ac2 {l:List Value}{k:Nat}(hk:l.length=k): ∀n,envL l n≠none->n<k:=by
 intro n h;rcases Nat.lt_or_ge n l.length with q|q
 ·omega
 ·exact absurd (List.getElem?_eq_none q) h
theorem dom0 {U:Env}(hd: ∀n,U n≠none->n<0)(u5:Env):U.le u5:=λn v h=>absurd (hd n (by rw[h]; simp)) (by omega)
def cvR (ob:List Tok):AV->AV->AV
 | .tup es,.tup az=> .tup (cvV ob es az).1
 |e,a=>(cvA ob e a).1
theorem Ant {ob:List Tok}{U:Env}{m:Mem}(k: ∀ns,Kn ob U m ns){e a:AV}{v:Value}(r:Rel U m a v):Rel U m (cvR ob e a) v:=by
 unfold cvR;split
 ·obtain⟨vs,rfl,h⟩:=r.tup_inv;exact .tup' (Ve (k _) h)
 ·exact AgX (k _) r
theorem Sp.fz {P:Program}{k:FuncId}{args:List AV}{er er':AV}{eobs:List AObj}{n1:Nat}(h:Sp P k args [] 0 (is er eobs n1))
  (e:((enO 0 eobs).all (λp=>Mp p.2),okA 0 er',cvR (enO 0 eobs) er' er)=(true,true,er')):Sf P k args er':=by
 simp only[AnQ]at e;obtain⟨e1,e2,e3⟩:=e;refine⟨h.1,λU m As w vs hv hd S=>C0.mono (h.2 U m As w vs hv hd S) ?_⟩;rintro v w' ⟨M,u5,r,obs',n1',hle,hη,⟨rfl,rfl,rfl⟩,hdom,hR,S'⟩;rw[<-Lw (k:=0)]at S';obtain⟨M2,l2,K,S2⟩:=OM e1 S';have KN: ∀ns,Kn (enO 0 obs') u5 M2 ns:=λns n hn d hd=>by
  obtain⟨p,hf,hp,_,hnm⟩:=Rr hd;obtain⟨v,a,b⟩:=K p (F5 hf);rw[hnm]at a; rw[hp]at b; exact⟨v,a,b⟩
 have hr:=Ant KN (e:=er') (hR.up Env.le_refl l2);rw[e3]at hr;exact⟨M2,none0,er',[],0,Mem.tr hle l2,dom0 hd _,⟨rfl,rfl,rfl⟩,λn h=>absurd rfl h,X3 (λk hk=>absurd hk (by omega)) e2 hr,S2⟩
theorem Sp.nil0 {P:Program}{k:FuncId}{args:List AV}{sz:Nat}{α:Type}{E:α->List D}{Po:AV->List AObj->Nat->Prop}(h:Sp P k (.ow 0::args) [.row 0 sz α E []] 1 Po)(ha:args.all (okA 0)=true):Sp P k (.d (.v (.slice none 0 0))::args) [] 0 Po:=by
 refine⟨h.1,λU m As w vs hv hd S=> ?_⟩;obtain⟨v,us,rfl,h1,h2⟩:=hv.cons_inv;have hvv:v= .slice none 0 0:=by have:=h1.dd; cases this; rfl
 subst hvv;have he:U.le (U.put 0 (.slice none 0 0)):=Env.le_put (by cases q:U 0 with|none=>rfl|some u=>exact absurd (hd 0 (by rw[q]; simp)) (by omega));have S1:St m (rep (U.put 0 (.slice none 0 0)) m (.row 0 sz α E [])::As) w:=by
  exact St.closeRow (U:=U.put 0 (.slice none 0 0)) (n:=0) (E:=E) (xs:=[]) Env.put_self rfl (by simpa using FRL.nil) (λ_ h=>by cases h) (St.rowNil S sz)
 have:=h.2 (U.put 0 (.slice none 0 0)) m As w (.slice none 0 0::us) (.cons (.ow Env.put_self rfl) (P6 (n:=0) (λk hk=>absurd hk (by omega)) ha (h2.up he (Mem.rfl' m)))) (λn hn=>by
  rcases Env.put_dom hn with q|q
  ·have:=hd n q; omega
  ·omega) S1
 refine C0.mono this ?_;rintro r w' ⟨M,u5,r',obs',n1,a,b,c⟩;exact⟨M,u5,r',obs',n1,a,Env.le_tr he b,c⟩
end Go.Ax
end
