/- Several texts, one behind the other. Conditions: none. -/
import Derived.Test.YtbajlmaijjcbmaaGreatDoorZd
import Derived.RecoverIn
set_option linter.unusedSimpArgs false
set_option linter.unusedVariables false
section
namespace Go.Ax
open Go Go.Gw
section
variable {ρ:Option Nat}{P:Program}{N:Nat}{D0:Dw}{Q Q':Ds}{As:List Ow}{η0:Env}{m0:Mem}
theorem D2 (hq: ∀e f w,Q e f w→Q' e f w): ∀{K:List Kt} {e:Exit} {f:Fr} {w:World},pk ρ P N D0 Q K e f w→pk ρ P N D0 Q' K e f w
 | [],e,f,w,h=>hq e f w h
 | .code c::K,e,f,w,h=>by
  cases e with
  |normal=>exact Hf (fun e f w q=>D2 hq q) h
  |_=>exact D2 hq (K:=K) h
 | .blk id::K,e,f,w,h=>by
  cases e with
  |exit id'=>
   simp only[pk,OH]at h⊢;cases hb:Nat.beq id' id
   ·rw[hb]at h; exact D2 hq (K:=K) h
   ·rw[hb]at h; exact D2 hq (K:=K) h
  |_=>exact D2 hq (K:=K) h
 | .scp::K,e,f,w,h=>by
  cases e with
  |goto l=>exact h.elim
  |_=>exact D2 hq (K:=K) h
 | .ctn J::K,e,f,w,h=>by
  cases e with
  |normal=>exact h
  |_=>exact D2 hq (K:=K) h
theorem Yj {ops:Array Oper}{F F':AS→List (Oper×Stp)→Prop}(hF: ∀s h,F s h→F' s h): ∀{l:List Oper} {s:AS} {h:List (Oper×Stp)},FT ρ P N D0 ops F l s h→FT ρ P N D0 ops F' l s h
 | [],s,h,g=>hF s h g
 |o::l,s,h,⟨r,t1,t2,t3⟩=>⟨r,t1,t2,Yj hF t3⟩
theorem Go.mono (hq: ∀e f w,Q e f w→Q' e f w){cf:Cf}(h:Go ρ P N D0 Q As η0 m0 cf):Go ρ P N D0 Q' As η0 m0 cf:=by
 obtain⟨s,md,K⟩:=cf;cases md with
 |code c=>exact fun η m f w a b g=>Hf (fun e f w q=>D2 hq q) (h η m f w a b g)
 |pop=>exact fun η m f w a b g=>D2 hq (h η m f w a b g)
 |ext id=>exact fun η m f w a b g=>D2 hq (h η m f w a b g)
 |ret=>exact fun η m f w a b g=>D2 hq (h η m f w a b g)
 |ops dr l rest hh=>
  rcases h with h|⟨hd,h⟩|⟨hd,h⟩
  ·exact .inl (Yj (fun s h F=>⟨F.1,fun η m f w a b g=>D2 hq (F.2 η m f w a b g)⟩) h)
  ·exact .inr (.inl ⟨hd,fun η m f w a b g=>Pr (fun e f w q=>D2 hq q) (h η m f w a b g)⟩)
  ·obtain⟨rs,bad,k,p,h1,h2,h3,h4,h5,h6,h7,h8,h9⟩:=h;exact .inr (.inr ⟨hd,rs,bad,k,p,h1,h2,h3,h4,h5,h6,h7,h8,fun η m f w Bs a b c d=>Pr (fun e f w q=>match e,q with| .normal,q=>q.elim| .exit _,q=>D2 hq q| .goto _,q=>D2 hq q| .ret,q=>D2 hq q| .panic _,q=>D2 hq q| .outgrown,q=>D2 hq q) (h9 η m f w Bs a b c d)⟩)
end
def chn (ov:Value):List PanicEntry:=[{v:=ov,recovered:=false}]
def UT (P:Program)(k:FuncId)(args:Array Value)(w:World)(ov:Value)(R:Value→World→Prop)(X:World→Prop):Prop:=Calls P k args w fun e w'=>(∃v,e= .returned v∧Kd w w'∧R v w')∨(e= .panicked (chn ov)∧Kd w w'∧X w')
theorem UT.ret {P:Program}{k:FuncId}{args:Array Value}{w:World}{ov:Value}{R:Value→World→Prop}{X:World→Prop}(h:UT P k args w ov R X)(hx: ∀w',¬X w'):Aw P k args w R:=
 Calls.mono h fun e w' q=>by
  rcases q with q|⟨_,_,q⟩
  ·exact q
  ·exact absurd q (hx w')
def outB (P:Program)(N:Nat)(fn:Func)(R:Value→World→Prop)(ov:Value)(X:World→Prop):Ds:=fun e f w=>match e with| .panic ch=>ch=chn ov∧∀w',Pd w w'→X w'|e=>Yu P N fn R e f w
section
variable {ρ:Option Nat}{P:Program}{N:Nat}{D0:Dw}{Q:Ds}{As:List Ow}{η0:Env}{m0:Mem}
theorem Lu {fn:Func}{tmps:Array Value}{R:Ending→World→Prop}{w0:World}{u:FrameMode}{ds:List Deferred}(hu:u≠ .run): ∀(E:List Nat) (w:World),Kd w0 w→E.Nodup→(∀b∈E,w0.heap.size≤b∧w.heap[b]? =some dfr)→
  (∀w',Pd w w'→Kd w0 w'→LeavesInM (FW none) 0 P fn tmps R ds u w')→LeavesInM (FW none) 0 P fn tmps R (E.map Gw.mark++ds) u w:=by
 intro E;induction E with
 |nil=>exact fun w hk _ _ h=>h w (Pd.rfl' w) hk
 |cons b E ih=>
  intro w hk hn hl h;obtain⟨hb1,hb2⟩:=hl b (by simp);have hlt:=(Array.getElem?_eq_some_iff.1 hb2).1;have hpd:Pd w (w.putObj b (.deferred none)):=⟨rfl,rfl,rfl,fun k o ho e=>by
   by_cases q:k=b
   ·subst q; rw[hb2]at e; cases e; exact absurd rfl ho
   ·rw[World.putObj_heap_other q]; exact e⟩
  refine⟨hu,.inl ⟨b,w.putObj b (.deferred none),rfl,run_takeDeferred hb2,?_⟩⟩;refine ih _ ⟨by simpa using hk.size,fun k e=> ?_⟩ (List.nodup_cons.1 hn).2 (fun c hc=>⟨(hl c (by simp[hc])).1,?_⟩) (fun w' p=>h w' (hpd.tr p))
  ·have:=(Array.getElem?_eq_some_iff.1 e).1;rw[World.putObj_heap_other (by omega)]; exact hk.same k e
  ·have:c≠b:=fun q=>(List.nodup_cons.1 hn).1 (q▸hc);rw[World.putObj_heap_other this]; exact(hl c (by simp[hc])).2
theorem sim0 {fn:Func}{args:List Value}(hN:fn.ntmps=N)(hle:args.length≤N):Sim N {tmps:=args.toArray++Array.replicate (fn.ntmps-args.toArray.size) undef,defers:=[]} (f0 args):=by
 refine⟨by simp[hN]; omega,fun t=> ?_⟩;simp only[f0,Array.getD_eq_getD_getElem?,List.getD_eq_getElem?_getD,Array.getElem?_append];split
 ·simp
 ·rename_i h1;simp at h1;rw[List.getElem?_eq_none h1];rw[Array.getElem?_replicate];split<;>rfl
theorem callsB {k:FuncId}{fn:Func}{c:Code}{args:List Value}{R:Value→World→Prop}{ov:Value}{X:World→Prop}{w:World}(hf:P.funcs[k]? =some fn)(hb:fn.body=some c)(hN:fn.ntmps=N)
  (hle:args.length≤N) (h:wpc none P N (w,[],false) c (outB P N fn R ov X) (f0 args) w):UT P k args.toArray w ov R X:=by
 refine Of (ρ:=none) (n:=0) (callsIn_of_wp_marks hf hb trivial ?_);refine wpIn_mono (h _ ⟨sim0 hN hle,Okd.nil rfl⟩) ?_;rintro e a w' ⟨f',⟨s,ok⟩,q⟩;obtain⟨E,hE,-,hn,hl⟩:=ok.marks;have fin:(∀w'',Pd w' w''→∃v,(∀a,Sim N a f'→(results fn a.tmps).run P w''= .ok v w'')∧R v w'')→
   LeavesInM (FW none) 0 P fn a.tmps (fun e w'=>(∃v,e= .returned v∧Kd w w'∧R v w')∨(e= .panicked (chn ov)∧Kd w w'∧X w')) a.defers .returning w':=fun q=>by
  rw[hE];refine Lu (by simp) E w' ok.keep hn hl fun w'' p k=> ?_;obtain⟨v,hr,hR⟩:=q w'' p;exact⟨v,hr a s,.inl ⟨v,rfl,k,hR⟩⟩
 cases e with
 |normal=>exact fin q
 |ret=>exact fin q
 |exit id=>exact q.elim
 |goto l=>exact q.elim
 |panic ch=>
  obtain⟨rfl,hX⟩:=q;show LeavesInM _ _ _ _ _ _ a.defers _ _;rw[hE];exact Lu (by simp) E w' ok.keep hn hl fun w'' p k=>Or.inr ⟨rfl,k,hX w'' p⟩
 |outgrown=>exact q.elim
def Sb (P:Program)(k:FuncId)(args:List AV)(obs:List AObj)(n0:Nat)(ov:Value)(Po:AV→List AObj→Nat→Prop)(Xp:Prop):Prop:=(∀(a:Array Value) w,(callFunc k a).run P w= .ok (.enter k a) w)∧∀(η:Env) (m:Mem) (As:List Ow) (w:World) (vs:List Value),Bg η m args vs→(∀n,η n≠none→n<n0)→St m (obs.map (rep η m)++As) w→UT P k vs.toArray w ov (fun v w'=> ∃(M:Mem) (η':Env) (r:AV) (obs':List AObj) (n1:Nat),m≤M∧η.le η'∧Po r obs' n1∧(∀n,η' n≠none→n<n1)∧Rel η' M r v∧St M (obs'.map (rep η' M)++As) w') (fun w'=>Xp∧∃M,m≤M∧St M As w')
def Pos {β:Type}(x:Option β)(A:β→AV)(O:β→List AObj)(n1:Nat):AV→List AObj→Nat→Prop:=fun a o n=> ∃r,x=some r∧a=A r∧o=O r∧n=n1
theorem Sb.sp {k:FuncId}{args:List AV}{obs:List AObj}{n0 n1:Nat}{ov:Value}{β:Type}{r:β}{A:β→AV}{O:β→List AObj}(h:Sb P k args obs n0 ov (Pos (some r) A O n1) (some r=none)):Sp P k args obs n0 (is (A r) (O r) n1):=
 ⟨h.1,fun η m As w vs a b c=>Aw.mono ((h.2 η m As w vs a b c).ret fun w' q=>by cases q.1) fun v w' ⟨M,η',r',obs',n',q1,q2,⟨r2,e,e1,e2,e3⟩,q4,q5,q6⟩=>by
  cases e;exact⟨M,η',r',obs',n',q1,q2,⟨e1,e2,e3⟩,q4,q5,q6⟩⟩
def PostX (As:List Ow)(m0:Mem)(Xp:Prop):World→Prop:=fun w'=>Xp∧∃M,m0≤M∧St M As w'
theorem sb_of {k:FuncId}{fn:Func}{c:Code}{args:List AV}{obs:List AObj}{n0:Nat}{ov:Value}{Po:AV→List AObj→Nat→Prop}{Xp:Prop}(hc: ∀(a:Array Value) w,(callFunc k a).run P w= .ok (.enter k a) w)(hf:P.funcs[k]? =some fn)(hb:fn.body=some c)(hN:fn.ntmps=N)
  (hle:Nat.ble args.length N=true) (h: ∀D0 As η0 m0,(∀n,η0 n≠none→n<n0)→Go none P N D0 (outB P N fn (QW As η0 m0 Po) ov (PostX As m0 Xp)) As η0 m0 ⟨RY args obs n0,.code c,[]⟩):Sb P k args obs n0 ov Po Xp:=by
 refine⟨hc,fun η m As w vs hv hd S=> ?_⟩;refine callsB hf hb hN (by rw[←hv.1]; exact Nat.le_of_ble_eq_true hle) ?_;exact h (w,[],false) As η m hd η m (f0 vs) w Env.le_refl (Mem.rfl' m) (Tz hv hd S)
variable {ops:Array Oper}{rest:List Oper}{o:Oper}{f:Fr}{w w':World}
def plainO (cf:Cf):Bool:=match cf.md with| .ops false _ (o::_) _=>o.guard.isNone|_=>false
def panS (cf:Cf)(ea:List AV)(eobs:List AObj):AS:=match Tg cf ea eobs with|some p=>{cf.s with ob:=Dr (tids ((p.ut++p.fw)++p.fr)) cf.s.ob}|none=>cf.s
def Abk (P:Program)(N:Nat)(l:List Oper)(k:Nat):Nat→AS→List Oper→Option (ED×Eqs)
 |_,_,[]=>some ([],[])
 |i,s,o::rest=>
  bif anc (O1 l []) i k then
   match Abk P N l k (i+1) (after N s o ⟨.any,[],[],[],s.nx,[]⟩) rest with
   |some q=>some ((o,⟨.any,[],[],[],s.nx,[]⟩)::q.1,q.2)
   |none=>none
  else match stepG P l.toArray s.fz s.sl s.ob s.nx o with
   |some r=>match Abk P N l k (i+1) (after N s o r) rest with
    |some q=>some ((o,r)::q.1,r.es++q.2)
    |none=>none
   |none=>none
def panR (s:AS)(p:Yi):Stp:=⟨.any,(p.ut++p.fw)++p.fr,[],[],s.nx,[]⟩
def panD (P:Program)(N:Nat)(cf:Cf)(ea:List AV)(eobs:List AObj):Option (Bool×Eqs):=
 match cf.md,Tg cf ea eobs with
 | .ops true l (o::rest) h,some p=>match Abk P N l h.length (h.length+1) (after N cf.s o (panR cf.s p)) rest with
  |some q=>some (o.guard.isNone&&R5 l (h++(o,panR cf.s p)::q.1),q.2)
  |none=>none
 |_,_=>none
def panE (P:Program)(N:Nat)(cf:Cf)(ea:List AV)(eobs:List AObj):Eqs:=match panD P N cf ea eobs with|some q=>q.2|none=> []
end
def throwK (N:Nat)(cf:Cf):Option TypeId:=
 match cf.md with
 | .ops false l [⟨some d,.makeInterface t x,_,_,_,none⟩,⟨none,.panic (.tmp d'),_,_,_,none⟩] _=>
  bif Nat.beq d' d&&Nat.blt d N then match aev cf.s.sl x with
   | .agg []=>some t
   |_=>none
  else none
 |_=>none
section
variable {ρ:Option Nat}{P:Program}{N:Nat}{D0:Dw}{Q:Ds}{As:List Ow}{η0:Env}{m0:Mem}
variable {ops:Array Oper}{rest:List Oper}{o:Oper}{f:Fr}{w w':World}
end
section
variable {ρ:Option Nat}{P:Program}{N:Nat}{D0:Dw}{Q:Ds}{As:List Ow}{η0:Env}{m0:Mem}
def outG (Je:Fr→World→Prop)(ov:Value)(Jx:Fr→World→Prop):Ds:=fun e f w=>match e with| .normal=>Je f w| .ret=>Je f w| .panic ch=>ch=chn ov∧Jx f w|_=>False
def okM (P:Program)(fn:Func)(w:World)(R:Value→World→Prop):Exit→Act→World→Prop:=bodyPostM (FW none) 0 P fn fun e w'=> ∃v,e= .returned v∧Kd w w'∧R v w'
end
end Go.Ax
end
section
namespace Go.Ax
open Go Go.Gw
section
variable {κ γ:Type}
end
section
variable {ρ:Option Nat}{P:Program}{N:Nat}{D0:Dw}{Q:Ds}{As:List Ow}{η0:Env}{m0:Mem}
def ckF (P:Program)(E:TypeId→AV→Bool):List Field→List AV→Bool
 | [],_=>true
 |fd::r,cs=>bif fd.name== "_" then false else
  match Ti P fd.type cs fd.offset with
  |some a=>E fd.type a&&ckF P E r cs
  |none=>false
def ckT (P:Program):Nat→TypeId→AV→Bool
 |0,_,_=>false
 |f+1,t,a=>
  match P.underlying t,a with
  |some (.struct fs),.agg cs=>ckF P (ckT P f) fs.toList cs
  |some (.array 2 e),.agg [.d (.u p),.d (.u q)]=>match P.underlying e,Js P e with
   |some (.int .u64),some i=>Nat.beq i.sz 1&& !i.agg
   |_,_=>false
  |some (.int .i64),.d (.i _)=>true
  |some (.int .u64),.d (.u _)=>true
  |some .bool,.d (.t _)=>true
  |some .string,.d (.s _)=>true
  |_,_=>false
def wideK (P:Program)(k:TypeId):Bool:=match P.underlying k with|some (.array _ _)|some (.struct _)=>true|_=>false
structure MG:Type 1 where
 κ:Type
 γ:Type
 K:κ→List D
 c:γ→D
 kv:List (κ×γ)
def lkgK (P:Program)(cf:Cf):Option (MG×AV×TypeId×TypeId×Bool):=
 match Fm cf with
 |some a=>match a.o.op with
  | .lookup t x y ok=>match P.underlying t,aev a.sl x with
   |some (.map kt et),.ow n=>match Xq cf.s.ob n with
    |some (_,.mg κ γ K c kv)=>some (⟨κ,γ,K,c,kv⟩,aev a.sl y,kt,et,ok)
    |_=>none
   |_,_=>none
  |_=>none
 |none=>none
def lkgT (P:Program)(cf:Cf):List Tok:=
 match Fm cf with
 |some a=>match a.o.op with
  | .lookup t x y ok=>match aev a.sl x with
   | .ow n=>match Xq cf.s.ob n with
    |some (i,q)=> [(i,.hp n q)]
    |_=> []
   |_=> []
  |_=> []
 |none=> []
def zOk (P:Program)(et:TypeId)(d:D):Bool:=
 match Js P et with
 |some i=>match i.z,d with
  |some (.bool b),.t p=> !p&& !b
  |some (.int .i64 k),.i n=>k==n
  |_,_=>false
 |none=>false
def ansG {γ:Type}(c:γ→D)(z:γ)(r:Option γ)(ok:Bool):AV:=bif ok then .tup [.d (c (r.getD z)),.d (.t r.isSome)]else .d (c (r.getD z))
def upgK (P:Program)(cf:Cf):Option (MG×AV×AV×TypeId):=
 match Fm cf with
 |some a=>match a.g,a.o.op with
  |none,.mapUpdate t x y v=>match P.underlying t,aev a.sl x with
   |some (.map kt et),.ow n=>match Xq cf.s.ob n with
    |some (_,.mg κ γ K c kv)=>some (⟨κ,γ,K,c,kv⟩,aev a.sl y,aev a.sl v,kt)
    |_=>none
   |_,_=>none
  |_,_=>none
 |none=>none
def upgS {κ γ:Type}(K:κ→List D)(c:γ→D)(kv:List (κ×γ))(cf:Cf):Stp:=
 match Fm cf with
 |some a=>match a.o.op with
  | .mapUpdate t x y v=>match aev a.sl x with
   | .ow n=>match Xq cf.s.ob n with
    |some (i,q)=>⟨.no,[],[(i,.hp n q)],[(cf.s.nx,.hp n (.mg κ γ K c kv))],cf.s.nx+1,[]⟩
    |_=>⟨.any,[],[],[],cf.s.nx,[]⟩
   |_=>⟨.any,[],[],[],cf.s.nx,[]⟩
  |_=>⟨.any,[],[],[],cf.s.nx,[]⟩
 |none=>⟨.any,[],[],[],cf.s.nx,[]⟩
end
end Go.Ax
end
