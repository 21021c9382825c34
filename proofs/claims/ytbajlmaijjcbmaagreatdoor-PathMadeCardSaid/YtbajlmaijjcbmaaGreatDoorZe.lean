/- Several texts, one behind the other. Conditions: none. -/
import Derived.Test.YtbajlmaijjcbmaaGreatDoorZd
import Derived.KernelRfl
import Derived.RecoverIn
set_option linter.unusedSimpArgs false
set_option linter.unusedVariables false
section
namespace Go.Ax
open Go Go.Gw
section
variable {ρ:Option Nat}{P:Program}{N:Nat}{D0:Dw}{Q Q':C5}{As:List Ow}{η0:Env}{m0:Mem}
theorem Dj (hq: ∀e f w,Q e f w→Q' e f w): ∀{K:List Kt} {e:Exit} {f:Fr} {w:World},pk ρ P N D0 Q K e f w→pk ρ P N D0 Q' K e f w
 | [],e,f,w,h=>hq e f w h
 | .code c::K,e,f,w,h=>by
  cases e with
  |normal=>exact FC (fun e f w q=>Dj hq q) h
  |_=>exact Dj hq (K:=K) h
 | .blk id::K,e,f,w,h=>by
  cases e with
  |exit id'=>
   simp only[pk,LI]at h⊢;cases hb:Nat.beq id' id
   ·rw[hb]at h; exact Dj hq (K:=K) h
   ·rw[hb]at h; exact Dj hq (K:=K) h
  |_=>exact Dj hq (K:=K) h
 | .scp::K,e,f,w,h=>by
  cases e with
  |goto l=>exact h.elim
  |_=>exact Dj hq (K:=K) h
 | .ctn J::K,e,f,w,h=>by
  cases e with
  |normal=>exact h
  |_=>exact Dj hq (K:=K) h
theorem UM {ops:Array Oper}{F F':AS→List (Oper×Stp)→Prop}(hF: ∀s h,F s h→F' s h): ∀{l:List Oper} {s:AS} {h:List (Oper×Stp)},FT ρ P N D0 ops F l s h→FT ρ P N D0 ops F' l s h
 | [],s,h,g=>hF s h g
 |o::l,s,h,⟨r,t1,t2,t3⟩=>⟨r,t1,t2,UM hF t3⟩
theorem Go.mono (hq: ∀e f w,Q e f w→Q' e f w){cf:Cf}(h:Go ρ P N D0 Q As η0 m0 cf):Go ρ P N D0 Q' As η0 m0 cf:=by
 obtain⟨s,md,K⟩:=cf;cases md with
 |code c=>exact fun η m f w a b g=>FC (fun e f w q=>Dj hq q) (h η m f w a b g)
 |pop=>exact fun η m f w a b g=>Dj hq (h η m f w a b g)
 |ext id=>exact fun η m f w a b g=>Dj hq (h η m f w a b g)
 |ret=>exact fun η m f w a b g=>Dj hq (h η m f w a b g)
 |ops dr l rest hh=>
  rcases h with h|⟨hd,h⟩|⟨hd,h⟩
  ·exact .inl (UM (fun s h F=>⟨F.1,fun η m f w a b g=>Dj hq (F.2 η m f w a b g)⟩) h)
  ·exact .inr (.inl ⟨hd,fun η m f w a b g=>MF (fun e f w q=>Dj hq q) (h η m f w a b g)⟩)
  ·obtain⟨rs,bad,k,p,h1,h2,h3,h4,h5,h6,h7,h8,h9⟩:=h;exact .inr (.inr ⟨hd,rs,bad,k,p,h1,h2,h3,h4,h5,h6,h7,h8,fun η m f w Bs a b c d=>MF (fun e f w q=>match e,q with| .normal,q=>q.elim| .exit _,q=>Dj hq q| .goto _,q=>Dj hq q| .ret,q=>Dj hq q| .panic _,q=>Dj hq q| .outgrown,q=>Dj hq q) (h9 η m f w Bs a b c d)⟩)
end
def chn (ov:Value):List PanicEntry:=[{v:=ov,recovered:=false}]
def Rc (P:Program)(k:FuncId)(args:Array Value)(w:World)(ov:Value)(R:Value→World→Prop)(X:World→Prop):Prop:=Calls P k args w fun e w'=>(∃v,e= .returned v∧Kd w w'∧R v w')∨(e= .panicked (chn ov)∧Kd w w'∧X w')
theorem Rc.ret {P:Program}{k:FuncId}{args:Array Value}{w:World}{ov:Value}{R:Value→World→Prop}{X:World→Prop}(h:Rc P k args w ov R X)(hx: ∀w',¬X w'):Az P k args w R:=
 Calls.mono h fun e w' q=>by
  rcases q with q|⟨_,_,q⟩
  ·exact q
  ·exact absurd q (hx w')
def outB (P:Program)(N:Nat)(fn:Func)(R:Value→World→Prop)(ov:Value)(X:World→Prop):C5:=fun e f w=>match e with| .panic ch=>ch=chn ov∧∀w',Pd w w'→X w'|e=>UU P N fn R e f w
section
variable {ρ:Option Nat}{P:Program}{N:Nat}{D0:Dw}{Q:C5}{As:List Ow}{η0:Env}{m0:Mem}
theorem I1 {fn:Func}{tmps:Array Value}{R:Ending→World→Prop}{w0:World}{u:FrameMode}{ds:List Deferred}(hu:u≠ .run): ∀(E:List Nat) (w:World),Kd w0 w→E.Nodup→(∀b∈E,w0.heap.size≤b∧w.heap[b]? =some dfr)→
  (∀w',Pd w w'→Kd w0 w'→LeavesInM (FW none) 0 P fn tmps R ds u w')→LeavesInM (FW none) 0 P fn tmps R (E.map Gw.mark++ds) u w:=by
 intro E;induction E with
 |nil=>exact fun w hk _ _ h=>h w (Pd.rfl' w) hk
 |cons b E ih=>
  intro w hk hn hl h;obtain⟨hb1,hb2⟩:=hl b (by simp);have hlt:=(Array.getElem?_eq_some_iff.1 hb2).1;have hpd:Pd w (w.putObj b (.deferred none)):=⟨rfl,rfl,rfl,fun k o ho e=>by
   by_cases q:k=b
   ·subst q; rw[hb2]at e; cases e; exact absurd rfl ho
   ·rw[World.putObj_heap_other q]; exact e⟩
  refine⟨hu,.inl ⟨b,w.putObj b (.deferred none),rfl,run_takeDeferred hb2,?_⟩⟩;refine ih _ ⟨by simpa using hk.size,fun k e=> ?_⟩ (List.nodup_cons.1 hn).2 (fun c hc=>⟨(hl c (by simp[hc])).1,?_⟩) (fun w' p=>h w' (hpd.tr p))
  ·have:=(Array.getElem?_eq_some_iff.1 e).1;rw[World.putObj_heap_other (by omega)]; exact hk.same k e
  ·have:c≠b:=fun q=>(List.nodup_cons.1 hn).1 (q▸hc);rw[World.putObj_heap_other this]; exact(hl c (by simp[hc])).2
theorem sim0 {fn:Func}{args:List Value}(hN:fn.ntmps=N)(hle:args.length≤N):Sim N {tmps:=args.toArray++Array.replicate (fn.ntmps-args.toArray.size) undef,defers:=[]} (f0 args):=by
 refine⟨by simp[hN]; omega,fun t=> ?_⟩;simp only[f0,Array.getD_eq_getD_getElem?,List.getD_eq_getElem?_getD,Array.getElem?_append];split
 ·simp
 ·rename_i h1;simp at h1;rw[List.getElem?_eq_none h1];rw[Array.getElem?_replicate];split<;>rfl
theorem callsB {k:FuncId}{fn:Func}{c:Code}{args:List Value}{R:Value→World→Prop}{ov:Value}{X:World→Prop}{w:World}(hf:P.funcs[k]? =some fn)(hb:fn.body=some c)(hN:fn.ntmps=N)
  (hle:args.length≤N) (h:wpc none P N (w,[],false) c (outB P N fn R ov X) (f0 args) w):Rc P k args.toArray w ov R X:=by
 refine Lq (ρ:=none) (n:=0) (callsIn_of_wp_marks hf hb trivial ?_);refine wpIn_mono (h _ ⟨sim0 hN hle,Okd.nil rfl⟩) ?_;rintro e a w' ⟨f',⟨s,ok⟩,q⟩;obtain⟨E,hE,-,hn,hl⟩:=ok.marks;have fin:(∀w'',Pd w' w''→∃v,(∀a,Sim N a f'→(results fn a.tmps).run P w''= .ok v w'')∧R v w'')→
   LeavesInM (FW none) 0 P fn a.tmps (fun e w'=>(∃v,e= .returned v∧Kd w w'∧R v w')∨(e= .panicked (chn ov)∧Kd w w'∧X w')) a.defers .returning w':=fun q=>by
  rw[hE];refine I1 (by simp) E w' ok.keep hn hl fun w'' p k=> ?_;obtain⟨v,hr,hR⟩:=q w'' p;exact⟨v,hr a s,.inl ⟨v,rfl,k,hR⟩⟩
 cases e with
 |normal=>exact fin q
 |ret=>exact fin q
 |exit id=>exact q.elim
 |goto l=>exact q.elim
 |panic ch=>
  obtain⟨rfl,hX⟩:=q;show LeavesInM _ _ _ _ _ _ a.defers _ _;rw[hE];exact I1 (by simp) E w' ok.keep hn hl fun w'' p k=>Or.inr ⟨rfl,k,hX w'' p⟩
 |outgrown=>exact q.elim
def Sb (P:Program)(k:FuncId)(args:List AV)(obs:List AObj)(n0:Nat)(ov:Value)(Po:AV→List AObj→Nat→Prop)(Xp:Prop):Prop:=(∀(a:Array Value) w,(callFunc k a).run P w= .ok (.enter k a) w)∧∀(η:Env) (m:Mem) (As:List Ow) (w:World) (vs:List Value),Bj η m args vs→(∀n,η n≠none→n<n0)→St m (obs.map (rep η m)++As) w→Rc P k vs.toArray w ov (fun v w'=> ∃(M:Mem) (η':Env) (r:AV) (obs':List AObj) (n1:Nat),m≤M∧η.le η'∧Po r obs' n1∧(∀n,η' n≠none→n<n1)∧Rel η' M r v∧St M (obs'.map (rep η' M)++As) w') (fun w'=>Xp∧∃M,m≤M∧St M As w')
def Pos {β:Type}(x:Option β)(A:β→AV)(O:β→List AObj)(n1:Nat):AV→List AObj→Nat→Prop:=fun a o n=> ∃r,x=some r∧a=A r∧o=O r∧n=n1
theorem Sb.sp {k:FuncId}{args:List AV}{obs:List AObj}{n0 n1:Nat}{ov:Value}{β:Type}{r:β}{A:β→AV}{O:β→List AObj}(h:Sb P k args obs n0 ov (Pos (some r) A O n1) (some r=none)):Sp P k args obs n0 (is (A r) (O r) n1):=
 ⟨h.1,fun η m As w vs a b c=>Az.mono ((h.2 η m As w vs a b c).ret fun w' q=>by cases q.1) fun v w' ⟨M,η',r',obs',n',q1,q2,⟨r2,e,e1,e2,e3⟩,q4,q5,q6⟩=>by
  cases e;exact⟨M,η',r',obs',n',q1,q2,⟨e1,e2,e3⟩,q4,q5,q6⟩⟩
def PostX (As:List Ow)(m0:Mem)(Xp:Prop):World→Prop:=fun w'=>Xp∧∃M,m0≤M∧St M As w'
theorem sb_of {k:FuncId}{fn:Func}{c:Code}{args:List AV}{obs:List AObj}{n0:Nat}{ov:Value}{Po:AV→List AObj→Nat→Prop}{Xp:Prop}(hc: ∀(a:Array Value) w,(callFunc k a).run P w= .ok (.enter k a) w)(hf:P.funcs[k]? =some fn)(hb:fn.body=some c)(hN:fn.ntmps=N)
  (hle:Nat.ble args.length N=true) (h: ∀D0 As η0 m0,(∀n,η0 n≠none→n<n0)→Go none P N D0 (outB P N fn (N1 As η0 m0 Po) ov (PostX As m0 Xp)) As η0 m0 ⟨OS args obs n0,.code c,[]⟩):Sb P k args obs n0 ov Po Xp:=by
 refine⟨hc,fun η m As w vs hv hd S=> ?_⟩;refine callsB hf hb hN (by rw[←hv.1]; exact Nat.le_of_ble_eq_true hle) ?_;exact h (w,[],false) As η m hd η m (f0 vs) w Env.le_refl (Mem.rfl' m) (PY hv hd S)
variable {ops:Array Oper}{rest:List Oper}{o:Oper}{f:Fr}{w w':World}
def plainO (cf:Cf):Bool:=match cf.md with| .ops false _ (o::_) _=>o.guard.isNone|_=>false
def panS (cf:Cf)(ea:List AV)(eobs:List AObj):AS:=match PD cf ea eobs with|some p=>{cf.s with ob:=CO (tids ((p.ut++p.fw)++p.fr)) cf.s.ob}|none=>cf.s
def XF (P:Program)(N:Nat)(l:List Oper)(k:Nat):Nat→AS→List Oper→Option (DL×Eqs)
 |_,_,[]=>some ([],[])
 |i,s,o::rest=>
  bif anc (Me l []) i k then
   match XF P N l k (i+1) (after N s o ⟨.any,[],[],[],s.nx,[]⟩) rest with
   |some q=>some ((o,⟨.any,[],[],[],s.nx,[]⟩)::q.1,q.2)
   |none=>none
  else match stepG P l.toArray s.fz s.sl s.ob s.nx o with
   |some r=>match XF P N l k (i+1) (after N s o r) rest with
    |some q=>some ((o,r)::q.1,r.es++q.2)
    |none=>none
   |none=>none
def panR (s:AS)(p:UL):Stp:=⟨.any,(p.ut++p.fw)++p.fr,[],[],s.nx,[]⟩
def panD (P:Program)(N:Nat)(cf:Cf)(ea:List AV)(eobs:List AObj):Option (Bool×Eqs):=
 match cf.md,PD cf ea eobs with
 | .ops true l (o::rest) h,some p=>match XF P N l h.length (h.length+1) (after N cf.s o (panR cf.s p)) rest with
  |some q=>some (o.guard.isNone&&OY l (h++(o,panR cf.s p)::q.1),q.2)
  |none=>none
 |_,_=>none
def panE (P:Program)(N:Nat)(cf:Cf)(ea:List AV)(eobs:List AObj):Eqs:=match panD P N cf ea eobs with|some q=>q.2|none=> []
end
def throwK (N:Nat)(cf:Cf):Option TypeId:=
 match cf.md with
 | .ops false l [⟨some d,.makeInterface t x,_,_,_,none⟩,⟨none,.panic (.tmp d'),_,_,_,none⟩] _=>
  bif Nat.beq d' d&&Nat.blt d N then match aev cf.s.sl x with
   | .agg []=>some t
   |_=>none
  else none
 |_=>none
section
variable {ρ:Option Nat}{P:Program}{N:Nat}{D0:Dw}{Q:C5}{As:List Ow}{η0:Env}{m0:Mem}
variable {ops:Array Oper}{rest:List Oper}{o:Oper}{f:Fr}{w w':World}
end
section
variable {ρ:Option Nat}{P:Program}{N:Nat}{D0:Dw}{Q:C5}{As:List Ow}{η0:Env}{m0:Mem}
def outG (Je:Fr→World→Prop)(ov:Value)(Jx:Fr→World→Prop):C5:=fun e f w=>match e with| .normal=>Je f w| .ret=>Je f w| .panic ch=>ch=chn ov∧Jx f w|_=>False
def okM (P:Program)(fn:Func)(w:World)(R:Value→World→Prop):Exit→Act→World→Prop:=bodyPostM (FW none) 0 P fn fun e w'=> ∃v,e= .returned v∧Kd w w'∧R v w'
end
end Go.Ax
end
section
namespace Go.Ax
open Go Go.Gw
section
variable {κ γ:Type}
end
section
variable {ρ:Option Nat}{P:Program}{N:Nat}{D0:Dw}{Q:C5}{As:List Ow}{η0:Env}{m0:Mem}
def ckF (P:Program)(E:TypeId→AV→Bool):List Field→List AV→Bool
 | [],_=>true
 |fd::r,cs=>bif fd.name== "_" then false else
  match PI P fd.type cs fd.offset with
  |some a=>E fd.type a&&ckF P E r cs
  |none=>false
def ckT (P:Program):Nat→TypeId→AV→Bool
 |0,_,_=>false
 |f+1,t,a=>
  match P.underlying t,a with
  |some (.struct fs),.agg cs=>ckF P (ckT P f) fs.toList cs
  |some (.array 2 e),.agg [.d (.u p),.d (.u q)]=>match P.underlying e,Hm P e with
   |some (.int .u64),some i=>Nat.beq i.sz 1&& !i.agg
   |_,_=>false
  |some (.int .i64),.d (.i _)=>true
  |some (.int .u64),.d (.u _)=>true
  |some .bool,.d (.t _)=>true
  |some .string,.d (.s _)=>true
  |_,_=>false
def wideK (P:Program)(k:TypeId):Bool:=match P.underlying k with|some (.array _ _)|some (.struct _)=>true|_=>false
structure MG:Type 1 where
 κ:Type
 γ:Type
 K:κ→List D
 c:γ→D
 kv:List (κ×γ)
def lkgK (P:Program)(cf:Cf):Option (MG×AV×TypeId×TypeId×Bool):=
 match Eu cf with
 |some a=>match a.o.op with
  | .lookup t x y ok=>match P.underlying t,aev a.sl x with
   |some (.map kt et),.ow n=>match T4 cf.s.ob n with
    |some (_,.mg κ γ K c kv)=>some (⟨κ,γ,K,c,kv⟩,aev a.sl y,kt,et,ok)
    |_=>none
   |_,_=>none
  |_=>none
 |none=>none
def lkgT (P:Program)(cf:Cf):List Tok:=
 match Eu cf with
 |some a=>match a.o.op with
  | .lookup t x y ok=>match aev a.sl x with
   | .ow n=>match T4 cf.s.ob n with
    |some (i,q)=> [(i,.hp n q)]
    |_=> []
   |_=> []
  |_=> []
 |none=> []
def zOk (P:Program)(et:TypeId)(d:D):Bool:=
 match Hm P et with
 |some i=>match i.z,d with
  |some (.bool b),.t p=> !p&& !b
  |some (.int .i64 k),.i n=>k==n
  |_,_=>false
 |none=>false
def ansG {γ:Type}(c:γ→D)(z:γ)(r:Option γ)(ok:Bool):AV:=bif ok then .tup [.d (c (r.getD z)),.d (.t r.isSome)]else .d (c (r.getD z))
def upgK (P:Program)(cf:Cf):Option (MG×AV×AV×TypeId):=
 match Eu cf with
 |some a=>match a.g,a.o.op with
  |none,.mapUpdate t x y v=>match P.underlying t,aev a.sl x with
   |some (.map kt et),.ow n=>match T4 cf.s.ob n with
    |some (_,.mg κ γ K c kv)=>some (⟨κ,γ,K,c,kv⟩,aev a.sl y,aev a.sl v,kt)
    |_=>none
   |_,_=>none
  |_,_=>none
 |none=>none
def upgS {κ γ:Type}(K:κ→List D)(c:γ→D)(kv:List (κ×γ))(cf:Cf):Stp:=
 match Eu cf with
 |some a=>match a.o.op with
  | .mapUpdate t x y v=>match aev a.sl x with
   | .ow n=>match T4 cf.s.ob n with
    |some (i,q)=>⟨.no,[],[(i,.hp n q)],[(cf.s.nx,.hp n (.mg κ γ K c kv))],cf.s.nx+1,[]⟩
    |_=>⟨.any,[],[],[],cf.s.nx,[]⟩
   |_=>⟨.any,[],[],[],cf.s.nx,[]⟩
  |_=>⟨.any,[],[],[],cf.s.nx,[]⟩
 |none=>⟨.any,[],[],[],cf.s.nx,[]⟩
end
end Go.Ax
end
section
namespace Go.Ax
open Go Go.Gw
theorem Vc {A:Ow}{h:PH}(a:A h):sepL [A] h:=⟨h,PH.emp,a,rfl,PH.disj_emp h,(PH.join_emp h).symm⟩
theorem SA {A:Ow}{h:PH}(s:sepL [A] h):A h:=by
 obtain⟨h1,h2,a,e,d,j⟩:=s;have e':h2=PH.emp:=e;subst e';rw[PH.join_emp]at j;subst j;exact a
theorem KL {Bs:List Ow}: ∀{L:List Ow} {h:PH},sepL (L++Bs) h→∃h1 h2,sepL L h1∧sepL Bs h2∧h1.disj h2∧h=h1.join h2
 | [],h,s=>⟨PH.emp,h,rfl,s,PH.disj_symm (PH.disj_emp h),(PH.emp_join h).symm⟩
 |A::L,h,⟨h1,h2,a,s,d,e⟩=>by
  obtain⟨k1,k2,s1,s2,d2,rfl⟩:=KL (L:=L) s;have dd:=PH.disj_join.1 d;exact⟨h1.join k1,k2,⟨h1,k1,a,s1,dd.1,rfl⟩,s2,PH.join_disj.2 ⟨dd.2,d2⟩,by rw[e,PH.join_assoc]⟩
theorem Qt {Bs:List Ow}: ∀{L:List Ow} {h1 h2:PH},sepL L h1→sepL Bs h2→h1.disj h2→sepL (L++Bs) (h1.join h2)
 | [],h1,h2,e,s,d=>by
  have e':h1=PH.emp:=e;subst e';rw[PH.emp_join]; exact s
 |A::L,_,h2,⟨k1,k2,a,s1,d1,e⟩,s,d=>by
  subst e;have dd:=PH.join_disj.1 d;exact⟨k1,k2.join h2,a,Qt s1 s dd.2,PH.disj_join.2 ⟨d1,dd.1⟩,by rw[PH.join_assoc]⟩
def hkC {σ:Type}(R:σ→Mem→Ow)(s:σ)(m:Mem):Ow:=fun h=> ∃m0,m0≤m∧R s m0 h
def CbOk (P:Program)(g:Value){σ α:Type}(A:α→List AV)(R:σ→Mem→Ow)(p:σ→α→Option (Bool×σ)):Prop:= ∀s x r,p s x=some r→∀(m:Mem) (vs:List Value) (As:List Ow) (w:World),Bj none0 m (A x) vs→St m (hkC R s m::As) w→Dt P g vs w fun v w'=> ∃M,v=vb r.1∧m≤M∧St M (hkC R r.2 M::As) w'
def cbK (cf:Cf)(ea:List AV):Option (Nat×Nat×HK×List AV):=
 match Eu cf with
 |some a=>match a.g,a.o.op with
  |none,.call c=>match c.callee with
   | .value x=>match aev a.sl x with
    | .ow n=>match T4 cf.s.ob n with
     |some (i,q)=>some (i,n,q,U0 cf.s.fz ea (c.args.toList.map (aev a.sl)))
     |none=>none
    |_=>none
   |_=>none
  |_,_=>none
 |none=>none
def cbS (cf:Cf)(ea:List AV)(q:HK)(v:AV):Stp:=match cbK cf ea with|some (i,n,q0,_)=>⟨v,[],[(i,.hp n q0)],[(cf.s.nx,.hp n q)],cf.s.nx+1,[]⟩|none=>⟨.no,[],[],[],0,[]⟩
section
variable {ρ:Option Nat}{P:Program}{N:Nat}{D0:Dw}{Q:C5}{As:List Ow}{η0:Env}{m0:Mem}
theorem gcb {cf:Cf}{σ α:Type}{A:α→List AV}{g:Value}{R:σ→Mem→Ow}{p:σ→α→Option (Bool×σ)}{s:σ}{r:Bool×σ}(x:α)(hg:CbOk P g A R p)(hp:p s x=some r)(gg:Go ρ P N D0 Q As η0 m0 (push N (aC P N cf) (cbS (aC P N cf) (A x) (.cb g σ R r.2) (.d (.t r.1)))))
  (e:((cbK (aC P N cf) (A x)).map (fun q=>(q.2.2.1,q.2.2.2)),(A x).all (okA 0),(aL P N cf))=(some (.cb g σ R s,A x),true,(aR P N cf)):=by kernel_rfl) (hm:P.follows .mixedOrders=true:=by rfl):Go ρ P N D0 Q As η0 m0 cf:=by
 simp only[Prod.mk.injEq]at e;obtain⟨e1,e2,e3⟩:=e;obtain⟨he1,-⟩:=Hz e3;refine Bg hm he1 ?_;generalize aC P N cf=c0 at*;cases hq:cbK c0 (A x)with
 |none=>rw[hq]at e1; cases e1
 |some t=>
  obtain⟨i,nn,q0,asg⟩:=t;have hT:cbS c0 (A x) (.cb g σ R r.2) (.d (.t r.1))=⟨.d (.t r.1),[],[(i,.hp nn q0)],[(c0.s.nx,.hp nn (.cb g σ R r.2))],c0.s.nx+1,[]⟩:=by unfold cbS; rw[hq]
  rw[hT]at gg;rw[hq]at e1;simp only[Option.map_some,Option.some.injEq,Prod.mk.injEq]at e1;obtain⟨e4,e5⟩:=e1;subst e4;unfold cbK at hq;split at hq
  ·rename_i a ha;split at hq
   ·rename_i c hgd0 hop;split at hq
    ·rename_i xo hce;split at hq
     ·rename_i n2 hx;split at hq
      ·rename_i i2 q2 hh;simp only[Option.some.injEq,Prod.mk.injEq]at hq;obtain⟨rfl,rfl,rfl,rfl⟩:=hq;have hgd:=Ce ha hgd0;refine ER ha hgd0 ?_ (Nc (Lb hh)) gg;obtain⟨l,⟨dst,op',ty,pos,af,gd⟩,gg',sl,es⟩:=a;simp only at hop hx hgd e5⊢; subst hop hgd;obtain⟨ce,⟨xs⟩,ts⟩:=c;simp only at hce e5; subst hce;refine⟨Nat.le_succ _,fun rest Q η m f w As hr hz hn' S hk=> ?_⟩;have rx:=An hr xo;rw[hx]at rx;obtain⟨ex,_⟩:=rx.ow_inv;have S0:St m (rep η m (.hp n2 (.cb g σ R s))::As) w:=S;obtain⟨b,hb,S1⟩:=St.openHp S0;rw[ex]at hb;have hxv:ev f xo=g:=Option.some.inj hb;have ra:=HV (es:=A x) hz (Bj.map_aev hr xs);rw[e5]at ra;refine Fx hxv (hg s x r hp m _ As w (Jq (n:=0) (fun k hk=>absurd hk (Nat.not_lt_zero k)) e2 ra) S1) rfl ?_;rintro v w2 ⟨M,rfl,lM,S2⟩;exact hk η M w2 _ Env.le_refl lM (fun n h=> .inl h) (.d (.t _)) (St.closeHp (q:= .cb g σ R r.2) (b:=b) (by rw[ex,hxv]; rfl) S2)
      ·cases hq
     ·cases hq
    ·cases hq
   ·cases hq
  ·cases hq
end
def rgK (cf:Cf):Option (Nat×List Nat):=match cf.md with| .code (.rangeFunc (.tmp g) ps _ _)=>some (g,ps.toList)|_=>none
def asgC (cf:Cf)(s:AS)(J:Fr→World→Prop):Cf:=match cf.md with| .code (.rangeFunc _ _ a _)=>⟨s,.code a,[.ctn J]⟩|_=>cf
def bodC (cf:Cf)(s:AS)(J:Fr→World→Prop):Cf:=match cf.md with| .code (.rangeFunc _ _ _ b)=>⟨s,.code b,[.ctn J]⟩|_=>cf
def slz (N:Nat):Sl→List Nat→List AV→Sl
 |sl,t::ts,a::asg=>slz N (setS N sl (some t) a) ts asg
 |sl,_,_=>sl
def XE (J:Fr→World→Prop):C5
 | .ret,f,w=>J f w
 |_,_,_=>False
def isL {ι κ:Type}:ι⊕κ→Bool
 | .inl _=>true
 | .inr _=>false
def Rt {ι κ α:Type}(p:ι→α→Option (ι⊕κ)):(ι⊕κ)→α→Option (Bool×(ι⊕κ))
 | .inl x,a=>(p x a).map fun r=>(isL r,r)
 | .inr _,_=>none
theorem Su {η:Env}{m:Mem}{N:Nat}: ∀{ts:List Nat} {asg:List AV} {vs:List Value} {sl:Sl} {f:Fr},(∀t,Rel η m (get sl t) (f t))→Bj η m asg vs→ts.length=asg.length→∀t,Rel η m (get (slz N sl ts asg) t) (upz N f ts vs t)
 | [],asg,vs,sl,f,h,_,_=>by
  intro t;show Rel η m (get (slz N sl [] asg) t) (upz N f [] vs t);have e1:slz N sl [] asg=sl:=by cases asg<;>rfl
  have e2:upz N f [] vs=f:=by cases vs<;>rfl
  rw[e1,e2]; exact h t
 |t0::ts,[],vs,sl,f,h,_,hl=>by simp at hl
 |t0::ts,a::asg,vs,sl,f,h,hv,hl=>by
  obtain⟨v,us,rfl,h1,h2⟩:=hv.cons_inv;intro t;exact Su (f:=up N f t0 v) (fun t=>QQ (N:=N) (d:=some t0) h h1 t) h2 (by simpa using hl) t
theorem Ua {n:Nat}: ∀{sl:Sl},(sl.map (·.2)).all (okA n)=true→∀t,okA n (get sl t)=true
 | [],_,_=>rfl
 |p::l,h,t=>by
  simp only[List.map_cons,List.all_cons,Bool.and_eq_true]at h;show okA n (bif Nat.beq p.1 t then p.2 else get l t)=true;cases Nat.beq p.1 t
  ·exact Ua h.2 t
  ·exact h.1
def rgOb {ι κ:Type}(oJ:ι→List Tok)(oK:κ→List Tok):ι⊕κ→List Tok
 | .inl x=>oJ x
 | .inr y=>oK y
def rgSt {ι κ:Type}:ι⊕κ→LoopState×Option Code
 | .inl _=>(.ready,none)
 | .inr _=>(.done,some .ret)
def rgR {ι κ:Type}(l:Nat)(i:LN)(oJ:ι→List Tok)(oK:κ→List Tok)(As:List Ow)(ηc:Env)(m1:Mem)(nx:Nat):(ι⊕κ)→Mem→Ow:=fun q M h=> ∃η',ηc.le η'∧m1≤M∧(∀n,η' n≠none→n<nx)∧sepL (Lp l i (rgSt q).1 (rgSt q).2::(reps η' M (rgOb oJ oK q)++As)) h
theorem perm_mid {A:Ow}{X Y:List Ow}:(X++A::Y).Perm (A::(X++Y)):=List.perm_middle
section
variable {P:Program}{N:Nat}{D0:Dw}{Q:C5}{As:List Ow}{η0:Env}{m0:Mem}
theorem rg_cb {n1 nx:Nat}{l:Nat}{i:LN}{ι κ α:Type}{ps:List Nat}{sl0:Sl}{oJ:ι→List Tok}{oK:κ→List Tok}{A:α→List AV}{sB:ι→α→AS}{p:ι→α→Option (ι⊕κ)}{f:Fr}{asg bo:Code}{ηc:Env}{m1:Mem}
  (hi:i.Ok N f ps asg bo) (hdc: ∀n,ηc n≠none→n<n1) (hsl: ∀t,Rel ηc m1 (get sl0 t) (f t)) (hAl: ∀a,ps.length=(A a).length)
  (hJ: ∀x,(N2 (tids (oJ x))&&NB nx (tids (oJ x)))=true)
  (hA: ∀x a s',p x a=some s'→∀l D0 As η0 m0,(∀n,η0 n≠none→n<n1)→Go (some l) P N D0 (XE fun _ _=>False) As η0 m0 ⟨⟨slz N sl0 ps (A a),oJ x,[],nx⟩,.code asg,[.ctn (Rl As η0 m0 (fun _:Unit=>sB x a) fun _=>True)]⟩)
  (hB: ∀x a s',p x a=some s'→∀l D0 As η0 m0,(∀n,η0 n≠none→n<n1)→Go (some l) P N D0 (XE (Rl As η0 m0 (fun y=>⟨sl0,oK y,[],nx⟩) fun y=>s'= .inr y)) As η0 m0
   ⟨sB x a,.code bo,[.ctn (Rl As η0 m0 (fun y=>⟨sl0,oJ y,[],nx⟩) fun y=>s'= .inl y)]⟩):
  CbOk P (.func (.yield l) #[] #[]) A (rgR l i oJ oK As ηc m1 nx) (Rt p):=by
 rintro s x r hp m vs Bs w hv S;cases s with
 |inr y=>cases hp
 |inl x'=>
  obtain⟨s',hs',rfl⟩:=Option.map_eq_some_iff.1 (show(p x' x).map (fun r=>(isL r,r))=some r from hp);obtain⟨h,⟨h1,h2,⟨m2,lm,η2,c1,c2,c3,c4⟩,hb,d,ej⟩,hr⟩:=S.own;have S1:St m (Lp l i .ready none::(reps η2 m2 (oJ x')++(As++Bs))) w:=by
   refine⟨S.os,S.tape,S.output,h,?_,hr⟩;have:=Qt c4 hb d;rw[←ej]at this;have e:Lp l i .ready none::(reps η2 m2 (oJ x')++(As++Bs))=(Lp l i .ready none::(reps η2 m2 (oJ x')++As))++Bs:=by simp
   rw[e]; exact this
  have S2:St m (reps η2 m (oJ x')++(Lp l i .ready none::(As++Bs))) w:=St.ru Env.le_refl lm (S1.perm perm_mid.symm);have lm1:m1≤m:=Mem.tr c2 lm;have hj:=hJ x';simp only[Bool.and_eq_true]at hj;have gA:Gm (Lp l i .ready none::(As++Bs)) ⟨slz N sl0 ps (A x),oJ x',[],nx⟩ η2 m (upz N f ps vs) w:=
   ⟨Su (fun t=>(hsl t).up c1 lm1) (hv.up (fun n v e=>by cases e) (Mem.rfl' m)) (hAl x),fun n d h=>(by cases h),c3,S2,Fy hj.1,fun t ht=>I0 hj.2 t ht⟩
  refine Dt.round hi (by rw[hAl x]; exact hv.1.symm) (S2.perm perm_mid) ?_;refine FC (fun ex f1 w1 q=> ?_) (hA x' x s' hs' l (w,[],false) (Lp l i .ready none::(As++Bs)) ηc m hdc η2 m _ w c1 (Mem.rfl' m) gA);cases ex with
  |normal=>
   obtain⟨_,_,η3,m3,b1,b2,gB⟩:=q;refine⟨m3,reps η3 m3 (sB x' x).ob++(As++Bs),gB.st.perm perm_mid,fun w2 T2=> ?_⟩;have gB':Gm (Lp l i .busy none::(As++Bs)) (sB x' x) η3 m3 f1 w2:=⟨gB.slr,gB.fz,gB.dom,T2.perm perm_mid.symm,gB.wf⟩;refine FC (fun ex f4 w4 q=> ?_) (hB x' x s' hs' l (w,[],false) (Lp l i .busy none::(As++Bs)) ηc m hdc η3 m3 f1 w2 b1 b2 gB');cases ex with
   |normal=>
    obtain⟨y,hy,η4,m4,d1,d2,g4⟩:=q;refine⟨m4,reps η4 m4 (oJ y)++(As++Bs),g4.st.perm perm_mid,fun w' S'=>⟨m4,by rw[hy]; rfl,d2,?_⟩⟩;obtain⟨h',hx,hr'⟩:=S'.own;have e:Lp l i .ready none::(reps η4 m4 (oJ y)++(As++Bs))=(Lp l i .ready none::(reps η4 m4 (oJ y)++As))++Bs:=by simp
    rw[e]at hx;obtain⟨k1,k2,s1,s2,dd,rfl⟩:=KL hx;exact⟨S'.os,S'.tape,S'.output,_,⟨k1,k2,⟨m4,Mem.rfl' m4,η4,d1,Mem.tr lm1 d2,g4.dom,by rw[hy]; exact s1⟩,s2,dd,rfl⟩,hr'⟩
   |ret=>
    obtain⟨y,hy,η4,m4,d1,d2,g4⟩:=q;refine⟨m4,reps η4 m4 (oK y)++(As++Bs),g4.st.perm perm_mid,fun w' S'=>⟨m4,by rw[hy]; rfl,d2,?_⟩⟩;obtain⟨h',hx,hr'⟩:=S'.own;have e:Lp l i .done (some .ret)::(reps η4 m4 (oK y)++(As++Bs))=(Lp l i .done (some .ret)::(reps η4 m4 (oK y)++As))++Bs:=by simp
    rw[e]at hx;obtain⟨k1,k2,s1,s2,dd,rfl⟩:=KL hx;exact⟨S'.os,S'.tape,S'.output,_,⟨k1,k2,⟨m4,Mem.rfl' m4,η4,d1,Mem.tr lm1 d2,g4.dom,by rw[hy]; exact s1⟩,s2,dd,rfl⟩,hr'⟩
   |exit id=>exact q.elim
   |goto l=>exact q.elim
   |panic ch=>exact q.elim
   |outgrown=>exact q.elim
  |exit id=>exact q.elim
  |goto l=>exact q.elim
  |ret=>exact q.elim
  |panic ch=>exact q.elim
  |outgrown=>exact q.elim
theorem VM (hm:P.follows .mixedOrders=true)(hD:D0.2.2=false){n n0:Nat}(n1 nx:Nat){cf:Cf}{ι κ α:Type}{gt:Nat}{ps:List Nat}{gf:FuncId}{cs:List AV}{r0:AV}(sl0:Sl)(oJ:ι→List Tok)(oK:κ→List Tok)
  (A:α→List AV) (sB:ι→α→AS) (p:ι→α→Option (ι⊕κ)) (x0:ι) {s1:ι⊕κ} (hd: ∀n,η0 n≠none→n<n0)
  (hs: ∀(g:Value) (R:(ι⊕κ)→Mem→Ow),CbOk P g A R (Rt p)→Sp P gf (.ow 0::cs) [.hp 0 (.cb g (ι⊕κ) R (.inl x0))] 1 (is r0 [.hp 0 (.cb g (ι⊕κ) R s1)] 1))
  (e:(rgK (adv P N n cf).1,vwL (adv P N n cf).1.s ⟨sl0,oJ x0,[],nx⟩ n0,(vwP (adv P N n cf).1.s ⟨sl0,oJ x0,[],nx⟩).isSome,((adv P N n cf).2).map (·.1))=(some (gt,ps),vwR (adv P N n cf).1.s ⟨sl0,oJ x0,[],nx⟩,true,((adv P N n cf).2).map (·.2)))
  (hsl:get sl0 gt= .fn (.func gf) [] cs) (hok:(cs.all (okA 0)&&((sl0.map (·.2)).all (okA n1)&&Nat.ble n0 n1))=true) (hAl: ∀a,ps.length=(A a).length)
  (hJ: ∀x,(N2 (tids (oJ x))&&NB nx (tids (oJ x)))=true) (hK: ∀y,(N2 (tids (oK y))&&NB nx (tids (oK y)))=true)
  (hA: ∀x a s',p x a=some s'→∀l D0 As η0 m0,(∀n,η0 n≠none→n<n1)→Go (some l) P N D0 (XE fun _ _=>False) As η0 m0 (asgC (adv P N n cf).1 ⟨slz N sl0 ps (A a),oJ x,[],nx⟩ (Rl As η0 m0 (fun _:Unit=>sB x a) fun _=>True)))
  (hB: ∀x a s',p x a=some s'→∀l D0 As η0 m0,(∀n,η0 n≠none→n<n1)→Go (some l) P N D0 (XE (Rl As η0 m0 (fun y=>⟨sl0,oK y,[],nx⟩) fun y=>s'= .inr y)) As η0 m0
   (bodC (adv P N n cf).1 (sB x a) (Rl As η0 m0 (fun y=>⟨sl0,oJ y,[],nx⟩) fun y=>s'= .inl y)))
  (h1: ∀x,s1= .inl x→Go none P N D0 Q As η0 m0 ⟨⟨sl0,oJ x,[],nx⟩,.pop,(adv P N n cf).1.K⟩)
  (h2: ∀y,s1= .inr y→Go none P N D0 Q As η0 m0 ⟨⟨sl0,oK y,[],nx⟩,.ret,(adv P N n cf).1.K⟩):Go none P N D0 Q As η0 m0 cf:=by
 simp only[Prod.mk.injEq]at e;obtain⟨e1,e2,e4,e3⟩:=e;refine JQ hm (.of e3) ?_;generalize (adv P N n cf).1=c0 at*;obtain⟨s,md,K⟩:=c0;unfold rgK at e1;split at e1
 ·rename_i g' ps' asg bo hmd;simp only at hmd; subst hmd;simp only[Option.some.injEq,Prod.mk.injEq]at e1;obtain⟨rfl,rfl⟩:=e1;simp only[Bool.and_eq_true]at hok;obtain⟨o1,o2,o3⟩:=hok;have o3:=Nat.le_of_ble_eq_true o3;intro η m f w a1 a2 g;obtain⟨η1,m1,l1,le1,g1⟩:=M6 e2 e4 hd a1 g;have hfn:Rel η1 m1 (get sl0 g') (f g'):=g1.slr g';rw[hsl]at hfn;obtain⟨us,caps,hv,hu,hc⟩:=hfn.fn_inv;have:=hu.nil_inv; subst this;have he: ∀k,k<n1→V0 η1 n1 k=η1 k:=fun k hk=>if_pos hk;have hslc: ∀t,Rel (V0 η1 n1) m1 (get sl0 t) (f t):=fun t=>PK he (Ua o2 t) (g1.slr t);have hle:η0.le (V0 η1 n1):=fun k v hk=>by
   unfold V0; rw[if_pos (Nat.lt_of_lt_of_le (hd k (by rw[hk]; simp)) o3)]; exact le1 k v hk
  have hdc: ∀n,V0 η1 n1 n≠none→n<n1:=fun k hk=>by
   unfold V0 at hk;split at hk
   ·assumption
   ·exact absurd rfl hk
  have hce:(V0 η1 n1).le η1:=fun k v hk=>by
   unfold V0 at hk;split at hk
   ·exact hk
   ·cases hk
  have eg: ∀(args:Array Value) w,(callFunc gf args).run P w= .ok (.enter gf args) w:=
   (hs undef (fun _ _ _=>False) (fun s x r _ m vs As w _ S=>by
    obtain⟨h,⟨h1,h2,⟨_,_,ff⟩,_⟩,_⟩:=S.own;exact ff.elim)).1
  have hps:ps'.toList.toArray=ps':=by simp
  rw[←hps];refine Ew g1.st (show ev f (.tmp g')=_ from hv) eg (fun l i w1 hi S1=> ?_) hD;have hcb:CbOk P (.func (.yield l) #[] #[]) A (rgR l i oJ oK As (V0 η1 n1) m1 nx) (Rt p):=rg_cb hi hdc hslc hAl hJ hA hB;have sp:=(hs _ _ hcb).2 (none0.put 0 (.func (.yield l) #[] #[])) m1 [] w1 (.func (.yield l) #[] #[]::caps) (Bj.cons (.ow Env.put_self rfl) (Jq (n:=0) (fun k hk=>absurd hk (Nat.not_lt_zero k)) o1 hc))
   (fun k hk=>by
    rcases Env.put_dom hk with q|q
    ·exact absurd rfl q
    ·omega)
   (by
    obtain⟨x,hx,hr⟩:=S1.own;exact⟨S1.os,S1.tape,S1.output,x,Vc ⟨0,Env.put_self,m1,Mem.rfl' m1,η1,hce,Mem.rfl' m1,g1.dom,hx⟩,hr⟩)
  refine sp.mono ?_;rintro v w2 ⟨M,η2,r,obs',n2,l2,le2,⟨rfl,rfl,rfl⟩,dom2,rr,S2⟩;obtain⟨x,hx,hr⟩:=S2.own;obtain⟨b,hb,M0,lM,η3,c1,c2,c3,c4⟩:=SA hx;have S3:St M (Lp l i (rgSt s1).1 (rgSt s1).2::(reps η3 M0 (rgOb oJ oK s1)++As)) w2:=⟨S2.os,S2.tape,S2.output,x,c4,hr⟩;refine⟨M,(rgSt s1).1,(rgSt s1).2,_,l2,(by cases s1<;>exact fun h=>(by cases h)),S3,fun M' w3 lM' S4=> ?_⟩;have S5:=St.ru Env.le_refl (Mem.tr lM lM') S4;have lm:m0≤M':=Mem.tr a2 (Mem.tr l1 (Mem.tr l2 lM'));have hsr: ∀t,Rel η3 M' (get sl0 t) (f t):=fun t=>(hslc t).up c1 (Mem.tr l2 lM');cases s1 with
  |inl x1=>
   have hj:=hJ x1;simp only[Bool.and_eq_true]at hj;exact h1 x1 rfl η3 M' f w3 (Env.le_tr hle c1) lm ⟨hsr,fun n d h=>(by cases h),c3,S5,Fy hj.1,fun t ht=>I0 hj.2 t ht⟩
  |inr y=>
   have hj:=hK y;simp only[Bool.and_eq_true]at hj;have gr:=OK hm (cf:=⟨⟨sl0,oK y,[],nx⟩,.code .ret,K⟩) rfl trivial (h2 y rfl);exact gr η3 M' f w3 (Env.le_tr hle c1) lm ⟨hsr,fun n d h=>(by cases h),c3,S5,Fy hj.1,fun t ht=>I0 hj.2 t ht⟩
 ·cases e1
end
def eqNK (P:Program)(cf:Cf):Option (Bool×List D):=
 match Eu cf with
 |some a=>match a.o.op with
  | .binOp .eql t x (.const (.pointer none)) _=>match P.underlying t,aev a.sl x with
   |some (.pointer _),.d (.op p ds)=>some (p,ds)
   |_,_=>none
  |_=>none
 |none=>none
def nckK (cf:Cf):Option (Bool×List D):=
 match Eu cf with
 |some a=>match a.o.op with
  | .nilCheck x=>match aev a.sl x with
   | .d (.op p ds)=>some (p,ds)
   |_=>none
  |_=>none
 |none=>none
def clipK (P:Program)(cf:Cf):Option (D×Int×Int):=
 match Eu cf with
 |some a=>match a.o.op with
  | .slice t x none (some h) (some k)=>match P.underlying t,aev a.sl x,I8 a.sl h,I8 a.sl k with
   |some (.slice el),.d d,some (_,i),some (_,j)=>match Hm P el with
    |some _=>some (d,i,j)
    |none=>none
   |_,_,_,_=>none
  |_=>none
 |none=>none
section
variable {ρ:Option Nat}{P:Program}{N:Nat}{D0:Dw}{Q:C5}{As:List Ow}{η0:Env}{m0:Mem}
theorem XU {m:Mem}{ds:List D}{v:Value}(h:FR m (.pf ds) v): ∃b off,v=pt b off:=by
 cases h with
 |pf h _ _ _=>obtain⟨b,off,_,_,_,rfl,_⟩:=h; exact⟨b,off,rfl⟩
theorem geqN {cf:Cf}{p:Bool}{ds:List D}(g:Go ρ P N D0 Q As η0 m0 (B9 N (aC P N cf) (.d (.t (!p))) []))
  (e:(eqNK P (aC P N cf),(aL P N cf))=(some (p,ds),(aR P N cf)):=by kernel_rfl) (hm:P.follows .mixedOrders=true:=by rfl):Go ρ P N D0 Q As η0 m0 cf:=by
 simp only[Prod.mk.injEq]at e;obtain⟨e1,e3⟩:=e;obtain⟨he1,he2⟩:=Hz e3;refine Bg hm he1 ?_;generalize aC P N cf=c0 at*;unfold eqNK at e1;split at e1
 ·rename_i a ha;rw[CE ha]at he2;split at e1
  ·rename_i t xo t' hop;split at e1
   ·rename_i el p0 q0 hu hx;simp only[Option.some.injEq,Prod.mk.injEq]at e1;obtain⟨rfl,rfl⟩:=e1;refine CD (rd:=[]) ha he2 Ho (fun hp=> ?_) g;obtain⟨ll,⟨dst,op',ty,pos,af,gd⟩,gg,sl,es⟩:=a;simp only at hop hx⊢; subst hop;refine⟨Nat.le_refl _,fun rest Q η m f w As hr hz hn S hk=> ?_⟩;have rx:=An hr xo;rw[hx]at rx;have fx:=rx.dd;refine Ar (v:=vb (!p0)) (w':=w) rfl (fun _ e=>by cases e) ?_ (hk η m w _ Env.le_refl (Mem.rfl' m) (fun n h=> .inl h) (.d (.t _)) S);have key:(Op.equal t (ev f xo) (.pointer none)).run P w= .ok (!p0) w:=by
     show(Op.equalIn (9999+1) _ _ _).run P w=_;cases p0 with
     |false=>generalize ev f xo=v at fx; cases fx; unfold Op.equalIn; simp[run_underlying hu]
     |true=>
      generalize ev f xo=v at fx;cases fx with
      |op1 h=>obtain⟨b,off,rfl⟩:=XU h; unfold Op.equalIn; simp[run_underlying hu,pt]
    have hv: ∃q,ev f xo= .pointer q:=by
     cases p0 with
     |false=>generalize ev f xo=v at fx; cases fx; exact⟨_,rfl⟩
     |true=>
      generalize ev f xo=v at fx;cases fx with
      |op1 h=>obtain⟨b,off,rfl⟩:=XU h; exact⟨_,rfl⟩
    obtain⟨q,hq⟩:=hv;rw[hq]at key;have hg:(eqGuard .eql t xo (.const (.pointer none)) (.pointer q) (.pointer none)).run P w= .ok () w:=by simp[eqGuard]
    have hc:ev f (.const (.pointer none))= .pointer none:=rfl;simp only[execOp,hq,hc];simp[hg,binOp,key]
   ·cases e1
  ·cases e1
 ·cases e1
theorem gnck {cf:Cf}{p:Bool}{ds ds':List D}(hq:gOf (aC P N cf)=true→p=true∧ds=ds')(g:Go ρ P N D0 Q As η0 m0 (B9 N (aC P N cf) (.d (.pf ds')) []))
  (e:(nckK (aC P N cf),(aL P N cf))=(some (p,ds),(aR P N cf)):=by kernel_rfl) (hm:P.follows .mixedOrders=true:=by rfl):Go ρ P N D0 Q As η0 m0 cf:=by
 simp only[Prod.mk.injEq]at e;obtain⟨e1,e3⟩:=e;obtain⟨he1,he2⟩:=Hz e3;refine Bg hm he1 ?_;generalize aC P N cf=c0 at*;unfold nckK at e1;split at e1
 ·rename_i a ha;rw[CE ha]at he2;split at e1
  ·rename_i xo hop;split at e1
   ·rename_i p0 q0 hx;simp only[Option.some.injEq,Prod.mk.injEq]at e1;obtain⟨rfl,rfl⟩:=e1;refine CD (rd:=[]) ha he2 Ho (fun hp=> ?_) g;obtain⟨rfl,rfl⟩:=hq (HO ha hp);obtain⟨ll,⟨dst,op',ty,pos,af,gd⟩,gg,sl,es⟩:=a;simp only at hop hx⊢; subst hop;refine⟨Nat.le_refl _,fun rest Q η m f w As hr hz hn S hk=> ?_⟩;have rx:=An hr xo;rw[hx]at rx;have fx:=rx.dd;have fp:FR m (.pf q0) (ev f xo):=by generalize ev f xo=v at fx; cases fx with|op1 h=>exact h
    obtain⟨b,off,hv⟩:=XU fp;refine Ar (v:=ev f xo) (w':=w) rfl (fun _ e=>by cases e) ?_ (hk η m w _ Env.le_refl (Mem.rfl' m) (fun n h=> .inl h) (.d fp) S);rw[hv];simp[execOp,hv,pt]
   ·cases e1
  ·cases e1
 ·cases e1
theorem gstOc {k:Nat}{cf:Cf}{α:Type}{E:α→List D}{xs:List α}{j:Int}{z0:α}(z:α)(hE: ∀x,(E x).length=k)(hq:idx xs j=some z0)(g:Go ρ P N D0 Q As η0 m0 (push N (aC P N cf) (stOS P (aC P N cf) k α E (xs.set j.toNat z))))
  (e:((Xo P (aC P N cf)).map (fun r=>(r.1,r.2.1,r.2.2.1,(cvL [] ((E z).map dv) r.2.2.2.1).1,r.2.2.2.2.1,r.2.2.2.2.2.1)),(aL P N cf))=(some (.sl α E xs,j,0,(E z).map dv,k,true),(aR P N cf)):=by kernel_rfl) (hm:P.follows .mixedOrders=true:=by rfl):Go ρ P N D0 Q As η0 m0 cf:=by
 simp only[Prod.mk.injEq]at e;obtain⟨e1,e3⟩:=e;obtain⟨he1,-⟩:=Hz e3;refine Bg hm he1 ?_;generalize aC P N cf=c0 at*;cases hk:Xo P c0 with
 |none=>rw[hk]at e1; cases e1
 |some r=>
  obtain⟨d,j',fo,ds,k',ok,nn,p,rd,fw⟩:=r;have hS:stOS P c0 k α E (xs.set j.toNat z)=⟨.no,rd,p::fw,enO c0.s.nx (.row nn k α E (xs.set j.toNat z)::I9 fw),c0.s.nx+(1+(I9 fw).length),[]⟩:=by unfold stOS; rw[hk]
  rw[hS]at g;rw[hk]at e1;simp only[Option.map_some,Option.some.injEq,Prod.mk.injEq]at e1;obtain⟨e1,e2,e4,e5,e6,e7⟩:=e1;subst e1 e2 e4 e6 e7;unfold Xo at hk;split at hk
  ·rename_i a ha;split at hk
   ·rename_i t x y hg hop;split at hk
    ·rename_i n' jj sz fo2 ds0 i h1 h2 hi;split at hk
     ·rename_i d' sz' p' hrow;simp only[Option.some.injEq,Prod.mk.injEq]at hk;obtain⟨q1,q2,q3,q4,q5,q6,q7,q8,q9,q10⟩:=hk;subst q1 q2 q3 q5 q7 q8 q9 q10;simp only[Bool.and_eq_true]at q6;obtain⟨⟨b1,b2⟩,b3,b4,b5⟩:=q6;have b1:=Nat.eq_of_beq_eq_true b1;have b2:=Nat.eq_of_beq_eq_true b2;obtain⟨hmem,i0,α',E',xs',hd,hp⟩:=J6 hrow;cases hd; subst hp;subst b1;have hgd:=Ce ha hg;have csub:=Ic (ob:=c0.s.ob) (cs:=ds0);refine ER ha hg ?_ ?_ g
      ·obtain⟨l,⟨dst,op,ty,pos,af,gd⟩,gg,sl,es⟩:=a;simp only at hop hgd h1 h2⊢; subst hop hgd;refine⟨Nat.le_add_right _ _,fun rest Q η m f w As hr hfz hn S hk=> ?_⟩;simp only at S hk hn;rw[A8,List.append_assoc]at S;have S0:St m (rep η m (.row n' sz α E xs)::(reps η m (Cd c0.s.ob ds0).2.2++(reps η m (Cd c0.s.ob ds0).2.1++As))) w:=S;have S1:=S0.perm List.perm_middle.symm;obtain⟨m1,l1,K1,S2⟩:=HP b5 S1;obtain⟨v,cs,a1,a2,a3,a4,S3⟩:=St.openRow (m:=m1) (St.imp0 S2 fun h hh=>rep.up Env.le_refl l1 hh);have S4:=S3.perm List.perm_middle.symm;have S5:=St.ru Env.le_refl l1 S4;obtain⟨K2,S6⟩:=Iu b4 S5;have hr1: ∀t,Rel η m1 (get sl t) (f t):=fun t=>(hr t).up Env.le_refl l1;obtain⟨c1,c2⟩:=Fv h2 (An hr1 y);have c3:=HT c1 K1 K2;rw[q4]at c3;replace c3:=NN (ob:=[]) (es:=(E z).map dv) (fun n _ d hd=>by simp[frD,find]at hd) c3;rw[e5]at c3;have c4:=FRL.ofRelv c3;have rx:=An hr1 x; rw[h1]at rx;obtain⟨v',hv',hp'⟩:=rx.pe_inv;rw[a1]at hv'; cases hv';letI:=Kg E sz;have hsz:(ev f y).cells.size=ds0.length:=by rw[c1.1]; simp
       refine Wd (α:=α) (i:=0) (z:=z) S6 rfl rfl (by rw[Nat.add_zero]at hp'; exact hp') rfl (QA a3 a4) hq (by rw[hsz,←b2]; exact B0 hi) (PJ c4.one) ⟨c4,hE z⟩ fun w' cs' S7 hrep=> ?_;have hrep':=SZ hrep;refine hk η m1 w' undef Env.le_refl l1 (fun n h=> .inl h) .no ?_;rw[A8,List.append_assoc,Gx];show St m1 (rep η m1 (.row n' sz α E (xs.set jj.toNat z))::((I9 (Cd c0.s.ob ds0).2.2).map (rep η m1)++(reps η m1 (Cd c0.s.ob ds0).2.1++As))) w';have T1:=St.closeRow (η:=η) (n:=n') a1 a2 hrep'.1 hrep'.2 S7;have T2:=Ia K1 (Ib b4 K2 T1);exact T2.perm ((List.Perm.append_left _ List.perm_middle).trans List.perm_middle)
      ·refine⟨fun q hq=> ?_,Fy b3,?_,fun t ht=> ?_⟩
       ·simp only[List.cons_append,List.mem_cons]at hq;rcases hq with h|h
        ·subst h; exact hmem
        ·exact csub q h
       ·simp only; rw[DW]; exact List.nodup_range'
       ·simp only at ht⊢;rw[DW,List.mem_range']at ht;obtain⟨i2,hi2,rfl⟩:=ht;simp only[List.length_cons]at hi2;omega
     ·cases hk
    ·cases hk
   ·cases hk
  ·cases hk
theorem gclip {k:Nat}{cf:Cf}{α:Type}{E:α→List D}{xs:List α}(hE: ∀x,(E x).length=k)(g:Go ρ P N D0 Q As η0 m0 (B9 N (aC P N cf) (.d (.kp α E xs)) []))
  (e:(clipK P (aC P N cf),(aL P N cf))=(some (.sl α E xs,(xs.length:Int),(xs.length:Int)),(aR P N cf)):=by kernel_rfl) (hm:P.follows .mixedOrders=true:=by rfl):Go ρ P N D0 Q As η0 m0 cf:=by
 simp only[Prod.mk.injEq]at e;obtain⟨e1,e3⟩:=e;obtain⟨he1,he2⟩:=Hz e3;refine Bg hm he1 ?_;generalize aC P N cf=c0 at*;unfold clipK at e1;split at e1
 ·rename_i a ha;rw[CE ha]at he2;split at e1
  ·rename_i t xo ho ko hop;split at e1
   ·rename_i el d i1 i i2 j hu hx hi hj;split at e1
    case h_2=>cases e1
    rename_i inf hinf;simp only[Option.some.injEq,Prod.mk.injEq]at e1;obtain⟨rfl,rfl,rfl⟩:=e1;refine CD (rd:=[]) ha he2 Ho (fun hp=> ?_) g;obtain⟨ll,⟨dst,op',ty,pos,af,gd⟩,gg,sl,es⟩:=a;simp only at hop hx hi hj⊢; subst hop;refine⟨Nat.le_refl _,fun rest Q η m f w As hr hz hn S hk=> ?_⟩;have rx:=An hr xo;rw[hx]at rx;have fx:=rx.dd;have ei:=BH hi hr;have ej:=BH hj hr;have hs:=B0 hinf;obtain⟨cs,h1,h2⟩: ∃cs,SlC m k (ev f xo) cs xs.length∧ @Bq α (Kg E k) m cs xs:=RG fx hE;obtain⟨a0,c0,hv⟩:=h1.val;have hcap:xs.length≤c0:=by
     obtain⟨_,_,⟨h0,_⟩|⟨b,off,cap,l,e,fr,hv',hn,_⟩⟩:=h1
     ·omega
     ·rw[hv]at hv'; cases hv'; exact hn
    have fk:FR m (.kp α E xs) (.slice a0 xs.length xs.length):=by
     refine .kp ?_ fun a n c q=>by cases q; exact Nat.le_refl _
     rw[hv]at fx h1;cases fx with
     | @sl _ _ _ sz' _ cs' h hE' hl hr=>
      refine .sl (cs:=cs') (sz:=sz') ?_ hE' hl hr;obtain⟨q1,q2,⟨q3,q4⟩|⟨b,off,cap,l,e,fr,hv',hn',hb,hc⟩⟩:=h
      ·exact⟨q1,q2,.inl ⟨q3,a0,xs.length,by rw[q3]⟩⟩
      ·cases hv'; exact⟨q1,q2,.inr ⟨b,off,xs.length,l,e,fr,rfl,Nat.le_refl _,hb,hc⟩⟩
    refine Ar (v:= .slice a0 xs.length xs.length) (w':=w) rfl (fun _ e=>by cases e) ?_ (hk η m w _ Env.le_refl (Mem.rfl' m) (fun n h=> .inl h) (.d fk) S);have c1:(xs.length:Int)≤(c0:Int):=by omega
    have c2:(0:Int)≤(xs.length:Int):=by omega
    have hb: ∀w,(Instr.sliceBounds true xs.length c0 none (some (.int i1 xs.length)) (some (.int i2 xs.length))).run P w= .ok (0,xs.length,xs.length) w:=by
     intro w;simp[Instr.sliceBounds,Instr.sliceBound,asIntOf,c1,c2]
    simp only[execOp,hv,Option.map_some,Option.map_none,ei,ej];simp[Instr.slice,Instr.sliceAt,Sem.run_bind,run_underlying hu,hb,hs];intro _;cases a0 with
    |none=>rfl
    |some a=>obtain⟨b,off,sp⟩:=a; cases sp<;>simp[Addr.add]
   ·cases e1
  ·cases e1
 ·cases e1
end
section
variable {P:Program}{N:Nat}
theorem sp_ofR {k:FuncId}{fn:Func}{c:Code}{args:List AV}{obs:List AObj}{n0:Nat}{Po:AV→List AObj→Nat→Prop}(hc: ∀(a:Array Value) w,(callFunc k a).run P w= .ok (.enter k a) w)(hf:P.funcs[k]? =some fn)(hb:fn.body=some c)(hN:fn.ntmps=N)
  (hle:Nat.ble args.length N=true) (h: ∀D0 As η0 m0,D0.2.2=false→(∀n,η0 n≠none→n<n0)→Go none P N D0 (UU P N fn (N1 As η0 m0 Po)) As η0 m0 ⟨OS args obs n0,.code c,[]⟩):Sp P k args obs n0 Po:=by
 refine⟨hc,fun η m As w vs hv hd S=> ?_⟩;refine Co hf hb hN (by rw[←hv.1]; exact Nat.le_of_ble_eq_true hle) ?_;exact h (w,[],false) As η m rfl hd η m (f0 vs) w Env.le_refl (Mem.rfl' m) (PY hv hd S)
end
def atRet (cf:Cf):Bool:=match cf.md,cf.K with| .ret,[]=>true|_,_=>false
section
variable {ρ:Option Nat}{P:Program}{N:Nat}{D0:Dw}{Q:C5}{As:List Ow}{η0:Env}{m0:Mem}
theorem gretB {n0:Nat}{cf:Cf}{ι:Type}{J:ι→AS}{ok:ι→Prop}{Jr:Fr→World→Prop}(bk:Bk As η0 m0 J ok Jr)(hd: ∀n,η0 n≠none→n<n0)(x:ι)(hx:ok x)
  (e:(atRet (aC P N cf),vwL (aC P N cf).s (J x) n0,(vwP (aC P N cf).s (J x)).isSome,(bL P N cf))=(true,vwR (aC P N cf).s (J x),true,(bR P N cf)):=by kernel_rfl) (hm:P.follows .mixedOrders=true:=by rfl):
  Go ρ P N D0 (XE Jr) As η0 m0 cf:=by
 simp only[Prod.mk.injEq]at e;obtain⟨e1,e2,e4,e3⟩:=e;refine Bg hm (.of e3) ?_;generalize aC P N cf=c0 at*;obtain⟨s,md,K⟩:=c0;unfold atRet at e1;split at e1
 ·rename_i hmd hK;simp only at hmd hK; subst hmd hK;intro η m f w a1 a2 g;obtain⟨η',m',l,le,g'⟩:=M6 e2 e4 hd a1 g;exact bk.h f w ⟨x,hx,η',m',le,Mem.tr a2 l,g'⟩
 ·cases e1
end
end Go.Ax
end
