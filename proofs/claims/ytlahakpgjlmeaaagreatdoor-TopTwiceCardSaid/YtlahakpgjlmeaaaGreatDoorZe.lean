/- Several texts, one behind the other. Conditions: none. -/
import Derived.Test.YtlahakpgjlmeaaaGreatDoorZd
import Derived.KernelRfl
import Derived.RecoverIn
set_option linter.unusedSimpArgs false
set_option linter.unusedVariables false
set_option maxHeartbeats 4000000
section
namespace Go.Ax
open Go Go.Gw
section
variable {ρ:Option Nat}{P:Program}{N:Nat}{D0:Dw}{Q Q':DJ}{As:List Ow}{η0:Env}{m0:Mem}
theorem FE (hq: ∀e f w,Q e f w→Q' e f w): ∀{K:List Kt} {e:Exit} {f:Fr} {w:World},pk ρ P N D0 Q K e f w→pk ρ P N D0 Q' K e f w
 | [],e,f,w,h=>hq e f w h
 | .code c::K,e,f,w,h=>by
  cases e with
  |normal=>exact FI (fun e f w q=>FE hq q) h
  |_=>exact FE hq (K:=K) h
 | .blk id::K,e,f,w,h=>by
  cases e with
  |exit id'=>
   simp only[pk,NZ]at h⊢;cases hb:Nat.beq id' id
   ·rw[hb]at h; exact FE hq (K:=K) h
   ·rw[hb]at h; exact FE hq (K:=K) h
  |_=>exact FE hq (K:=K) h
 | .scp::K,e,f,w,h=>by
  cases e with
  |goto l=>exact h.elim
  |_=>exact FE hq (K:=K) h
 | .ctn J::K,e,f,w,h=>by
  cases e with
  |normal=>exact h
  |_=>exact FE hq (K:=K) h
theorem Aet {ops:Array Oper}{F F':AS→List (Oper×Stp)→Prop}(hF: ∀s h,F s h→F' s h): ∀{l:List Oper} {s:AS} {h:List (Oper×Stp)},FT ρ P N D0 ops F l s h→FT ρ P N D0 ops F' l s h
 | [],s,h,g=>hF s h g
 |o::l,s,h,⟨r,t1,t2,t3⟩=>⟨r,t1,t2,Aet hF t3⟩
theorem Go.mono (hq: ∀e f w,Q e f w→Q' e f w){cf:Cf}(h:Go ρ P N D0 Q As η0 m0 cf):Go ρ P N D0 Q' As η0 m0 cf:=by
 obtain⟨s,md,K⟩:=cf;cases md with
 |code c=>exact fun η m f w a b g=>FI (fun e f w q=>FE hq q) (h η m f w a b g)
 |pop=>exact fun η m f w a b g=>FE hq (h η m f w a b g)
 |ext id=>exact fun η m f w a b g=>FE hq (h η m f w a b g)
 |ret=>exact fun η m f w a b g=>FE hq (h η m f w a b g)
 |ops dr l rest hh=>
  rcases h with h|⟨hd,h⟩|⟨hd,h⟩
  ·exact .inl (Aet (fun s h F=>⟨F.1,fun η m f w a b g=>FE hq (F.2 η m f w a b g)⟩) h)
  ·exact .inr (.inl ⟨hd,fun η m f w a b g=>TZ (fun e f w q=>FE hq q) (h η m f w a b g)⟩)
  ·obtain⟨rs,bad,k,p,ks,h1,h2,h3,h4,h5,h6,h7,h8,hk,h9⟩:=h;exact .inr (.inr ⟨hd,rs,bad,k,p,ks,h1,h2,h3,h4,h5,h6,h7,h8,hk,fun η m f w Bs a b b2 c d=>TZ (fun e f w q=>match e,q with| .normal,q=>q.elim| .exit _,q=>FE hq q| .goto _,q=>FE hq q| .ret,q=>FE hq q| .panic _,q=>FE hq q| .outgrown,q=>FE hq q) (h9 η m f w Bs a b b2 c d)⟩)
theorem pkP {ch:List PanicEntry}{f:Fr}{w:World}(h:Q (.panic ch) f w): ∀{K:List Kt},pk ρ P N D0 Q K (.panic ch) f w
 | []=>h
 | .code _::K=>pkP (K:=K) h
 | .blk _::K=>pkP (K:=K) h
 | .scp::K=>pkP (K:=K) h
 | .ctn _::K=>pkP (K:=K) h
end
def chn (ov:Value):List PanicEntry:=[{v:=ov,recovered:=false}]
def TV (P:Program)(k:FuncId)(args:Array Value)(w:World)(ov:Value)(R:Value→World→Prop)(X:World→Prop):Prop:=Calls P k args w fun e w'=>(∃v,e= .returned v∧Kd w w'∧R v w')∨(e= .panicked (chn ov)∧Kd w w'∧X w')
theorem TV.ret {P:Program}{k:FuncId}{args:Array Value}{w:World}{ov:Value}{R:Value→World→Prop}{X:World→Prop}(h:TV P k args w ov R X)(hx: ∀w',¬X w'):Ft P k args w R:=
 Calls.mono h fun e w' q=>by
  rcases q with q|⟨_,_,q⟩
  ·exact q
  ·exact absurd q (hx w')
def Xb (P:Program)(N:Nat)(fn:Func)(R:Value→World→Prop)(ov:Value)(X:World→Prop):DJ:=fun e f w=>match e with| .panic ch=>ch=chn ov∧∀w',Pd w w'→X w'|e=>Q4 P N fn R e f w
section
variable {ρ:Option Nat}{P:Program}{N:Nat}{D0:Dw}{Q:DJ}{As:List Ow}{η0:Env}{m0:Mem}
theorem Ai5 {fn:Func}{R:Value→World→Prop}{ov:Value}{X:World→Prop}(e:Exit)(f:Fr)(w:World)(h:Q4 P N fn R e f w):Xb P N fn R ov X e f w:=by
 cases e with
 |panic ch=>exact h.elim
 |_=>exact h
theorem Px {fn:Func}{tmps:Array Value}{R:Ending→World→Prop}{w0:World}{u:FrameMode}{ds:List Deferred}(hu:u≠ .run): ∀(E:List Nat) (w:World),Kd w0 w→E.Nodup→(∀b∈E,w0.heap.size≤b∧w.heap[b]? =some dfr)→
  (∀w',Pd w w'→Kd w0 w'→LeavesInM (FW none) 0 P fn tmps R ds u w')→LeavesInM (FW none) 0 P fn tmps R (E.map Gw.mark++ds) u w:=by
 intro E;induction E with
 |nil=>exact fun w hk _ _ h=>h w (Pd.rfl' w) hk
 |cons b E ih=>
  intro w hk hn hl h;obtain⟨hb1,hb2⟩:=hl b (by simp);have hlt:=(AkM.1 hb2).1;have hpd:Pd w (w.putObj b (.deferred none)):=⟨rfl,rfl,rfl,fun k o ho e=>by
   by_cases q:k=b
   ·subst q; rw[hb2]at e; cases e; exact absurd rfl ho
   ·rw[World.putObj_heap_other q]; exact e⟩
  refine⟨hu,.inl ⟨b,w.putObj b (.deferred none),rfl,run_takeDeferred hb2,?_⟩⟩;refine ih _ ⟨by simpa using hk.size,fun k e=> ?_⟩ (List.nodup_cons.1 hn).2 (fun c hc=>⟨(hl c (by simp[hc])).1,?_⟩) (fun w' p=>h w' (hpd.tr p))
  ·have:=(AkM.1 e).1;rw[World.putObj_heap_other (by omega)]; exact hk.same k e
  ·have:c≠b:=fun q=>(List.nodup_cons.1 hn).1 (q▸hc);rw[World.putObj_heap_other this]; exact(hl c (by simp[hc])).2
theorem sim0 {fn:Func}{args:List Value}(hN:fn.ntmps=N)(hle:args.length≤N):Sim N {tmps:=args.toArray++Array.replicate (fn.ntmps-args.toArray.size) undef,defers:=[]} (f0 args):=by
 refine⟨by simp[hN]; omega,fun t=> ?_⟩;simp only[f0,Array.getD_eq_getD_getElem?,List.getD_eq_getElem?_getD,Array.getElem?_append];split
 ·simp
 ·rename_i h1;simp at h1;rw[List.getElem?_eq_none h1];rw[Array.getElem?_replicate];split<;>rfl
theorem callsB {k:FuncId}{fn:Func}{c:Code}{args:List Value}{R:Value→World→Prop}{ov:Value}{X:World→Prop}{w:World}(hf:P.funcs[k]? =some fn)(hb:fn.body=some c)(hN:fn.ntmps=N)
  (hle:args.length≤N) (h:wpc none P N (w,[],false) c (Xb P N fn R ov X) (f0 args) w):TV P k args.toArray w ov R X:=by
 refine Kz (ρ:=none) (n:=0) (callsIn_of_wp_marks hf hb trivial ?_);refine wpIn_mono (h _ ⟨sim0 hN hle,Okd.nil rfl⟩) ?_;rintro e a w' ⟨f',⟨s,ok⟩,q⟩;obtain⟨E,hE,-,hn,hl⟩:=ok.marks;have fin:(∀w'',Pd w' w''→∃v,(∀a,Sim N a f'→(results fn a.tmps).run P w''= .ok v w'')∧R v w'')→
   LeavesInM (FW none) 0 P fn a.tmps (fun e w'=>(∃v,e= .returned v∧Kd w w'∧R v w')∨(e= .panicked (chn ov)∧Kd w w'∧X w')) a.defers .returning w':=fun q=>by
  rw[hE];refine Px (by simp) E w' ok.keep hn hl fun w'' p k=> ?_;obtain⟨v,hr,hR⟩:=q w'' p;exact⟨v,hr a s,.inl ⟨v,rfl,k,hR⟩⟩
 cases e with
 |normal=>exact fin q
 |ret=>exact fin q
 |exit id=>exact q.elim
 |goto l=>exact q.elim
 |panic ch=>
  obtain⟨rfl,hX⟩:=q;show LeavesInM _ _ _ _ _ _ a.defers _ _;rw[hE];exact Px (by simp) E w' ok.keep hn hl fun w'' p k=>Or.inr ⟨rfl,k,hX w'' p⟩
 |outgrown=>exact q.elim
def Sb (P:Program)(k:FuncId)(args:List AV)(obs:List AObj)(n0:Nat)(ov:Value)(Po:AV→List AObj→Nat→Prop)(Xp:Prop):Prop:=(∀(a:Array Value) w,(callFunc k a).run P w= .ok (.enter k a) w)∧∀(η:Env) (m:Mem) (As:List Ow) (w:World) (vs:List Value),BP η m args vs→(∀n,η n≠none→n<n0)→St m (obs.map (rep η m)++As) w→TV P k vs.toArray w ov (fun v w'=> ∃(M:Mem) (η':Env) (r:AV) (obs':List AObj) (n1:Nat),m≤M∧η.le η'∧Po r obs' n1∧(∀n,η' n≠none→n<n1)∧Rel η' M r v∧St M (obs'.map (rep η' M)++As) w') (fun w'=>Xp∧∃M,m≤M∧St M As w')
def Pos {β:Type}(x:Option β)(A:β→AV)(O:β→List AObj)(n1:Nat):AV→List AObj→Nat→Prop:=fun a o n=> ∃r,x=some r∧a=A r∧o=O r∧n=n1
theorem Sb.sp {k:FuncId}{args:List AV}{obs:List AObj}{n0 n1:Nat}{ov:Value}{β:Type}{r:β}{A:β→AV}{O:β→List AObj}(h:Sb P k args obs n0 ov (Pos (some r) A O n1) (some r=none)):Sp P k args obs n0 (is (A r) (O r) n1):=
 ⟨h.1,fun η m As w vs a b c=>Ft.mono ((h.2 η m As w vs a b c).ret fun w' q=>by cases q.1) fun v w' ⟨M,η',r',obs',n',q1,q2,⟨r2,e,e1,e2,e3⟩,q4,q5,q6⟩=>by
  cases e;exact⟨M,η',r',obs',n',q1,q2,⟨e1,e2,e3⟩,q4,q5,q6⟩⟩
def Qr (As:List Ow)(m0:Mem)(Xp:Prop):World→Prop:=fun w'=>Xp∧∃M,m0≤M∧St M As w'
theorem sb_of {k:FuncId}{fn:Func}{c:Code}{args:List AV}{obs:List AObj}{n0:Nat}{ov:Value}{Po:AV→List AObj→Nat→Prop}{Xp:Prop}(hc: ∀(a:Array Value) w,(callFunc k a).run P w= .ok (.enter k a) w)(hf:P.funcs[k]? =some fn)(hb:fn.body=some c)(hN:fn.ntmps=N)
  (hle:Nat.ble args.length N=true) (h: ∀D0 As η0 m0,(∀n,η0 n≠none→n<n0)→Go none P N D0 (Xb P N fn (Ix As η0 m0 Po) ov (Qr As m0 Xp)) As η0 m0 ⟨Q9 args obs n0,.code c,[]⟩):Sb P k args obs n0 ov Po Xp:=by
 refine⟨hc,fun η m As w vs hv hd S=> ?_⟩;refine callsB hf hb hN (by rw[←hv.1]; exact AkG hle) ?_;exact h (w,[],false) As η m hd η m (f0 vs) w Env.le_refl (Mem.rfl' m) (Qf hv hd S)
variable {ops:Array Oper}{rest:List Oper}{o:Oper}{f:Fr}{w w':World}
theorem Rt {k:FuncId}{args:Array Value}{ov:Value}{R:Value→World→Prop}{X:World→Prop}(hg:o.guard=none)(hp:Ov o)(hr:(execOp (ev f) o).run P w= .ok (.enter k args) w')
  (hc:TV P k args w' ov R X) (h: ∀v w2,R v w2→wpl ρ P N D0 ops rest Q (upo N f o.dst v) w2) (hx: ∀w2,X w2→Q (.panic (chn ov)) f w2) (kd:Kd w w':=by exact Kd.rfl' _):
  wpl ρ P N D0 ops (o::rest) Q f w:=fun a ha=>by
 refine Li hg hp ?_;rw[ha.1.eval,hr];refine⟨(fun h=>by cases h),CallsIn.mono (Vs hc) ?_⟩;rintro e w2 (⟨v,rfl,k,hR⟩|⟨rfl,k,hX⟩)
 ·exact h v w2 hR _ ⟨ha.1.put _ _,(ha.2.up (kd.tr k)).put _ _⟩
 ·exact⟨f,⟨ha.1,ha.2.up (kd.tr k)⟩,hx w2 hX⟩
def QK (cf:Cf):Bool:=match cf.md with| .ops false _ (o::_) _=>o.guard.isNone|_=>false
def AcG (cf:Cf)(ea:List AV)(eobs:List AObj):AS:=match Ni cf ea eobs with|some p=>{cf.s with ob:=DY (tids ((p.ut++p.fw)++p.fr)) cf.s.ob}|none=>cf.s
theorem OH {fz:Fz}{sl:Sl}{c:Call}{k:FuncId}{as:List AV}{η:Env}{m:Mem}{dst:Option Nat}{ty:TypeId}{pos:String}{af:Array Edge}{R:Value→World→Prop}{ov:Value}{X:World→Prop}
  (h:Qo fz sl c=some (k,as)) (hk: ∀(a:Array Value) w,(callFunc k a).run P w= .ok (.enter k a) w) (hr: ∀t,Rel η m (get sl t) (f t)) (hz:fzOk η m fz)
  (hc: ∀vs,BP η m as vs→TV P k vs.toArray w ov R X) (hn: ∀v w2,R v w2→wpl ρ P N D0 ops rest Q (upo N f dst v) w2) (hx: ∀w2,X w2→Q (.panic (chn ov)) f w2):
  wpl ρ P N D0 ops (⟨dst,.call c,ty,pos,af,none⟩::rest) Q f w:=by
 obtain⟨ce,xs,ts⟩:=c;obtain⟨xs⟩:=xs;have ra:=BP.map_aev hr xs;unfold Qo at h;simp only at h;split at h
 ·cases h;refine Rt rfl (fun _ e=>by cases e) (w':=w) (k:=k) ?_ (hc _ ra) hn hx;simp[execOp,resolve,invoke,ev,Deferred.ofValue,hk]
 ·rename_i x hx';split at h
  ·rename_i k' ps cs hv;cases h;have rx:=My hz hr x;rw[hv]at rx;obtain⟨us,vs,e,h1,h2⟩:=rx.fn_inv;have hcc:=hc _ (h1.append (ra.append h2));refine Rt rfl (fun _ e=>by cases e) (w':=w) (k:=k) ?_ hcc hn hx;have e2:us.toArray++(xs.map (ev f)).toArray++vs.toArray=(us++(List.map (ev f) xs++vs)).toArray:=by simp
   simp[execOp,resolve,invoke,e,Deferred.ofValue,hk,e2]
  ·rename_i k' ds hv;cases h;have rx:=My hz hr x;rw[hv]at rx;replace rx:=rx.dd;generalize hu:ev f x=u at rx;cases rx with
   |cl hl hr'=>
    rename_i us;have rd:BP η m (ds.map .d) us:=BP.ofD ⟨hl,hr'⟩;have hcc:=hc _ (BP.cons (.agg rd.1 rd.2) ra);refine Rt rfl (fun _ e=>by cases e) (w':=w) (k:=k) ?_ hcc hn hx;have e2: #[Value.agg us.toArray]++(xs.map (ev f)).toArray++ #[]=(Value.agg us.toArray::List.map (ev f) xs).toArray:=by simp
    simp[execOp,resolve,invoke,hu,Deferred.ofValue,hk,e2]
  ·cases h
 ·cases h
theorem AhG (hm:P.follows .mixedOrders=true){n:Nat}{cf:Cf}{k:FuncId}{ea:List AV}{eobs:List AObj}{n0:Nat}{ov:Value}{Po:AV→List AObj→Nat→Prop}{Xp:Prop}(hs:Sb P k ea eobs n0 ov Po Xp)(hP: ∀a o n,¬Po a o n)
  (e:(Ld (adv P N n cf).1 ea eobs n0,QK (adv P N n cf).1,((adv P N n cf).2++PF (adv P N n cf).1).map (·.1))=
   (some (k,(FH (adv P N n cf).1 ea eobs).1,(FH (adv P N n cf).1 ea eobs).2,true),true,((adv P N n cf).2++PF (adv P N n cf).1).map (·.2)))
  (hQ:Al As η0 m0 (AcG (adv P N n cf).1 ea eobs) fun f w=>Xp→Q (.panic (chn ov)) f w):Go ρ P N D0 Q As η0 m0 cf:=by
 simp only[Akt]at e;obtain⟨e1,e2,e3⟩:=e;obtain⟨he1,-⟩:=EqsOk.two e3;refine MD hm he1 ?_;generalize (adv P N n cf).1=c0 at*;obtain⟨s,md,K⟩:=c0;unfold QK at e2;split at e2
 ·rename_i l o rest h hmd;simp only at hmd; subst hmd;have hg:o.guard=none:=by simpa using e2
  unfold Ld FH at e1;unfold AcG at hQ;cases hp:Ni ⟨s,.ops false l (o::rest) h,K⟩ ea eobs with
  |none=>rw[hp]at e1; cases e1
  |some p=>
   rw[hp]at e1 hQ;simp only[Akv,Akt]at e1;obtain⟨ek,eas,eobj,eok⟩:=e1;unfold Ni Gt at hp;simp only[hg]at hp;split at hp
   ·rename_i _ c _ hop;split at hp
    ·rename_i k' as hc;simp only[Tz,Aks]at eok;obtain⟨o1,o2,o3,o4,o5,o6,-⟩:=eok;have hpk:p.k=k':=by
      unfold Q3 at hp;simp only at hp;split at hp
      ·have:=Akr hp; rw[←this]
      ·cases hp
     obtain⟨dst,op,ty,pos,af,gd⟩:=o;simp only at hg hop; subst hg hop;refine .inr (.inl ⟨rfl,fun η m f w a b gm=> ?_⟩);have S:=St.rp gm.st (HW gm.wf.nd (E1 o3) (Pc hp));rw[AU,Akw]at S;have hr:=LY (ts:=opT (.call c)) (fun t _=>gm.slr t);refine OH (η:=η) (m:=m) (X:=fun w'=>Xp∧∃M,m≤M∧St M (reps η m (DY (tids ((p.ut++p.fw)++p.fr)) s.ob)++As) w') (R:=fun _ _=>False) (ov:=ov) hc (by rw[←hpk,ek]; exact hs.1) hr gm.fz (fun vs hv=> ?_) (fun v w2 q=>q.elim) fun w2 q=> ?_
     ·obtain⟨m1,l1,r1,S1⟩:=R3 hp o5 o6 hv S;rw[eas]at r1;rw[eobj]at S1;let φ:Nat→Nat:=fun j=>Ii p.mt j 0;let η1:Env:=fun j=>if j<n0 then η (φ j)else none;have hη1: ∀j,j<n0→η (φ j)=η1 j:=fun j hj=>(AkA hj).symm;have S8:St m1 (eobs.map (rep η1 m1)++(reps η m (DY (tids ((p.ut++p.fw)++p.fr)) s.ob)++As)) w:=by
       refine S1.imp (by simp) fun i A B ha hb x hx=> ?_;rw[List.getElem?_append]at ha hb;simp only[AkW]at ha hb;split at ha
       ·rename_i q;rw[AkA q]at hb;simp only[AkP,Akx]at ha hb;obtain⟨o',⟨o,ho,rfl⟩,rfl⟩:=ha;obtain⟨o2',ho',rfl⟩:=hb;rw[ho]at ho'; cases ho';exact LZ hη1 (AkI.1 o2 o (AkQ ho)) hx
       ·rename_i q;rw[Aky q]at hb;rw[ha]at hb; cases hb; exact hx
      rw[←hpk,ek];refine Calls.mono (hs.2 η1 m1 _ w vs (Nh hη1 o1 r1) (fun j hj=>by
       by_cases q:j<n0
       ·exact q
       ·exact absurd (Aky q) hj) S8) fun e w' q=> ?_
      rcases q with ⟨v,_,_,M,η',r,obs',n1,_,_,hpo,_⟩|⟨q1,q2,q3,M,q4,q5⟩
      ·exact absurd hpo (hP _ _ _)
      ·exact .inr ⟨q1,q2,q3,M,Mem.tr l1 q4,q5⟩
     ·obtain⟨hX,M,le,S2⟩:=q;refine pkP (hQ η M f w2 a (Mem.tr b le) ⟨fun t=>(gm.slr t).up Env.le_refl le,gm.fz.up Env.le_refl le,gm.dom,St.ru Env.le_refl le S2,?_,fun t ht=> ?_⟩ hX)
      ·simp only[tids,DY]; exact List.Nodup.sublist (Alv _ List.filter_sublist) gm.wf.nd
      ·refine gm.wf.lt t ?_;simp only[tids,DY,List.mem_map,List.mem_filter]at ht⊢;obtain⟨q,⟨hq,_⟩,e⟩:=ht; exact⟨q,hq,e⟩
    ·cases hp
   ·cases hp
 ·cases e2
theorem RU {m:Mem}{Bs:List Ow}{w:World}(S:St m (Bs++As) w): ∃M,m≤M∧St M As w:=by
 obtain⟨M,l,h⟩:=St.dropN Bs.length S;exact⟨M,l,by rwa [List.drop_left]at h⟩
theorem AjH (hm:P.follows .mixedOrders=true){n:Nat}{cf:Cf}{k:FuncId}{ea:List AV}{eobs:List AObj}{n0:Nat}{ov:Value}{Po:AV→List AObj→Nat→Prop}{Xp:Prop}{fn:Func}{R:Value→World→Prop}{Xq:Prop}(hs:Sb P k ea eobs n0 ov Po Xp)(hP: ∀a o n,¬Po a o n)(hx:Xq)
  (e:(Ld (adv P N n cf).1 ea eobs n0,QK (adv P N n cf).1,((adv P N n cf).2++PF (adv P N n cf).1).map (·.1))=
   (some (k,(FH (adv P N n cf).1 ea eobs).1,(FH (adv P N n cf).1 ea eobs).2,true),true,((adv P N n cf).2++PF (adv P N n cf).1).map (·.2))):Go ρ P N D0 (Xb P N fn R ov (Qr As m0 Xq)) As η0 m0 cf:=
 AhG hm hs hP e fun η m f w a b gm _=>⟨rfl,fun w' pd=>⟨hx,let ⟨M,l,h⟩:=RU (St.pd gm.st pd); ⟨M,Mem.tr b l,h⟩⟩⟩
theorem Ri {β:Type}{A:β→AV}{O:β→List AObj}{n1:Nat}(a:AV)(o:List AObj)(n:Nat): ¬Pos (none:Option β) A O n1 a o n:=fun⟨_,e,_⟩=>by cases e
def Aat (P:Program)(N:Nat)(l:List Oper)(k:Nat):Nat→AS→List Oper→Option (FQ×Eqs)
 |_,_,[]=>some ([],[])
 |i,s,o::rest=>
  bif anc (Rm l []) i k then
   match Aat P N l k (i+1) (after N s o ⟨.any,[],[],[],s.nx,[]⟩) rest with
   |some q=>some ((o,⟨.any,[],[],[],s.nx,[]⟩)::q.1,q.2)
   |none=>none
  else match stepG P l.toArray s.fz s.sl s.ob s.nx o with
   |some r=>match Aat P N l k (i+1) (after N s o r) rest with
    |some q=>some ((o,r)::q.1,r.es++q.2)
    |none=>none
   |none=>none
theorem Rg {l:List Oper}{k:Nat}: ∀{rest:List Oper} {i:Nat} {s:AS} {q:FQ×Eqs},Aat P N l k i s rest=some q→EqsOk q.2→
  q.1.map (·.1)=rest∧Ch0 N s q.1∧∀j p,q.1[j]? =some p→anc (Rm l []) (i+j) k=false→Tri ρ P N D0 l.toArray p.1 s.fz (rst (rds l.toArray p.1) (G6 N s (q.1.take j)).sl) (G6 N s (q.1.take j)).nx p.2
 | [],i,s,q,h,he=>by
  cases h;exact⟨rfl,trivial,fun j p h=>by simp at h⟩
 |o::rest,i,s,q,h,he=>by
  unfold Aat at h;cases hb:anc (Rm l []) i k
  ·rw[hb]at h;simp only[cond_false]at h;split at h
   ·rename_i r hr;split at h
    ·rename_i q' hq;cases h;have he':=EqsOk.app.1 he;obtain⟨h1,h2,h3⟩:=Rg hq he'.2;have ht:=YP (ρ:=ρ) (N:=N) (D0:=D0) hr he'.1;refine⟨by simp[h1],⟨ht.1,V7 hr,h2⟩,fun j p hj ha=> ?_⟩;cases j with
     |zero=>simp at hj; subst hj; exact ht
     |succ j=>exact h3 j p (by simpa using hj) (by rw[show i+1+j=i+(j+1)from by omega]; exact ha)
    ·cases h
   ·cases h
  ·rw[hb]at h;simp only[cond_true]at h;split at h
   ·rename_i q' hq;cases h;obtain⟨h1,h2,h3⟩:=Rg hq he;refine⟨by simp[h1],⟨AkC _,⟨fun x hx=>by simp at hx,by simp[tids],by simp[tids],fun t ht=>by simp[tids]at ht⟩,h2⟩,fun j p hj ha=> ?_⟩;cases j with
    |zero=>
     rw[Nat.add_zero,hb]at ha;cases ha
    |succ j=>exact h3 j p (by simpa using hj) (by rw[show i+1+j=i+(j+1)from by omega]; exact ha)
   ·cases h
def Ahk (s:AS)(p:Aa2):Stp:=⟨.any,(p.ut++p.fw)++p.fr,[],[],s.nx,[]⟩
def panD (P:Program)(N:Nat)(cf:Cf)(ea:List AV)(eobs:List AObj):Option (Bool×Eqs):=
 match cf.md,Ni cf ea eobs with
 | .ops true l (o::rest) h,some p=>match Aat P N l h.length (h.length+1) (after N cf.s o (Ahk cf.s p)) rest with
  |some q=>some (o.guard.isNone&&Vh l (h++(o,Ahk cf.s p)::q.1),q.2)
  |none=>none
 |_,_=>none
def Ai3 (P:Program)(N:Nat)(cf:Cf)(ea:List AV)(eobs:List AObj):Eqs:=match panD P N cf ea eobs with|some q=>q.2|none=> []
theorem AjG (hm:P.follows .mixedOrders=true){n:Nat}{cf:Cf}{k:FuncId}{ea:List AV}{eobs:List AObj}{n0:Nat}{ov:Value}{Po:AV→List AObj→Nat→Prop}{Xp:Prop}{fn:Func}{R:Value→World→Prop}{Xq:Prop}(hs:Sb P k ea eobs n0 ov Po Xp)(hP: ∀a o n,¬Po a o n)(hx:Xq)
  (e:(Ld (adv P N n cf).1 ea eobs n0,(panD P N (adv P N n cf).1 ea eobs).map (·.1),((adv P N n cf).2++(PF (adv P N n cf).1++Ai3 P N (adv P N n cf).1 ea eobs)).map (·.1))=
   (some (k,(FH (adv P N n cf).1 ea eobs).1,(FH (adv P N n cf).1 ea eobs).2,true),some true,((adv P N n cf).2++(PF (adv P N n cf).1++Ai3 P N (adv P N n cf).1 ea eobs)).map (·.2))):Go ρ P N D0 (Xb P N fn R ov (Qr As m0 Xq)) As η0 m0 cf:=by
 simp only[Akt]at e;obtain⟨e1,e2,e3⟩:=e;obtain⟨he1,he2⟩:=EqsOk.two e3;have he3:=(EqsOk.app.1 he2).2;refine MD hm he1 ?_;clear e3 he1 he2;generalize (adv P N n cf).1=c0 at*;obtain⟨s,md,K⟩:=c0;unfold Ai3 at he3;unfold panD at e2 he3;split at e2
 ·rename_i l o rest h p hmd hp;simp only at hmd; subst hmd;simp only[hp]at he3;split at e2
  ·rename_i q hq;simp only[hq]at he3;simp only[AkL,Akv,Aks]at e2;obtain⟨hg',hfl⟩:=e2;have hg:o.guard=none:=by simpa using hg'
   unfold Ld FH at e1;rw[hp]at e1;simp only[Akv,Akt]at e1;obtain⟨ek,eas,eobj,eok⟩:=e1;obtain⟨r1,r2,r3⟩:=Rg (ρ:=ρ) (D0:=D0) hq he3;unfold Ni Gt at hp;simp only[hg]at hp;split at hp
   ·rename_i _ c _ hop;split at hp
    ·rename_i k' as hc;simp only[Tz,Aks]at eok;obtain⟨o1,o2,o3,o4,o5,o6,-⟩:=eok;have hpk:p.k=k':=by
      unfold Q3 at hp;simp only at hp;split at hp
      ·have:=Akr hp; rw[←this]
      ·cases hp
     have hnd:=E1 o3;refine .inr (.inr ⟨rfl,(o,Ahk s p)::q.1,fun i=>match i with|0=>true|i+1=>anc (Rm l []) (h.length+(i+1)) h.length,0,(o,Ahk s p),[],by simp[r1],⟨AkC _,⟨fun x hx=>Pc hp x (by simpa[Ahk]using hx),by simpa[Ahk]using hnd,by simp[tids,Ahk],fun t ht=>by simp[tids,Ahk]at ht⟩,r2⟩,?_,hfl,rfl,rfl,?_,rfl,rfl,?_⟩)
     ·intro i r hr hb;cases i with
      |zero=>cases hb
      |succ i=>exact r3 i r (by simpa using hr) (by rw[show h.length+1+i=h.length+(i+1)from by omega]; exact hb)
     ·intro i _ hb;cases i with
      |zero=>exact .inl rfl
      |succ i=>exact .inr hb
     ·intro η m f w Bs hrel hz _ hm0 S;obtain⟨dst,op,ty,pos,af,gd⟩:=o;simp only at hg hop; subst hg hop;have hr: ∀t,Rel η m (get (rst (opT (.call c)) s.sl) t) (f t):=by simp only[AkX]at hrel; exact hrel
      have S:St m (reps η m ((p.ut++p.fw)++p.fr)++(Bs++As)) w:=S;refine OH (η:=η) (m:=m) (X:=fun w'=> ∃M,m≤M∧St M (Bs++As) w') (R:=fun _ _=>False) (ov:=ov) hc (by rw[←hpk,ek]; exact hs.1) hr hz (fun vs hv=> ?_) (fun v w2 q=>q.elim) fun w2 q=> ?_
      ·obtain⟨m1,l1,r1,S1⟩:=R3 hp o5 o6 hv S;rw[eas]at r1;rw[eobj]at S1;let φ:Nat→Nat:=fun j=>Ii p.mt j 0;let η1:Env:=fun j=>if j<n0 then η (φ j)else none;have hη1: ∀j,j<n0→η (φ j)=η1 j:=fun j hj=>(AkA hj).symm;have S8:St m1 (eobs.map (rep η1 m1)++(Bs++As)) w:=by
        refine S1.imp (by simp) fun i A B ha hb x hx=> ?_;rw[List.getElem?_append]at ha hb;simp only[AkW]at ha hb;split at ha
        ·rename_i q;rw[AkA q]at hb;simp only[AkP,Akx]at ha hb;obtain⟨o',⟨o,ho,rfl⟩,rfl⟩:=ha;obtain⟨o2',ho',rfl⟩:=hb;rw[ho]at ho'; cases ho';exact LZ hη1 (AkI.1 o2 o (AkQ ho)) hx
        ·rename_i q;rw[Aky q]at hb;rw[ha]at hb; cases hb; exact hx
       rw[←hpk,ek];refine Calls.mono (hs.2 η1 m1 _ w vs (Nh hη1 o1 r1) (fun j hj=>by
        by_cases q:j<n0
        ·exact q
        ·exact absurd (Aky q) hj) S8) fun e w' q=> ?_
       rcases q with ⟨v,_,_,M,η',r,obs',n1,_,_,hpo,_⟩|⟨q1,q2,q3,M,q4,q5⟩
       ·exact absurd hpo (hP _ _ _)
       ·exact .inr ⟨q1,q2,M,Mem.tr l1 q4,q5⟩
      ·obtain⟨M,le,S2⟩:=q;refine pkP (Q:=Xb P N fn R ov (Qr As m0 Xq)) ⟨rfl,fun w' pd=>⟨hx,?_⟩⟩;obtain⟨M2,l2,h2⟩:=RU (St.pd S2 pd);exact⟨M2,Mem.tr hm0 (Mem.tr le l2),h2⟩
    ·cases hp
   ·cases hp
  ·cases e2
 ·cases e2
end
def Abx (N:Nat)(cf:Cf):Option TypeId:=
 match cf.md with
 | .ops false l [⟨some d,.makeInterface t x,_,_,_,none⟩,⟨none,.panic (.tmp d'),_,_,_,none⟩] _=>
  bif Nat.beq d' d&&Nat.blt d N then match aev cf.s.sl x with
   | .agg []=>some t
   |_=>none
  else none
 |_=>none
section
variable {ρ:Option Nat}{P:Program}{N:Nat}{D0:Dw}{Q:DJ}{As:List Ow}{η0:Env}{m0:Mem}
variable {ops:Array Oper}{rest:List Oper}{o:Oper}{f:Fr}{w w':World}
theorem VC {v:Value}(hg:o.guard=none)(hp:Ov o)(hr:(execOp (ev f) o).run P w= .halt (.panic v) w)(h:Q (.panic (chn v)) f w):wpl ρ P N D0 ops (o::rest) Q f w:=fun a ha=>by
 refine Li hg hp ?_;rw[ha.1.eval,hr];exact⟨f,ha,h⟩
theorem Agd (hm:P.follows .mixedOrders=true){n:Nat}{cf:Cf}{t:TypeId}{fn:Func}{R:Value→World→Prop}{Xq:Prop}(hc:P.concrete t=true)(hx:Xq)
  (e:(Abx N (adv P N n cf).1,((adv P N n cf).2).map (·.1))=(some t,((adv P N n cf).2).map (·.2))):Go ρ P N D0 (Xb P N fn R (.iface t (.agg #[])) (Qr As m0 Xq)) As η0 m0 cf:=by
 simp only[Akt]at e;obtain⟨e1,e3⟩:=e;refine MD hm (.of e3) ?_;generalize (adv P N n cf).1=c0 at*;obtain⟨s,md,K⟩:=c0;unfold Abx at e1;split at e1
 ·rename_i l d tt x ty pos af d' ty' pos' af' h hmd;simp only at hmd; subst hmd;cases hb:Nat.beq d' d&&Nat.blt d N
  ·rw[hb]at e1; cases e1
  ·rw[hb]at e1;simp only[cond_true]at e1;simp only[Aks,Nat.beq_eq]at hb;obtain⟨rfl,hlt⟩:=hb;split at e1
   ·rename_i hx';cases e1;refine .inr (.inl ⟨rfl,fun η m f w a b gm=> ?_⟩);have rx:=Am gm.slr x;rw[hx']at rx;obtain⟨vs,ex,hl⟩:=rx.agg_inv;have:=hl.nil_inv; subst this;refine Aq (v:= .iface t (.agg #[])) (w':=w) rfl (fun _ e=>by cases e) (by have:=run_makeInterface (P:=P) (w:=w) t (.agg #[]) hc; simp[execOp,ex,this]) ?_;have e0:upo N f (some d') (.iface t (.agg #[])) d'= .iface t (.agg #[]):=by
     simp[upo,up,hlt]
    refine VC rfl (fun _ e=>by cases e) ?_ (pkP ⟨rfl,fun w' pd=>⟨hx,let ⟨M,l,h⟩:=RU (St.pd gm.st pd); ⟨M,Mem.tr b l,h⟩⟩⟩);simp[execOp,ev,e0,Instr.panic,AkJ,go_sem]
   ·cases e1
 ·cases e1
end
section
variable {ρ:Option Nat}{P:Program}{N:Nat}{D0:Dw}{Q:DJ}{As:List Ow}{η0:Env}{m0:Mem}
def Ze (Je:Fr→World→Prop)(ov:Value)(Jx:Fr→World→Prop):DJ:=fun e f w=>match e with| .normal=>Je f w| .ret=>Je f w| .panic ch=>ch=chn ov∧Jx f w|_=>False
theorem WJ {n0:Nat}{cf:Cf}{ι:Type}{J:ι→AS}{ok:ι→Prop}{ov:Value}{Jx:Fr→World→Prop}(x:ι)(hx:ok x)(hd: ∀n,η0 n≠none→n<n0)
  (e:(Aeh (aC P N cf),vwL (aC P N cf).s (J x) n0,(vwP (aC P N cf).s (J x)).isSome,(bL P N cf))=(true,vwR (aC P N cf).s (J x),true,(bR P N cf)):=by kernel_rfl) (hm:P.follows .mixedOrders=true:=by rfl):
  Go ρ P N D0 (Ze (Rl As η0 m0 J ok) ov Jx) As η0 m0 cf:=by
 simp only[Akt]at e;obtain⟨e1,e2,e4,e3⟩:=e;refine AP hm (.of e3) ?_;generalize aC P N cf=c0 at*;obtain⟨s,md,K⟩:=c0;unfold Aeh at e1;split at e1
 ·rename_i hmd hK;simp only at hmd hK; subst hmd hK;intro η m f w a1 a2 g;obtain⟨η',m',l,le,g'⟩:=M7 e2 e4 hd a1 g;exact⟨x,hx,η',m',le,Mem.tr a2 l,g'⟩
 ·rename_i hmd hK;simp only at hmd hK; subst hmd hK;intro η m f w a1 a2 g;obtain⟨η',m',l,le,g'⟩:=M7 e2 e4 hd a1 g;exact⟨x,hx,η',m',le,Mem.tr a2 l,g'⟩
 ·cases e1
theorem AjF (hm:P.follows .mixedOrders=true){n:Nat}{cf:Cf}{k:FuncId}{ea:List AV}{eobs:List AObj}{n0 n1:Nat}{ov:Value}{Po:AV→List AObj→Nat→Prop}{Xp:Prop}{Je:Fr→World→Prop}{J:AS}{ok:Prop}
  (hs:Sb P k ea eobs n0 ov Po Xp) (hP: ∀a o n,¬Po a o n) (hx:ok) (hd: ∀n,η0 n≠none→n<n1)
  (e:(Ld (adv P N n cf).1 ea eobs n0,QK (adv P N n cf).1,((adv P N n cf).2++PF (adv P N n cf).1).map (·.1))=
   (some (k,(FH (adv P N n cf).1 ea eobs).1,(FH (adv P N n cf).1 ea eobs).2,true),true,((adv P N n cf).2++PF (adv P N n cf).1).map (·.2)))
  (e2:(vwL (AcG (adv P N n cf).1 ea eobs) J n1,(vwP (AcG (adv P N n cf).1 ea eobs) J).isSome)=(vwR (AcG (adv P N n cf).1 ea eobs) J,true)):
  Go ρ P N D0 (Ze Je ov (Rl As η0 m0 (fun _:Unit=>J) (fun _=>ok))) As η0 m0 cf:=by
 simp only[Akt]at e2;refine AhG hm hs hP e fun η m f w a b gm _=> ?_;obtain⟨η',m',l,le,g'⟩:=M7 e2.1 e2.2 hd a gm;exact⟨rfl,(),hx,η',m',le,Mem.tr b l,g'⟩
theorem NL {x y:Code}{Qa:Exit→Act→World→Prop}{K:Fr→World→Prop}{Qx:DJ}{f:Fr}{w:World}{a:Act}(h:wpc ρ P N D0 x (J2 K Qx) f w)(ha:Sim N a f∧Okd D0 a w)
  (hK: ∀f' w' a',K f' w'→Sim N a' f'∧Okd D0 a' w'→y.wpIn (FW ρ) 0 P Qa a' w') (hQ: ∀e f' w' a',e≠ .normal→Qx e f' w'→Sim N a' f'∧Okd D0 a' w'→Qa e a' w'):(Code.seq x y).wpIn (FW ρ) 0 P Qa a w:=by
 refine wpIn_seq (wpIn_mono (h a ha) ?_);rintro e a' w' ⟨f',s,q⟩;cases e with
 |normal=>exact hK f' w' a' q s
 |exit id=>exact hQ _ f' w' a' (by simp) q s
 |goto l=>exact hQ _ f' w' a' (by simp) q s
 |ret=>exact hQ _ f' w' a' (by simp) q s
 |panic ch=>exact hQ _ f' w' a' (by simp) q s
 |outgrown=>exact hQ _ f' w' a' (by simp) q s
def okM (P:Program)(fn:Func)(w:World)(R:Value→World→Prop):Exit→Act→World→Prop:=bodyPostM (FW none) 0 P fn fun e w'=> ∃v,e= .returned v∧Kd w w'∧R v w'
theorem TA {fn:Func}{w w1:World}{R:Value→World→Prop}{e:Exit}{a:Act}{f:Fr}(q:Q4 P N fn R e f w1)(s:Sim N a f∧Okd (w,[],true) a w1):okM P fn w R e a w1:=by
 have hd:a.defers=[]:=s.2.just rfl;cases e with
 |normal=>
  show LeavesInM _ _ _ _ _ _ a.defers _ _;rw[hd];obtain⟨v,hr,hR⟩:=q w1 (Pd.rfl' w1);exact⟨v,hr a s.1,v,rfl,s.2.keep,hR⟩
 |ret=>
  show LeavesInM _ _ _ _ _ _ a.defers _ _;rw[hd];obtain⟨v,hr,hR⟩:=q w1 (Pd.rfl' w1);exact⟨v,hr a s.1,v,rfl,s.2.keep,hR⟩
 |exit id=>exact q.elim
 |goto l=>exact q.elim
 |panic ch=>exact q.elim
 |outgrown=>exact q.elim
theorem get_of {k kd d id:Nat}{fn:Func}{R0 R1 C2 REST:Code}{ty1 ty2:TypeId}{pos1 pos2:String}{af1 af2:Array Edge}{args:List AV}{r:AV}{ov:Value}{J1:AS}{ι:Type}{JE:ι→AS}{okE:ι→Prop}{ok1 okX:Prop}{zd:List D}{nc:Nat}{tc te:TypeId}{ev0:D}
  (hc: ∀(a:Array Value) w,(callFunc k a).run P w= .ok (.enter k a) w) (hcd: ∀(a:Array Value) w,(callFunc kd a).run P w= .ok (.enter kd a) w) (hf:P.funcs[k]? =some fn)
  (hb:fn.body=some (.seq R0 (.seq R1 (.seq C2 (.seq (.region id #[⟨some d,.makeFunc (.func kd) #[] #[.tmp 4,.tmp 5],ty1,pos1,af1,none⟩,⟨none,.defer ⟨.value (.tmp d), #[], #[]⟩,ty2,pos2,af2,none⟩] false) REST)))))
  (hN:fn.ntmps=N) (hle:Nat.ble args.length N=true) (hdN:Nat.blt d N=true) (h45:Nat.beq 4 d=false∧Nat.beq 5 d=false)
  (hJ:(get J1.sl d,get J1.sl 4,get J1.sl 5)=(.any,.pb 0 0,.pb 1 0))
  (h1: ∀D0 As η0 m0 Jp,(∀n,η0 n≠none→n<0)→Bk As η0 m0 (fun _:Unit=>J1) (fun _=>ok1) Jp→Go none P N D0 (Q4 P N fn (Ix As η0 m0 (is r [] 0))) As η0 m0 ⟨Q9 args [] 0,.code R0,[.code R1,.code C2,.ctn Jp]⟩)
  (h2:ok1→∀D0 As η0 m0,(∀n,η0 n≠none→n<2)→Go none P N D0 (Ze (Rl As η0 m0 JE okE) ov (Rl As η0 m0 (fun _:Unit=>⟨[(4,.pb 0 0),(5,.pb 1 0)],[(0,.box 0 (List.replicate nc .any) tc),(1,.box 1 [.any] te)],[],2⟩) (fun _=>okX))) As η0 m0 ⟨J1,.code REST,[]⟩)
  (h3: ∀i,okE i→∀D0 As η0 m0,(∀n,η0 n≠none→n<0)→Go none P N D0 (Q4 P N fn (Ix As η0 m0 (is r [] 0))) As η0 m0 ⟨JE i,.ret,[]⟩)
  (hE: ∀i,okE i→(get (JE i).sl 4,get (JE i).sl 5)=(.pb 0 0,.pb 1 0))
  (h4:okX→∀D0 As η0 m0,(∀n,η0 n≠none→n<0)→Go none P N D0 (Q4 P N fn (Ix As η0 m0 (is r [] 0))) As η0 m0 ⟨⟨[(4,.pb 0 0),(5,.pb 1 0)],[(0,.box 0 (zd.map .d) tc),(1,.box 1 [.d ev0] te)],[],2⟩,.ret,[]⟩)
  (hD1: ∀(a b:Value) (w:World),CallsDIn (FW none) 0 P kd #[a,b] .returning w fun e u' w'=> ∃v,e= .returned v∧u'= .returning∧w'=w)
  (hD2: ∀(m:Mem) (As:List Ow) (w:World) (bc be:Nat) (cs es:List Value),cs.length=nc→es.length=1→(∀v∈cs,v.oneCell'=true)→(∀v∈es,v.oneCell'=true)→St m (bx bc cs tc::bx be es te::As) w→
   CallsDIn (FW none) 0 P kd #[pt bc 0,pt be 0] (.panicking (chn ov)) w fun e u' w'=> ∃v,e= .returned v∧u'= .panicking [{v:=ov,recovered:=true}]∧Kd w w'∧
    ∃M zs ze,m≤M∧FRL M zd zs∧FR M ev0 ze∧St M (bx bc zs tc::bx be [ze] te::As) w'):Sf P k args r:=by
 refine⟨hc,fun η m As w vs hv hd S=> ?_⟩;have hη: ∀n,η n=none:=fun n=>by
  cases q:η n with
  |none=>rfl
  |some v=>exact absurd (hd n (by rw[q]; simp)) (by omega)
 refine Kz (ρ:=none) (n:=0) (callsIn_of_wp_marks hf hb trivial ?_);have hle':vs.length≤N:=by rw[←hv.1]; exact AkG hle
 have a0:Sim N {tmps:=vs.toArray++Array.replicate (fn.ntmps-vs.toArray.size) undef,defers:=[]} (f0 vs)∧Okd (w,[],true) {tmps:=vs.toArray++Array.replicate (fn.ntmps-vs.toArray.size) undef,defers:=[]} w:=
  ⟨sim0 hN hle',Okd.base (a:={tmps:=vs.toArray++Array.replicate (fn.ntmps-vs.toArray.size) undef,defers:=[]}) (Kd.rfl' w)⟩
 have g1:=h1 (w,[],true) As η m _ hd ⟨fun _ _ h=>h⟩ η m (f0 vs) w Env.le_refl (Mem.rfl' m) (Qf hv hd S);refine NL g1 a0 (fun f1 w1 a1 q1 s1=>NL q1 s1 (fun f2 w2 a2 q2 s2=>NL q2 s2 (fun f3 w3 a3 q3 s3=> ?_) fun e f' w' a' hne q s=>TA (by cases e<;>first|exact absurd rfl hne|exact q) s) fun e f' w' a' hne q s=>TA (by cases e<;>first|exact absurd rfl hne|exact q) s) fun e f' w' a' hne q s=>TA (by cases e<;>first|exact absurd rfl hne|exact q) s;obtain⟨_,hok,η3,m3,le3,l3,gm3⟩:=q3;simp only[Akt]at hJ;obtain⟨hJd,hJ4,hJ5⟩:=hJ;have r4:=gm3.slr 4;rw[hJ4]at r4;obtain⟨bc,e4,v4⟩:=r4.pb_inv;have r5:=gm3.slr 5;rw[hJ5]at r5;obtain⟨be,e5,v5⟩:=r5.pb_inv;have hd3:a3.defers=[]:=s3.2.just rfl;let fv:Value:= .func (.func kd) #[] #[pt bc 0,pt be 0];let dd:Deferred:={target:= .fn (.func kd) #[pt bc 0,pt be 0],args:= #[]};have hdN':=Cy hdN;let a4:Act:=a3.put (some d) fv;let a5:Act:={a4 with defers:=dd::a4.defers};let f5:Fr:=upo N f3 (some d) fv;have sim4:Sim N a4 f5:=s3.1.put (some d) fv;have sim5:Sim N a5 f5:=⟨sim4.size,sim4.at_⟩;have ed:ev f5 (.tmp d)=fv:=by
  show up N f3 d fv d=fv;simp only[up,Nat.beq_refl,Ala,hdN,cond_true]
 refine wpIn_seq (wpIn_region ?_);show wpOpsIn (FW none) 0 P _ _ (List.range 2) a3 w3;rw[List.range_eq_range'];refine Xk [⟨some d,.makeFunc (.func kd) #[] #[.tmp 4,.tmp 5],ty1,pos1,af1,none⟩,⟨none,.defer ⟨.value (.tmp d), #[], #[]⟩,ty2,pos2,af2,none⟩] 0 (fun j=>by simp) a3 w3 ?_;unfold wpO;rw[AkA (by simp[Region.wanted])];rw[Oper.semAt_eq _ _ _ (fun c e=>by cases e)];rw[show(execOp a3.eval ⟨some d,.makeFunc (.func kd) #[] #[.tmp 4,.tmp 5],ty1,pos1,af1,none⟩).run P w3= .ok (.value fv) w3 by
  rw[s3.1.eval]; simp[execOp,Instr.makeFunc,ev,v4,v5,fv]]
 show wpO none P _ _ [_] a4 w3;unfold wpO;rw[AkA (by simp[Region.wanted])];rw[Oper.semAt_none];rw[show(execOp a4.eval ⟨none,.defer ⟨.value (.tmp d), #[], #[]⟩,ty2,pos2,af2,none⟩).run P w3= .ok (.defer dd) w3 by
  rw[sim4.eval]; simp[execOp,resolve,ed,Deferred.ofValue,fv,dd]]
 show REST.wpIn (FW none) 0 P (okM P fn w _) a5 w3;have gm5:Gm As J1 η3 m3 f5 w3:=⟨fun t=>by
  cases hb:Nat.beq t d&&Nat.blt d N
  ·have e:f5 t=f3 t:=by show up N f3 d fv t=_; simp only[up,hb,cond_false]
   rw[e]; exact gm3.slr t
  ·simp only[Aks,Nat.beq_eq]at hb;obtain⟨rfl,_⟩:=hb;rw[hJd]; exact .any _,gm3.fz,gm3.dom,gm3.st,gm3.wf⟩
 have cle:(TR η3 2).le η3:=fun n v h=>by unfold TR at h; split at h; exact h; cases h
 have g2:=h2 hok (w3,a5.defers,true) As (TR η3 2) m3 (fun n h=>by unfold TR at h; split at h; assumption; exact absurd rfl h) η3 m3 f5 w3 cle (Mem.rfl' m3) gm5;have k3:=s3.2.keep;have hinv: ∀w',(invoke dd.target dd.args).run P w'= .ok (.enter kd #[pt bc 0,pt be 0]) w':=fun w'=>by
  simp[dd,invoke,hcd]
 refine wpIn_mono (g2 a5 ⟨sim5,Okd.base (Kd.rfl' w3)⟩) ?_;have fin: ∀(a6:Act) (w6:World) (f6:Fr),Sim N a6 f6∧Okd (w3,a5.defers,true) a6 w6→Rl As (TR η3 2) m3 JE okE f6 w6→LeavesInM (FW none) 0 P fn a6.tmps (fun e w'=> ∃v,e= .returned v∧Kd w w'∧Ix As η m (is r [] 0) v w') a6.defers .returning w6:=by
  rintro a6 w6 f6 s6 ⟨i,hi,η6,m6,le6,l6,gm6⟩;have hd6:a6.defers=[dd]:=by rw[s6.2.just rfl]; show dd::a3.defers=_; rw[hd3]
  rw[hd6];refine⟨by simp,.inr ⟨(fun h=>by cases h),.func kd, #[pt bc 0,pt be 0],kd, #[pt bc 0,pt be 0],rfl,hinv w6,fun _ _=>trivial,?_⟩⟩;refine CallsDIn.mono (hD1 _ _ w6) ?_;rintro e u' w' ⟨v,rfl,rfl,rfl⟩;have g3:=h3 i hi (w,[],true) As η m hd η6 m6 f6 w' (fun n v h=>by rw[hη]at h; cases h) (Mem.tr l3 l6) gm6;obtain⟨v,hr,hR⟩:=g3 w' (Pd.rfl' w');exact⟨v,hr a6 s6.1,v,rfl,k3.tr s6.2.keep,hR⟩
 rintro e a6 w6 ⟨f6,s6,q⟩;cases e with
 |normal=>exact fin a6 w6 f6 s6 q
 |ret=>exact fin a6 w6 f6 s6 q
 |exit id=>exact q.elim
 |goto l=>exact q.elim
 |outgrown=>exact q.elim
 |panic ch=>
  obtain⟨rfl,_,hx,η6,m6,le6,l6,gm6⟩:=q;have hd6:a6.defers=[dd]:=by rw[s6.2.just rfl]; show dd::a3.defers=_; rw[hd3]
  show LeavesInM _ _ _ _ _ _ a6.defers _ _;rw[hd6];have e0:η6 0=some (pt bc 0):=le6 0 _ (by show(if _ then _ else _)=_; rw[AkA (by omega)]; exact e4);have e1:η6 1=some (pt be 0):=le6 1 _ (by show(if _ then _ else _)=_; rw[AkA (by omega)]; exact e5);obtain⟨b0,cs,q0,q1,q2,S1⟩:=St.openBox gm6.st;rw[e0]at q0; obtain rfl:bc=b0:=by have:=Akr q0; simpa using this
  have S2:=S1.perm (Ak8 _ _ _);obtain⟨b1,es,p0,p1,p2,S3⟩:=St.openBox S2;rw[e1]at p0; obtain rfl:be=b1:=by have:=Akr p0; simpa using this
  have S4:=S3.perm (Ak8 _ _ _);refine⟨by simp,.inr ⟨(fun h=>by cases h),.func kd, #[pt bc 0,pt be 0],kd, #[pt bc 0,pt be 0],rfl,hinv w6,fun _ _=>trivial,?_⟩⟩;refine CallsDIn.mono (hD2 m6 As w6 bc be cs es (by have:=q1.1; simpa using this.symm) (by have:=p1.1; simpa using this.symm) q2 p2 S4) ?_;rintro e u' w' ⟨v,rfl,rfl,kk,M,zs,ze,l7,hz1,hz3,S5⟩;have S6:=St.closeBox e0 (BP.ofD hz1) hz1.one S5;have S7:=S6.perm (Ak8 _ _ _);have S8:=St.closeBox (cs:=[.d ev0]) e1 (.cons (.d hz3) .nil) (fun v hv=>by simp at hv; subst hv; exact hz3.one) S7;have S9:=S8.perm (Ak8 _ _ _);have gm7:Gm As ⟨[(4,.pb 0 0),(5,.pb 1 0)],[(0,.box 0 (zd.map .d) tc),(1,.box 1 [.d ev0] te)],[],2⟩ η6 M f6 w':=⟨fun t=>(gm6.slr t).up Env.le_refl l7,gm6.fz.up Env.le_refl l7,gm6.dom,S9,gm6.wf.nd,gm6.wf.lt⟩;have g4:=h4 hx (w,[],true) As η m hd η6 M f6 w' (fun n v h=>by rw[hη]at h; cases h) (Mem.tr l3 (Mem.tr l6 l7)) gm7;obtain⟨v,hr,hR⟩:=g4 w' (Pd.rfl' w');exact⟨v,hr a6 s6.1,v,rfl,(k3.tr s6.2.keep).tr kk,hR⟩
theorem Z9: ∀{zd:List D},Vz (zd.map .d)=some zd
 | []=>rfl
 |a::l=>by simp only[AkZ,Vz,Z9]
theorem wS_val {ops:Array Oper}{Qs:Exit→Act→List Frame→World→Prop}{i:Nat}{rest:List Nat}{o:Oper}{a:Act}{cs:List Frame}{w w':World}{v:Value}(ho:ops[i]? =some o)(hg:o.guard=none)(hr:(execOp a.eval o).run P w= .ok (.value v) w')
  (h:wpOpsSIn (FW none) 0 P ops Qs rest (a.put o.dst v) cs w'):wpOpsSIn (FW none) 0 P ops Qs (i::rest) a cs w:=by
 unfold wpOpsSIn;rw[ho];refine⟨fun _ _=>trivial,?_⟩;rw[AkA (by simp[Region.wanted,hg]),hr];exact h
theorem Ag2 {ops:Array Oper}{Qs:Exit→Act→List Frame→World→Prop}{i:Nat}{rest:List Nat}{o:Oper}{a:Act}{cs cs':List Frame}{w w':World}{v:Value}(ho:ops[i]? =some o)(hg:o.guard=none)(hr:(execOp a.eval o).run P w= .ok .recover w')
  (he:(match recoverD cs with|some (x,c2)=>(x,c2)|none=>(.nilIface,cs))=(v,cs')) (h:wpOpsSIn (FW none) 0 P ops Qs rest (a.put o.dst v) cs' w'):wpOpsSIn (FW none) 0 P ops Qs (i::rest) a cs w:=by
 unfold wpOpsSIn;rw[ho];refine⟨fun _ _=>trivial,?_⟩;rw[AkA (by simp[Region.wanted,hg]),hr];cases hrc:recoverD cs with
 |none=>rw[hrc]at he; simp only[Akt]at he; obtain⟨rfl,rfl⟩:=he; exact h
 |some p=>rw[hrc]at he; simp only[Akt]at he; obtain⟨rfl,rfl⟩:=he; exact h
theorem Y3 {kd id t1 t2:Nat}{fd:Func}{REST:Code}{cts:Array TypeId}{ty1 ty2:TypeId}{pos1 pos2:String}{af1 af2:Array Edge}{args:List Value}{u u':FrameMode}{v:Value}{w:World}{R:World→Prop}
  (hf:P.funcs[kd]? =some fd) (hb:fd.body=some (.seq (.region id #[⟨some t1,.call ⟨.builtin .recover, #[],cts⟩,ty1,pos1,af1,none⟩,⟨some t2,.assign (.tmp t1),ty2,pos2,af2,none⟩] false) REST)) (hN:fd.ntmps=N) (hr0:fd.results= #[])
  (hle:args.length≤N) (h1:Nat.blt t1 N=true)
  (hv: ∀(c₀:Frame) (cs:List Frame),c₀.mode=u→recoverD (c₀::cs)=some (v,{c₀ with mode:=u'}::cs)∨(recoverD (c₀::cs)=none∧v= .nilIface∧u'=u))
  (h:wpc none P N (w,[],true) REST (fun e f w'=>(e= .normal∨e= .ret)∧R w') (upo N (upo N (f0 args) (some t1) v) (some t2) v) w):
  CallsDIn (FW none) 0 P kd args.toArray u w fun e u2 w'=> ∃x,e= .returned x∧u2=u'∧Kd w w'∧R w':=by
 refine callsDIn_of_wpSIn hf hb trivial fun c₀ cs hu=> ?_;let a0:Act:={tmps:=args.toArray++Array.replicate (fd.ntmps-args.toArray.size) undef,defers:=[]};have s0:Sim N a0 (f0 args):=sim0 hN hle;let a2:Act:=(a0.put (some t1) v).put (some t2) v;have s2:Sim N a2 (upo N (upo N (f0 args) (some t1) v) (some t2) v):=(s0.put (some t1) v).put (some t2) v;have hcs: ∃cs',(match recoverD (c₀::cs)with|some (x,c2)=>(x,c2)|none=>(.nilIface,c₀::cs))=(v,cs')∧cs'={c₀ with mode:=u'}::cs:=by
  rcases hv c₀ cs hu with e|⟨e,rfl,rfl⟩
  ·exact⟨_,by rw[e],rfl⟩
  ·refine⟨_,by rw[e],?_⟩;subst hu; rfl
 obtain⟨cs',he,hcs'⟩:=hcs;have ev1:(a0.put (some t1) v).eval (.tmp t1)=v:=by
  rw[(s0.put (some t1) v).eval];show up N (f0 args) t1 v t1=v;simp only[up,Nat.beq_refl,Ala,h1,cond_true]
 have key:REST.wpSIn (FW none) 0 P (bodyPostS P fd c₀ cs fun e u2 w'=> ∃x,e= .returned x∧u2=u'∧Kd w w'∧R w') a2 cs' w:=by
  refine wpSIn_of_wpIn rfl (wpIn_mono (h a2 ⟨s2,Kd.rfl' w,[],rfl,fun _=>rfl,List.nodup_nil,fun b hb=>by cases hb⟩) ?_);rintro e a w' ⟨f,⟨s,ok⟩,hk,hR⟩;have hd:a.defers=[]:=ok.just rfl;have hres:(results fd a.tmps).run P w'= .ok (.tuple #[]) w':=by simp[results,hr0]
  rcases hk with rfl|rfl
  ·exact⟨hd,u',hcs',_,hres,_,rfl,rfl,ok.keep,hR⟩
  ·exact⟨hd,u',hcs',_,hres,_,rfl,rfl,ok.keep,hR⟩
 refine wpSIn_seq (wpSIn_region ?_);show wpOpsSIn (FW none) 0 P _ _ [0,1] a0 (c₀::cs) w;have r1:(execOp a0.eval ⟨some t1,.call ⟨.builtin .recover, #[],cts⟩,ty1,pos1,af1,none⟩).run P w= .ok .recover w:=by
  simp[execOp,resolve,invoke,go_sem]
 have r2:(execOp (a0.put (some t1) v).eval ⟨some t2,.assign (.tmp t1),ty2,pos2,af2,none⟩).run P w= .ok (.value v) w:=by
  show(Sem.run P (pure (Next.value ((a0.put (some t1) v).eval (.tmp t1)))) w)=_;rw[ev1]; rfl
 exact Ag2 rfl rfl r1 he (wS_val rfl rfl r2 key)
theorem Abs {η0 η:Env}{m:Mem}{f:Fr}{w:World}{bc be:Nat}{zd:List D}{d:D}{tc te:TypeId}(h0:η0 0=some (pt bc 0))(h1:η0 1=some (pt be 0))(le:η0.le η)
  (gm:Gm As ⟨[],[(0,.box 0 (zd.map .d) tc),(1,.box 1 [.d d] te)],[],2⟩ η m f w): ∃zs ze,FRL m zd zs∧FR m d ze∧St m (bx bc zs tc::bx be [ze] te::As) w:=by
 obtain⟨b0,cs,q0,q1,q2,S1⟩:=St.openBox gm.st;rw[le 0 _ h0]at q0; obtain rfl:bc=b0:=by have:=Akr q0; simpa using this
 have S2:=S1.perm (Ak8 _ _ _);obtain⟨b1,es,p0,p1,p2,S3⟩:=St.openBox S2;rw[le 1 _ h1]at p0; obtain rfl:be=b1:=by have:=Akr p0; simpa using this
 have S4:=S3.perm (Ak8 _ _ _);obtain⟨ze,us,rfl,a1,a2⟩:=p1.cons_inv;have:=a2.nil_inv; subst this;exact⟨cs,ze,Vv Z9 q1,a1.dd,S4⟩
end
section
variable {κ γ:Type}
theorem Wt {p:κ→Bool}: ∀{kv:List (κ×γ)} {i j:Nat} {v:γ},Xd p kv i=some (j,v)→∃k y,j=i+k∧kv[k]? =some y∧p y.1=true∧y.2=v∧∀x,upG p x kv=kv.set k x
 | [],_,_,_,h=>by cases h
 |y::r,i,j,v,h=>by
  unfold Xd at h;cases hp:p y.1
  ·rw[hp]at h;obtain⟨k,z,h1,h2,h3,h4,h5⟩:=Wt (kv:=r) h;exact⟨k+1,z,by omega,h2,h3,h4,fun x=>by unfold upG; rw[hp]; simp[h5]⟩
  ·rw[hp]at h;cases h;exact⟨0,y,rfl,rfl,hp,rfl,fun x=>by unfold upG; rw[hp]; rfl⟩
theorem Wu {p:κ→Bool}: ∀{kv:List (κ×γ)} {i:Nat},Xd p kv i=none→∀x,upG p x kv=kv++[x]
 | [],_,_,x=>rfl
 |y::r,i,h,x=>by
  unfold Xd at h;cases hp:p y.1
  ·rw[hp]at h;unfold upG; rw[hp]; simp[Wu (kv:=r) h]
  ·rw[hp]at h; cases h
theorem Zy {p:κ→Bool}: ∀{kv:List (κ×γ)} {i:Nat},(Xd p kv i).map (·.2)=lkG p kv
 | [],_=>rfl
 |y::r,i=>by
  unfold Xd lkG;cases hp:p y.1
  ·exact Zy (kv:=r)
  ·rfl
end
section
variable {ρ:Option Nat}{P:Program}{N:Nat}{D0:Dw}{Q:DJ}{As:List Ow}{η0:Env}{m0:Mem}
theorem Aiw {m:Mem}{d:D}{v:Value}(h:sc d=true)(k:FR m d v):v=scV d:=by cases k<;>first|rfl|cases h
theorem AbS {m:Mem}{d:D}(h:sc d=true):FR m d (scV d):=by
 cases d with
 |i=>exact .i _
 |u=>exact .u _
 |w=>exact .w _
 |b=>exact .b _
 |r=>exact .r _
 |t=>exact .t _
 |s=>exact .s _
 |_=>cases h
theorem Ag8 {η:Env}{m:Mem}: ∀{ds:List D} {vs:List Value},ds.all sc=true→BP η m (ds.map .d) vs→vs=ds.map scV
 | [],vs,_,h=>h.nil_inv
 |d::ds,vs,h,k=>by
  simp only[Alf,Aks]at h;obtain⟨v,us,rfl,h1,h2⟩:=k.cons_inv;cases h1 with
  |d q=>rw[Aiw h.1 q,Ag8 h.2 h2]; rfl
theorem Ag7 {η:Env}{m:Mem}: ∀{ds:List D},ds.all sc=true→BP η m (ds.map .d) (ds.map scV)
 | [],_=> .nil
 |d::ds,h=>by
  simp only[Alf,Aks]at h;exact .cons (.d (AbS h.1)) (Ag7 h.2)
theorem sb_sc {d:D}(h:sc d=true)(n:Nat):Instr.sameBits (n+1) (scV d) (scV d)=true:=by
 cases d with
 |s x=>exact(Yk x x).trans (Sq.2 rfl)
 |_=>first|(simp[scV,Instr.sameBits]; done)|cases h
theorem Ag9 {n:Nat}: ∀{ds:List D},ds.all sc=true→(((ds.map scV).zip (ds.map scV)).all fun(x,y)=>Instr.sameBits (n+1) x y)=true
 | [],_=>rfl
 |d::ds,h=>by
  simp only[Alf,Aks]at h;simp only[AkZ,List.zip_cons_cons,Alf,Aks];exact⟨sb_sc h.1 n,Ag9 h.2⟩
theorem Aha {ds:List D}(h:ds.all sc=true)(n:Nat):Instr.sameBits (n+2) (.agg (ds.map scV).toArray) (.agg (ds.map scV).toArray)=true:=by
 simp only[Instr.sameBits,Aks];exact⟨by simp,Ag9 h⟩
def ckF (P:Program)(E:TypeId→AV→Bool):List Field→List AV→Bool
 | [],_=>true
 |fd::r,cs=>bif fd.name== "_" then false else
  match X1 P fd.type cs fd.offset with
  |some a=>E fd.type a&&ckF P E r cs
  |none=>false
def ckT (P:Program):Nat→TypeId→AV→Bool
 |0,_,_=>false
 |f+1,t,a=>
  match P.underlying t,a with
  |some (.struct fs),.agg cs=>ckF P (ckT P f) fs.toList cs
  |some (.array 2 e),.agg [.d (.u p),.d (.u q)]=>match P.underlying e,JK P e with
   |some (.int .u64),some i=>Nat.beq i.sz 1&& !i.agg
   |_,_=>false
  |some (.int .i64),.d (.i _)=>true
  |some (.int .u64),.d (.u _)=>true
  |some .bool,.d (.t _)=>true
  |some .string,.d (.s _)=>true
  |_,_=>false
theorem W0 {η:Env}{m:Mem}: ∀{f:Nat} {t:TypeId} {a:AV} {u:Value},ckT P f t a=true→Rel η m a u→∀(e:Bool) (d:Nat) (w:World),(Instr.checkKey e (d+f+1) t u).run P w= .ok () w
 |0,t,a,u,h,_,_,_,_=>by cases h
 |f+1,t,a,u,h,ha,em,d,w=>by
  have ih:= @W0 η m f;unfold ckT at h;rw[show d+(f+1)+1=(d+f+1)+1 from by omega,Instr.checkKey];split at h
  ·rename_i fs cs hu;obtain⟨us,rfl,hl⟩:=ha.agg_inv;simp only[AkJ,AkD hu,AkF];rw[←Array.forIn_toList];clear hu ha;generalize fs.toList=l at*;induction l with
   |nil=>simp
   |cons fd l ihl=>
    unfold ckF at h;cases hn:fd.name== "_"
    ·rw[hn]at h;simp only[cond_false]at h;split at h
     ·rename_i x h1;simp only[Aks]at h;obtain⟨agg,sz,dd,p1,p2,p3,p4,p5,p6⟩:=R5 h1 hl;have q:=ih h.1 p6 em d w;have hn':fd.name≠ "_" :=by simpa using hn
      simp only[List.forIn_cons,hn',ne_eq,not_false_eq_true,if_true,AkJ,LW p1 p2 p3 p4 p5,AkF,q,AkK];exact ihl h.2
     ·cases h
    ·rw[hn]at h; cases h
  ·rename_i e p q hu;split at h
   ·rename_i i he hi;simp only[Aks,Nat.beq_eq,Bool.not_eq_true']at h;obtain⟨us,rfl,hl⟩:=ha.agg_inv;obtain⟨u1,us,rfl,a1,hl⟩:=hl.cons_inv;obtain⟨u2,us,rfl,a2,hl⟩:=hl.cons_inv;have:=hl.nil_inv; subst this;rw[a1.u_inv,a2.u_inv];have hs: ∀w,(sizeOf e).run P w= .ok 1 w:=by rw[←h.1]; exact Cc hi
    have hg: ∀w,(isAgg e).run P w= .ok false w:=by rw[←h.2]; exact KK hi
    have c: ∀(x:UInt64) w,(Instr.checkKey em (d+f+1) e (vU x)).run P w= .ok () w:=fun x w=>by
     rw[Instr.checkKey]; simp[AkD he]
    have p0: ∀w,(part e #[vU p,vU q] 0).run P w= .ok (vU p) w:=fd1 (cs:=[vU p,vU q]) hg hs rfl;have p1: ∀w,(part e #[vU p,vU q] 1).run P w= .ok (vU q) w:=fd1 (cs:=[vU p,vU q]) hg hs rfl;have r2:List.range' 0 2=[0,1]:=rfl;simp only[AkJ,AkD hu,AkF];simp only[Std.Legacy.Range.forIn_eq_forIn_range',Std.Legacy.Range.size,Nat.sub_zero,Nat.add_one_sub_one,Nat.div_one,r2];simp[hs,p0,p1,c]
   ·cases h
  ·rename_i p hu; rw[ha.i_inv]; simp[AkD hu]
  ·rename_i p hu; rw[ha.u_inv]; simp[AkD hu]
  ·rename_i p hu; rw[ha.t_inv]; simp[AkD hu]
  ·rename_i p hu; rw[ha.s_inv]; simp[AkD hu]
  ·cases h
def SL (P:Program)(k:TypeId):Bool:=match P.underlying k with|some (.array _ _)|some (.struct _)=>true|_=>false
theorem Q1 {k:TypeId}(hw:SL P k=true)(x:Value)(es:List MapEntry)(w:World):(Instr.findKey k x es).run P w=(Instr.findAsking k x es).run P w:=by
 unfold SL at hw;cases hu:P.underlying k with
 |none=>simp[hu]at hw
 |some kd=>
  cases es with
  |nil=>simp[Instr.findKey,AkD hu,Instr.findNow,Instr.findAsking]
  |cons e es=>cases kd<;>simp[hu]at hw<;>simp[Instr.findKey,AkD hu,Instr.findNow,Instr.sameNow]
theorem Afa {κ γ:Type}{kf:κ→Value}{vf:γ→Value}{p:κ→Bool}{kt:TypeId}{kk:Value}(hE: ∀x w,(Op.equal kt kk (kf x)).run P w= .ok (p x) w)(w:World):
  ∀(l:List MapEntry) (kv:List (κ×γ)) (i:Nat),l.map (fun e=>(e.key,e.val))=kv.map (fun q=>(kf q.1,vf q.2))→
  (Instr.findAsking kt kk l i).run P w= .ok ((Xd p kv i).map fun q=>(q.1,vf q.2)) w:=by
 intro l;induction l with
 |nil=>intro kv i h; cases kv with
  |nil=>rfl
  |cons p r=>simp at h
 |cons e l ih=>
  intro kv i h;cases kv with
  |nil=>simp at h
  |cons q r=>
   simp only[AkZ,List.cons.injEq,Akt]at h;obtain⟨⟨h1,h2⟩,h3⟩:=h;simp only[Instr.findAsking,AkJ,h1,hE,AkF,Xd];cases hq:p q.1 with
   |true=>simp[h2]
   |false=>simp only[Bool.false_eq_true,if_false,cond_false]; exact ih r (i+1) h3
theorem St.mapV {m:Mem}{w:World}{l:List (Value×Value)}{b:Nat}(hS:St m (mpV b l::As) w): ∃ms c,w.heap[b]? =some (.map ms c)∧ms.toList.map (fun e=>(e.key,e.val))=l∧
  ∀(ms':Array MapEntry) (c':Nat) (w':World),w'.heap=w.heap.setIfInBounds b (.map ms' c')→w'.os=w.os→w'.tape=w.tape→w'.output=w.output→
   St m (mpV b (ms'.toList.map (fun e=>(e.key,e.val)))::As) w':=by
 obtain⟨h1,⟨ms,c,rfl,hk⟩,hg,_,back⟩:=hS.take (i:=0) rfl;have hb:=PH.agree_one.1 hg;have hlt:=(AkM.1 hb).1;refine⟨ms,c,hb,hk,fun ms' c' w' hw h2 h3 h4=> ?_⟩;refine back (mpV b _) (PH.one b (.map ms' c')) w' ⟨ms',c',rfl,rfl⟩ ?_ ?_ ?_ h2 h3 h4 (fun _=> .one R9)
 ·intro k hk; left; simp only[PH.one]at hk⊢;split at hk
  ·rename_i e; simp[e]
  ·exact absurd rfl hk
 ·rw[PH.agree_one,hw]; simp[hlt]
 ·intro k _ hk; simp only[PH.one]at hk;split at hk
  ·cases hk
  ·rename_i e; rw[hw,Array.getElem?_setIfInBounds_ne (by omega)]
theorem eq_run {η:Env}{m:Mem}{t:TypeId}{a b:AV}{u v:Value}{r:Bool}(h:eqT P 9 t a b=some r)(ha:Rel η m a u)(hb:Rel η m b v): ∀w,(Op.equal t u v).run P w= .ok r w:=fun w=>by
 have:=ZN h ha hb (10000-10) w;exact this
def skK (P:Program)(k:TypeId)(a:AV):Bool:=match P.underlying k,a with|some (.int .i64),.d (.i _)=>true|some .string,.d (.s _)=>true|_,_=>false
theorem sk_now {η:Env}{m:Mem}{kt:TypeId}{a b:AV}{u v:Value}{r:Bool}(hs:skK P kt a=true)(h:eqT P 9 kt a b=some r)(ha:Rel η m a u)(hb:Rel η m b v): ∃ud,P.underlying kt=some ud∧Instr.sameNow ud u v=some r:=by
 unfold skK at hs;split at hs
 ·rename_i n hu;refine⟨_,hu,?_⟩;unfold eqT at h;rw[hu]at h;cases b with
  |d d=>
   cases d with
   |i q=>simp only[Akv]at h; rw[ha.i_inv,hb.i_inv,←h]; simp[Instr.sameNow]
   |_=>cases h
  |_=>cases h
 ·rename_i s hu;refine⟨_,hu,?_⟩;unfold eqT at h;rw[hu]at h;cases b with
  |d d=>
   cases d with
   |s q=>
    simp only[Akv]at h;have e1:u= .string s:=by cases ha with|d k=>cases k; rfl
    have e2:v= .string q:=by cases hb with|d k=>cases k; rfl
    rw[e1,e2,←h]; simp[Instr.sameNow,eqS]; cases s; cases q; rfl
   |_=>cases h
  |_=>cases h
 ·cases hs
theorem AbZ {κ γ:Type}{kf:κ→Value}{vf:γ→Value}{p:κ→Bool}{ud:TypeDesc}{kk:Value}(hE: ∀x,Instr.sameNow ud kk (kf x)=some (p x)):
  ∀(l:List MapEntry) (kv:List (κ×γ)) (i:Nat),l.map (fun e=>(e.key,e.val))=kv.map (fun q=>(kf q.1,vf q.2))→
  Instr.findNow ud kk l i=some ((Xd p kv i).map fun q=>(q.1,vf q.2)):=by
 intro l;induction l with
 |nil=>intro kv i h; cases kv with
  |nil=>rfl
  |cons p r=>simp at h
 |cons e l ih=>
  intro kv i h;cases kv with
  |nil=>simp at h
  |cons q r=>
   simp only[AkZ,List.cons.injEq,Akt]at h;obtain⟨⟨h1,h2⟩,h3⟩:=h;simp only[Instr.findNow,h1,hE,Xd];cases hq:p q.1 with
   |true=>simp[h2]
   |false=>simp only[cond_false]; exact ih r (i+1) h3
theorem XT {η:Env}{m:Mem}{κ γ:Type}{K:κ→List D}{vf:γ→Value}{p:κ→Bool}{kt:TypeId}{a:AV}{kk:Value}(hk:(SL P kt||skK P kt a)=true)(ha:Rel η m a kk)(hp: ∀x,eqT P 9 kt a (ZD ((K x).map .d))=some (p x))(hK: ∀x,(K x).all sc=true)
  {l:List MapEntry} {kv:List (κ×γ)} (h:l.map (fun e=>(e.key,e.val))=kv.map (fun q=>(WA ((K q.1).map scV),vf q.2))) (w:World):
  (Instr.findKey kt kk l).run P w= .ok ((Xd p kv 0).map fun q=>(q.1,vf q.2)) w:=by
 have hr: ∀x,Rel η m (ZD ((K x).map .d)) (WA ((K x).map scV)):=fun x=>Ajp (Ag7 (hK x));cases hw:SL P kt with
 |true=>
  rw[Q1 hw];exact Afa (kf:=fun q=>WA ((K q).map scV)) (fun x w=>eq_run (hp x) ha (hr x) w) w l kv 0 h
 |false=>
  rw[hw,Alx]at hk;have hs: ∀x,∃ud,P.underlying kt=some ud∧Instr.sameNow ud kk (WA ((K x).map scV))=some (p x):=fun x=>sk_now hk (hp x) ha (hr x);unfold skK at hk;split at hk
  ·rename_i n hu;have hE: ∀x,Instr.sameNow (.int .i64) kk (WA ((K x).map scV))=some (p x):=fun x=>by
    obtain⟨ud,h1,h2⟩:=hs x;rw[hu]at h1; cases h1; exact h2
   simp only[Instr.findKey,AkJ,AkD hu,AkF,AbZ hE l kv 0 h,AkK]
  ·rename_i n hu;have hE: ∀x,Instr.sameNow .string kk (WA ((K x).map scV))=some (p x):=fun x=>by
    obtain⟨ud,h1,h2⟩:=hs x;rw[hu]at h1; cases h1; exact h2
   simp only[Instr.findKey,AkJ,AkD hu,AkF,AbZ hE l kv 0 h,AkK]
  ·cases hk
theorem Ajq {η:Env}{m:Mem}{ds:List D}{v:Value}(hs:ds.all sc=true)(h:Rel η m (ZD (ds.map .d)) v):v=WA (ds.map scV):=by
 match ds,hs,h with
 | [],_,h=>obtain⟨us,rfl,hl⟩:=h.agg_inv; rw[hl.nil_inv]; rfl
 | [d],hs,h=>
  simp only[Alf,List.all_nil,Bool.and_true]at hs;have h:Rel η m (.d d) v:=h;cases h with
  |d q=>exact Aiw hs q
 |d::d'::l,hs,h=>obtain⟨us,rfl,hl⟩:=h.agg_inv; rw[Ag8 hs hl]; rfl
theorem sb_key {ds:List D}(h:ds.all sc=true)(n:Nat):Instr.sameBits (n+2) (WA (ds.map scV)) (WA (ds.map scV))=true:=by
 match ds,h with
 | [],h=>exact Aha h n
 | [d],h=>simp only[Alf,List.all_nil,Bool.and_true]at h; exact sb_sc h (n+1)
 |d::d'::l,h=>exact Aha h n
structure MG:Type 1 where
 κ:Type
 γ:Type
 K:κ→List D
 c:γ→D
 kv:List (κ×γ)
theorem gmkg {cf:Cf}(κ γ:Type)(K:κ→List D)(c:γ→D)(g:Go ρ P N D0 Q As η0 m0 (push N (aC P N cf) ⟨.ow (aC P N cf).s.nx,[],[],[((aC P N cf).s.nx,.hp (aC P N cf).s.nx (.mg κ γ K c []))],(aC P N cf).s.nx+1,[]⟩))
  (e:(mkmK (aC P N cf),(aL P N cf))=(true,(aR P N cf)):=by kernel_rfl) (hm:P.follows .mixedOrders=true:=by rfl):Go ρ P N D0 Q As η0 m0 cf:=by
 simp only[Akt]at e;obtain⟨e1,e3⟩:=e;obtain⟨he1,-⟩:=KB e3;refine AP hm he1 ?_;generalize aC P N cf=c0 at*;unfold mkmK at e1;split at e1
 ·rename_i a ha;split at e1
  ·rename_i t hg hop;have hgd:=BG ha hg;refine DC ha hg ?_ Oy g;obtain⟨l,⟨dst,op,ty,pos,af,gd⟩,gg,sl,es⟩:=a;simp only at hop hgd⊢; subst hop hgd;refine⟨Ale _,fun rest Q η m f w As hr hz hn S hk=> ?_⟩;refine Wb S fun b w' S'=> ?_;have h0:=hn c0.s.nx (AkC _) (AkO _);refine hk (η.put c0.s.nx (.map (some b))) m w' _ (Env.le_put h0) (Mem.rfl' m) (fun n q=> ?_) (.ow Env.put_self rfl) (St.closeHp (q:= .mg κ γ K c []) (b:=b) Env.put_self S');rcases Env.put_dom q with q|q
   ·exact .inl q
   ·subst q; exact .inr ⟨AkC _,AkO _⟩
  ·cases e1
 ·cases e1
def lkgK (P:Program)(cf:Cf):Option (MG×AV×TypeId×TypeId×Bool):=
 match Gt cf with
 |some a=>match a.o.op with
  | .lookup t x y ok=>match P.underlying t,aev a.sl x with
   |some (.map kt et),.ow n=>match AaI cf.s.ob n with
    |some (_,.mg κ γ K c kv)=>some (⟨κ,γ,K,c,kv⟩,aev a.sl y,kt,et,ok)
    |_=>none
   |_,_=>none
  |_=>none
 |none=>none
def lkgT (P:Program)(cf:Cf):List Tok:=
 match Gt cf with
 |some a=>match a.o.op with
  | .lookup t x y ok=>match aev a.sl x with
   | .ow n=>match AaI cf.s.ob n with
    |some (i,q)=> [(i,.hp n q)]
    |_=> []
   |_=> []
  |_=> []
 |none=> []
def zOk (P:Program)(et:TypeId)(d:D):Bool:=
 match JK P et with
 |some i=>match i.z,d with
  |some (.bool b),.t p=> !p&& !b
  |some (.int .i64 k),.i n=>k==n
  |_,_=>false
 |none=>false
theorem zOk_ok {et:TypeId}{d:D}(h:zOk P et d=true): ∀w,(zeroValue et).run P w= .ok (scV d) w:=by
 unfold zOk at h;split at h
 ·rename_i i hi;split at h
  ·rename_i b p hz;simp only[Aks,Bool.not_eq_true']at h;obtain⟨rfl,rfl⟩:=h;exact O6 hi hz
  ·rename_i k n hz;have:=eq_of_beq h; subst this;exact O6 hi hz
  ·cases h
 ·cases h
def ansG {γ:Type}(c:γ→D)(z:γ)(r:Option γ)(ok:Bool):AV:=bif ok then .tup [.d (c (r.getD z)),.d (.t r.isSome)]else .d (c (r.getD z))
theorem glkg {cf:Cf}{κ γ:Type}{K:κ→List D}{c:γ→D}(kv:List (κ×γ))(k:κ)(p:κ→Bool)(z:γ)(kt et:TypeId)(ok:Bool)(hp:(fun x=>eqT P 9 kt (ZD ((K k).map .d)) (ZD ((K x).map .d)))=fun x=>some (p x))(hK:(fun x=>(K x).all sc)=fun _=>true)(hc:(fun x=>sc (c x))=fun _=>true)(hk:((SL P kt||skK P kt (ZD ((K k).map .d)))&&(ckT P 9 kt (ZD ((K k).map .d))&&zOk P et (c z)))=true)(g:Go ρ P N D0 Q As η0 m0 (CK N (aC P N cf) (ansG c z (lkG p kv) ok) (lkgT P (aC P N cf))))
  (e:(lkgK P (aC P N cf),(aL P N cf))=(some (⟨κ,γ,K,c,kv⟩,ZD ((K k).map .d),kt,et,ok),(aR P N cf)):=by kernel_rfl) (hm:P.follows .mixedOrders=true:=by rfl):Go ρ P N D0 Q As η0 m0 cf:=by
 simp only[Akt]at e;obtain⟨e1,e3⟩:=e;obtain⟨he1,he2⟩:=KB e3;refine AP hm he1 ?_;generalize aC P N cf=c0 at*;unfold lkgK at e1;split at e1
 ·rename_i a ha;rw[DD ha]at he2;split at e1
  ·rename_i t x y ok' hop;split at e1
   ·rename_i kt' et' nn hu hx;split at e1
    ·rename_i i κ' γ' K' c' kv' hh;simp only[Akv,Akt]at e1;obtain⟨e4,hy,rfl,rfl,rfl⟩:=e1;cases e4;have hT:lkgT P c0=[(i,.hp nn (.mg κ γ K c kv))]:=by unfold lkgT; rw[ha]; simp only[hop,hx,hh]
     rw[hT]at g;simp only[Aks]at hk;obtain⟨k1,k2,k3⟩:=hk;refine DB ha he2 (Zf (La hh)) (fun hgp=> ?_) g;obtain⟨l,⟨dst,op',ty,pos,af,gd⟩,gg,sl,es⟩:=a;simp only at hop hx hy⊢; subst hop;refine⟨AkC _,fun rest Q η m f w As hr hz hn S hkk=> ?_⟩;have rx:=Am hr x;rw[hx]at rx;obtain⟨ex,_⟩:=rx.ow_inv;have ry:=Am hr y;rw[hy]at ry;have S0:St m (rep η m (.hp nn (.mg κ γ K c kv))::As) w:=S;obtain⟨b,hb,S1⟩:=St.openHp S0;rw[ex]at hb;have hxv:ev f x= .map (some b):=Akr hb;obtain⟨ms,cl,hbm,hms,_⟩:=St.mapV (l:=kv.map fun p=>(WA ((K p.1).map scV),scV (c p.2))) S1;have hf:(Instr.findKey kt' (ev f y) ms.toList).run P w= .ok ((Xd p kv 0).map fun q=>(q.1,scV (c q.2))) w:=XT (vf:=fun v=>scV (c v)) k1 ry (congrFun hp) (congrFun hK) hms w;have hck:(Instr.checkKey ms.isEmpty 10000 kt' (ev f y)).run P w= .ok () w:=W0 k2 ry ms.isEmpty 9990 w;have hrun:(Instr.lookup t (ev f x) (ev f y) ok').run P w= .ok (bif ok' then .tuple #[scV (c ((lkG p kv).getD z)),.bool (lkG p kv).isSome]else scV (c ((lkG p kv).getD z))) w:=by
      simp only[hxv,Instr.lookup,AkJ,AkD hu,AkF,MapKept.run_getObj_map hbm,AkK,hck,hf];rw[←Zy (i:=0)];cases Xd p kv 0 with
      |none=>cases ok'<;>simp[zOk_ok k3]
      |some q=>cases ok'<;>simp
     refine Aq (v:=bif ok' then .tuple #[scV (c ((lkG p kv).getD z)),.bool (lkG p kv).isSome]else scV (c ((lkG p kv).getD z))) (w':=w) rfl (fun _ e=>by cases e) (by simp only[execOp,AkJ,hrun,AkF,AkK]) ?_;refine hkk η m w _ Env.le_refl (Mem.rfl' m) (fun n h=> .inl h) ?_ (St.closeHp (by rw[ex,hxv]; rfl) S1);have rc: ∀v,Rel η m (.d (c v)) (scV (c v)):=fun v=> .d (AbS (congrFun hc v));cases ok'
     ·exact rc _
     ·exact .tup (vs:=[_,_]) rfl (BP.cons (rc _) (BP.cons (.d (.t _)) BP.nil)).2
    ·cases e1
   ·cases e1
  ·cases e1
 ·cases e1
def upgK (P:Program)(cf:Cf):Option (MG×AV×AV×TypeId):=
 match Gt cf with
 |some a=>match a.g,a.o.op with
  |none,.mapUpdate t x y v=>match P.underlying t,aev a.sl x with
   |some (.map kt et),.ow n=>match AaI cf.s.ob n with
    |some (_,.mg κ γ K c kv)=>some (⟨κ,γ,K,c,kv⟩,aev a.sl y,aev a.sl v,kt)
    |_=>none
   |_,_=>none
  |_,_=>none
 |none=>none
def upgS {κ γ:Type}(K:κ→List D)(c:γ→D)(kv:List (κ×γ))(cf:Cf):Stp:=
 match Gt cf with
 |some a=>match a.o.op with
  | .mapUpdate t x y v=>match aev a.sl x with
   | .ow n=>match AaI cf.s.ob n with
    |some (i,q)=>⟨.no,[],[(i,.hp n q)],[(cf.s.nx,.hp n (.mg κ γ K c kv))],cf.s.nx+1,[]⟩
    |_=>⟨.any,[],[],[],cf.s.nx,[]⟩
   |_=>⟨.any,[],[],[],cf.s.nx,[]⟩
  |_=>⟨.any,[],[],[],cf.s.nx,[]⟩
 |none=>⟨.any,[],[],[],cf.s.nx,[]⟩
theorem gupg {cf:Cf}{κ γ:Type}{K:κ→List D}{c:γ→D}(kv:List (κ×γ))(k:κ)(v:γ)(p:κ→Bool)(kt:TypeId)(hi: ∀x,p x=true→x=k)(hp:(fun x=>eqT P 9 kt (ZD ((K k).map .d)) (ZD ((K x).map .d)))=fun x=>some (p x))(hK:(fun x=>(K x).all sc)=fun _=>true)(hc:(fun x=>sc (c x))=fun _=>true)(hk:((SL P kt||skK P kt (ZD ((K k).map .d)))&&ckT P 9 kt (ZD ((K k).map .d)))=true)(g:Go ρ P N D0 Q As η0 m0 (push N (aC P N cf) (upgS K c (upG p (k,v) kv) (aC P N cf))))
  (e:(upgK P (aC P N cf),(aL P N cf))=(some (⟨κ,γ,K,c,kv⟩,ZD ((K k).map .d),.d (c v),kt),(aR P N cf)):=by kernel_rfl) (hm:P.follows .mixedOrders=true:=by rfl):Go ρ P N D0 Q As η0 m0 cf:=by
 simp only[Akt]at e;obtain⟨e1,e3⟩:=e;obtain⟨he1,-⟩:=KB e3;refine AP hm he1 ?_;generalize aC P N cf=c0 at*;unfold upgK at e1;split at e1
 ·rename_i a ha;split at e1
  ·rename_i t x y vv hg hop;split at e1
   ·rename_i kt' et' nn hu hx;split at e1
    ·rename_i i κ' γ' K' c' kv' hh;simp only[Akv,Akt]at e1;obtain⟨e4,hy,hv,rfl⟩:=e1;cases e4;have hT:upgS K c (upG p (k,v) kv) c0=⟨.no,[],[(i,.hp nn (.mg κ γ K c kv))],[(c0.s.nx,.hp nn (.mg κ γ K c (upG p (k,v) kv)))],c0.s.nx+1,[]⟩:=by unfold upgS; rw[ha]; simp only[hop,hx,hh]
     rw[hT]at g;simp only[Aks]at hk;obtain⟨k1,k2⟩:=hk;have hgd:=BG ha hg;refine DC ha hg ?_ (NO (La hh)) g;obtain⟨l,⟨dst,op',ty,pos,af,gd⟩,gg,sl,es⟩:=a;simp only at hop hx hy hv hgd⊢; subst hop hgd;refine⟨Ale _,fun rest Q η m f w As hr hz hn' S hkk=> ?_⟩;have rx:=Am hr x;rw[hx]at rx;obtain⟨ex,_⟩:=rx.ow_inv;have ry:=Am hr y;rw[hy]at ry;have rv:=Am hr vv;rw[hv]at rv;have S0:St m (rep η m (.hp nn (.mg κ γ K c kv))::As) w:=S;obtain⟨b,hb,S1⟩:=St.openHp S0;rw[ex]at hb;have hxv:ev f x= .map (some b):=Akr hb;obtain⟨ms,cl,hbm,hms,back⟩:=St.mapV (l:=kv.map fun p=>(WA ((K p.1).map scV),scV (c p.2))) S1;have hf:(Instr.findKey kt' (ev f y) ms.toList).run P w= .ok ((Xd p kv 0).map fun q=>(q.1,scV (c q.2))) w:=XT (vf:=fun v=>scV (c v)) k1 ry (congrFun hp) (congrFun hK) hms w;have hck:(Instr.checkKey false 10000 kt' (ev f y)).run P w= .ok () w:=W0 k2 ry false 9990 w;have hys:ev f y=WA ((K k).map scV):=Ajq (congrFun hK k) ry;have hvs:ev f vv=scV (c v):=by cases rv with|d q=>exact Aiw (congrFun hc v) q
     cases hq:Xd p kv 0 with
     |none=>
      rw[hq]at hf;have S2:=back (ms.push {key:=ev f y,val:=ev f vv,born:=cl}) (cl+1) {w with heap:=w.heap.setIfInBounds b (.map (ms.push {key:=ev f y,val:=ev f vv,born:=cl}) (cl+1))} rfl rfl rfl rfl;have hl:(ms.push {key:=ev f y,val:=ev f vv,born:=cl}).toList.map (fun e=>(e.key,e.val))=(upG p (k,v) kv).map fun p=>(WA ((K p.1).map scV),scV (c p.2)):=by
       rw[Wu hq]; simp[hms,hys,hvs]
      rw[hl]at S2;refine Lh (w':={w with heap:=w.heap.setIfInBounds b (.map (ms.push {key:=ev f y,val:=ev f vv,born:=cl}) (cl+1))}) rfl (fun _ e=>by cases e) ?_ (hkk η m _ _ Env.le_refl (Mem.rfl' m) (fun n h=> .inl h) .no (St.closeHp (q:= .mg κ γ K c (upG p (k,v) kv)) (b:=b) (by rw[ex,hxv]; rfl) S2)) (Kd.set hbm R9 rfl);simp only[execOp,hxv,Instr.mapUpdate,AkJ,AkD hu,AkF,MapKept.run_getObj_map hbm,hck,hf,Option.map_none,MapKept.run_setObj_map _ hbm,AkK]
     |some r=>
      obtain⟨j,v0⟩:=r;rw[hq]at hf;obtain⟨j',y0,rfl,h2,h3,h4,h5⟩:=Wt hq;rw[Ak9]at hf;have hk0:=hi _ h3;have hgetm:(ms.toList.map (fun e=>(e.key,e.val)))[j']? =some (WA ((K k).map scV),scV (c y0.2)):=by rw[hms,AkP,h2]; simp[hk0]
      rw[AkP]at hgetm;obtain⟨en,hen,hen2⟩:=Akx.1 hgetm;simp only[Akt]at hen2;have hen':ms[j']? =some en:=by rw[←Array.getElem?_toList]; exact hen
      have hst:(Instr.keyThatStays (((ms[j']?).map (·.key)).getD (ev f y)) (ev f y)).run P w= .ok (ev f y) w:=by
       rw[hen'];simp only[AkL,Option.getD_some,Instr.keyThatStays,hen2.1,hys,sb_key (congrFun hK k) 9998,if_true,AkK]
      have S2:=back (ms.modify j' fun e=>{e with key:=ev f y,val:=ev f vv}) cl {w with heap:=w.heap.setIfInBounds b (.map (ms.modify j' fun e=>{e with key:=ev f y,val:=ev f vv}) cl)} rfl rfl rfl rfl;have hl:(ms.modify j' fun e=>{e with key:=ev f y,val:=ev f vv}).toList.map (fun e=>(e.key,e.val))=(upG p (k,v) kv).map fun p=>(WA ((K p.1).map scV),scV (c p.2)):=by
       rw[h5,Array.toList_modify,List.map_set,←hms];refine List.ext_getElem? fun i=> ?_;simp only[AkP,List.getElem?_modify,List.getElem?_set,AkW];have hlt:=(AkR.1 hen).1;split
       ·rename_i hij; subst hij;simp[hen,hlt,hys,hvs]
       ·rename_i hij; simp
      rw[hl]at S2;refine Lh (w':={w with heap:=w.heap.setIfInBounds b (.map (ms.modify j' fun e=>{e with key:=ev f y,val:=ev f vv}) cl)}) rfl (fun _ e=>by cases e) ?_ (hkk η m _ _ Env.le_refl (Mem.rfl' m) (fun n h=> .inl h) .no (St.closeHp (q:= .mg κ γ K c (upG p (k,v) kv)) (b:=b) (by rw[ex,hxv]; rfl) S2)) (Kd.set hbm R9 rfl);simp only[execOp,hxv,Instr.mapUpdate,AkJ,AkD hu,AkF,MapKept.run_getObj_map hbm,hck,hf,AkL,hst,MapKept.run_setObj_map _ hbm,AkK]
    ·cases e1
   ·cases e1
  ·cases e1
 ·cases e1
abbrev eqI (a b:Int):Bool:=a==b
theorem inj_i {a:Int}: ∀x,(a==x)=true→x=a:=fun x h=>(eq_of_beq h).symm
end
theorem YT {A:Ow}{h:PH}(a:A h):sepL [A] h:=⟨h,PH.emp,a,rfl,PH.disj_emp h,(PH.join_emp h).symm⟩
theorem AbQ {A:Ow}{h:PH}(s:sepL [A] h):A h:=by
 obtain⟨h1,h2,a,e,d,j⟩:=s;have e':h2=PH.emp:=e;subst e';rw[PH.join_emp]at j;subst j;exact a
theorem Nb {Bs:List Ow}: ∀{L:List Ow} {h:PH},sepL (L++Bs) h→∃h1 h2,sepL L h1∧sepL Bs h2∧h1.disj h2∧h=h1.join h2
 | [],h,s=>⟨PH.emp,h,rfl,s,PH.disj_symm (PH.disj_emp h),(PH.emp_join h).symm⟩
 |A::L,h,⟨h1,h2,a,s,d,e⟩=>by
  obtain⟨k1,k2,s1,s2,d2,rfl⟩:=Nb (L:=L) s;have dd:=PH.disj_join.1 d;exact⟨h1.join k1,k2,⟨h1,k1,a,s1,dd.1,rfl⟩,s2,PH.join_disj.2 ⟨dd.2,d2⟩,by rw[e,PH.join_assoc]⟩
theorem O8 {Bs:List Ow}: ∀{L:List Ow} {h1 h2:PH},sepL L h1→sepL Bs h2→h1.disj h2→sepL (L++Bs) (h1.join h2)
 | [],h1,h2,e,s,d=>by
  have e':h1=PH.emp:=e;subst e';rw[PH.emp_join]; exact s
 |A::L,_,h2,⟨k1,k2,a,s1,d1,e⟩,s,d=>by
  subst e;have dd:=PH.join_disj.1 d;exact⟨k1,k2.join h2,a,O8 s1 s dd.2,PH.disj_join.2 ⟨d1,dd.1⟩,by rw[PH.join_assoc]⟩
def hkC {σ:Type}(R:σ→Mem→Ow)(s:σ)(m:Mem):Ow:=fun h=> ∃m0,m0≤m∧R s m0 h
def Aab (P:Program)(g:Value){σ α:Type}(A:α→List AV)(R:σ→Mem→Ow)(p:σ→α→Option (Bool×σ)):Prop:= ∀s x r,p s x=some r→∀(m:Mem) (vs:List Value) (As:List Ow) (w:World),BP none0 m (A x) vs→St m (hkC R s m::As) w→Qt P g vs w fun v w'=> ∃M,v=vb r.1∧m≤M∧St M (hkC R r.2 M::As) w'
def cbK (cf:Cf)(ea:List AV):Option (Nat×Nat×HK×List AV):=
 match Gt cf with
 |some a=>match a.g,a.o.op with
  |none,.call c=>match c.callee with
   | .value x=>match aev a.sl x with
    | .ow n=>match AaI cf.s.ob n with
     |some (i,q)=>some (i,n,q,Ah9 cf.s.fz ea (c.args.toList.map (aev a.sl)))
     |none=>none
    |_=>none
   |_=>none
  |_,_=>none
 |none=>none
def cbS (cf:Cf)(ea:List AV)(q:HK)(v:AV):Stp:=match cbK cf ea with|some (i,n,q0,_)=>⟨v,[],[(i,.hp n q0)],[(cf.s.nx,.hp n q)],cf.s.nx+1,[]⟩|none=>⟨.no,[],[],[],0,[]⟩
section
variable {ρ:Option Nat}{P:Program}{N:Nat}{D0:Dw}{Q:DJ}{As:List Ow}{η0:Env}{m0:Mem}
theorem gcb {cf:Cf}{σ α:Type}{A:α→List AV}{g:Value}{R:σ→Mem→Ow}{p:σ→α→Option (Bool×σ)}{s:σ}{r:Bool×σ}(x:α)(hg:Aab P g A R p)(hp:p s x=some r)(gg:Go ρ P N D0 Q As η0 m0 (push N (aC P N cf) (cbS (aC P N cf) (A x) (.cb g σ R r.2) (.d (.t r.1)))))
  (e:((cbK (aC P N cf) (A x)).map (fun q=>(q.2.2.1,q.2.2.2)),(A x).all (okA 0),(aL P N cf))=(some (.cb g σ R s,A x),true,(aR P N cf)):=by kernel_rfl) (hm:P.follows .mixedOrders=true:=by rfl):Go ρ P N D0 Q As η0 m0 cf:=by
 simp only[Akt]at e;obtain⟨e1,e2,e3⟩:=e;obtain⟨he1,-⟩:=KB e3;refine AP hm he1 ?_;generalize aC P N cf=c0 at*;cases hq:cbK c0 (A x)with
 |none=>rw[hq]at e1; cases e1
 |some t=>
  obtain⟨i,nn,q0,asg⟩:=t;have hT:cbS c0 (A x) (.cb g σ R r.2) (.d (.t r.1))=⟨.d (.t r.1),[],[(i,.hp nn q0)],[(c0.s.nx,.hp nn (.cb g σ R r.2))],c0.s.nx+1,[]⟩:=by unfold cbS; rw[hq]
  rw[hT]at gg;rw[hq]at e1;simp only[AkL,Akv,Akt]at e1;obtain⟨e4,e5⟩:=e1;subst e4;unfold cbK at hq;split at hq
  ·rename_i a ha;split at hq
   ·rename_i c hgd0 hop;split at hq
    ·rename_i xo hce;split at hq
     ·rename_i n2 hx;split at hq
      ·rename_i i2 q2 hh;simp only[Akv,Akt]at hq;obtain⟨rfl,rfl,rfl,rfl⟩:=hq;have hgd:=BG ha hgd0;refine DC ha hgd0 ?_ (NO (La hh)) gg;obtain⟨l,⟨dst,op',ty,pos,af,gd⟩,gg',sl,es⟩:=a;simp only at hop hx hgd e5⊢; subst hop hgd;obtain⟨ce,⟨xs⟩,ts⟩:=c;simp only at hce e5; subst hce;refine⟨Ale _,fun rest Q η m f w As hr hz hn' S hk=> ?_⟩;have rx:=Am hr xo;rw[hx]at rx;obtain⟨ex,_⟩:=rx.ow_inv;have S0:St m (rep η m (.hp n2 (.cb g σ R s))::As) w:=S;obtain⟨b,hb,S1⟩:=St.openHp S0;rw[ex]at hb;have hxv:ev f xo=g:=Akr hb;have ra:=ON (es:=A x) hz (BP.map_aev hr xs);rw[e5]at ra;refine UJ hxv (hg s x r hp m _ As w (P8 (n:=0) (fun k hk=>absurd hk (Nat.not_lt_zero k)) e2 ra) S1) rfl ?_;rintro v w2 ⟨M,rfl,lM,S2⟩;exact hk η M w2 _ Env.le_refl lM (fun n h=> .inl h) (.d (.t _)) (St.closeHp (q:= .cb g σ R r.2) (b:=b) (by rw[ex,hxv]; rfl) S2)
      ·cases hq
     ·cases hq
    ·cases hq
   ·cases hq
  ·cases hq
end
def rgK (cf:Cf):Option (Nat×List Nat):=match cf.md with| .code (.rangeFunc (.tmp g) ps _ _)=>some (g,ps.toList)|_=>none
def asgC (cf:Cf)(s:AS)(J:Fr→World→Prop):Cf:=match cf.md with| .code (.rangeFunc _ _ a _)=>⟨s,.code a,[.ctn J]⟩|_=>cf
def bodC (cf:Cf)(s:AS)(J:Fr→World→Prop):Cf:=match cf.md with| .code (.rangeFunc _ _ _ b)=>⟨s,.code b,[.ctn J]⟩|_=>cf
def slz (N:Nat):Sl→List Nat→List AV→Sl
 |sl,t::ts,a::asg=>slz N (setS N sl (some t) a) ts asg
 |sl,_,_=>sl
def retQ (J:Fr→World→Prop):DJ
 | .ret,f,w=>J f w
 |_,_,_=>False
def isL {ι κ:Type}:ι⊕κ→Bool
 | .inl _=>true
 | .inr _=>false
def XN {ι κ α:Type}(p:ι→α→Option (ι⊕κ)):(ι⊕κ)→α→Option (Bool×(ι⊕κ))
 | .inl x,a=>(p x a).map fun r=>(isL r,r)
 | .inr _,_=>none
theorem AbH {η:Env}{m:Mem}{N:Nat}: ∀{ts:List Nat} {asg:List AV} {vs:List Value} {sl:Sl} {f:Fr},(∀t,Rel η m (get sl t) (f t))→BP η m asg vs→ts.length=asg.length→∀t,Rel η m (get (slz N sl ts asg) t) (upz N f ts vs t)
 | [],asg,vs,sl,f,h,_,_=>by
  intro t;show Rel η m (get (slz N sl [] asg) t) (upz N f [] vs t);have e1:slz N sl [] asg=sl:=by cases asg<;>rfl
  have e2:upz N f [] vs=f:=by cases vs<;>rfl
  rw[e1,e2]; exact h t
 |t0::ts,[],vs,sl,f,h,_,hl=>by simp at hl
 |t0::ts,a::asg,vs,sl,f,h,hv,hl=>by
  obtain⟨v,us,rfl,h1,h2⟩:=hv.cons_inv;intro t;exact AbH (f:=up N f t0 v) (fun t=>Ro (N:=N) (d:=some t0) h h1 t) h2 (by simpa using hl) t
theorem Adr {n:Nat}: ∀{sl:Sl},(sl.map (·.2)).all (okA n)=true→∀t,okA n (get sl t)=true
 | [],_,_=>rfl
 |p::l,h,t=>by
  simp only[AkZ,Alf,Aks]at h;show okA n (bif Nat.beq p.1 t then p.2 else get l t)=true;cases Nat.beq p.1 t
  ·exact Adr h.2 t
  ·exact h.1
def rgOb {ι κ:Type}(oJ:ι→List Tok)(oK:κ→List Tok):ι⊕κ→List Tok
 | .inl x=>oJ x
 | .inr y=>oK y
def rgSt {ι κ:Type}:ι⊕κ→LoopState×Option Code
 | .inl _=>(.ready,none)
 | .inr _=>(.done,some .ret)
def rgR {ι κ:Type}(l:Nat)(i:Th)(oJ:ι→List Tok)(oK:κ→List Tok)(As:List Ow)(ηc:Env)(m1:Mem)(nx:Nat):(ι⊕κ)→Mem→Ow:=fun q M h=> ∃η',ηc.le η'∧m1≤M∧(∀n,η' n≠none→n<nx)∧sepL (Lp l i (rgSt q).1 (rgSt q).2::(reps η' M (rgOb oJ oK q)++As)) h
theorem perm_mid {A:Ow}{X Y:List Ow}:(X++A::Y).Perm (A::(X++Y)):=Alj
section
variable {P:Program}{N:Nat}{D0:Dw}{Q:DJ}{As:List Ow}{η0:Env}{m0:Mem}
theorem rg_cb {n1 nx:Nat}{l:Nat}{i:Th}{ι κ α:Type}{ps:List Nat}{sl0:Sl}{oJ:ι→List Tok}{oK:κ→List Tok}{A:α→List AV}{sB:ι→α→AS}{p:ι→α→Option (ι⊕κ)}{f:Fr}{asg bo:Code}{ηc:Env}{m1:Mem}
  (hi:i.Ok N f ps asg bo) (hdc: ∀n,ηc n≠none→n<n1) (hsl: ∀t,Rel ηc m1 (get sl0 t) (f t)) (hAl: ∀a,ps.length=(A a).length)
  (hJ: ∀x,(Xc (tids (oJ x))&&Ws nx (tids (oJ x)))=true)
  (hA: ∀x a s',p x a=some s'→∀l D0 As η0 m0,(∀n,η0 n≠none→n<n1)→Go (some l) P N D0 (retQ fun _ _=>False) As η0 m0 ⟨⟨slz N sl0 ps (A a),oJ x,[],nx⟩,.code asg,[.ctn (Rl As η0 m0 (fun _:Unit=>sB x a) fun _=>True)]⟩)
  (hB: ∀x a s',p x a=some s'→∀l D0 As η0 m0,(∀n,η0 n≠none→n<n1)→Go (some l) P N D0 (retQ (Rl As η0 m0 (fun y=>⟨sl0,oK y,[],nx⟩) fun y=>s'= .inr y)) As η0 m0
   ⟨sB x a,.code bo,[.ctn (Rl As η0 m0 (fun y=>⟨sl0,oJ y,[],nx⟩) fun y=>s'= .inl y)]⟩):
  Aab P (.func (.yield l) #[] #[]) A (rgR l i oJ oK As ηc m1 nx) (XN p):=by
 rintro s x r hp m vs Bs w hv S;cases s with
 |inr y=>cases hp
 |inl x'=>
  obtain⟨s',hs',rfl⟩:=Akx.1 (show(p x' x).map (fun r=>(isL r,r))=some r from hp);obtain⟨h,⟨h1,h2,⟨m2,lm,η2,c1,c2,c3,c4⟩,hb,d,ej⟩,hr⟩:=S.own;have S1:St m (Lp l i .ready none::(reps η2 m2 (oJ x')++(As++Bs))) w:=by
   refine⟨S.os,S.tape,S.output,h,?_,hr⟩;have:=O8 c4 hb d;rw[←ej]at this;have e:Lp l i .ready none::(reps η2 m2 (oJ x')++(As++Bs))=(Lp l i .ready none::(reps η2 m2 (oJ x')++As))++Bs:=by simp
   rw[e]; exact this
  have S2:St m (reps η2 m (oJ x')++(Lp l i .ready none::(As++Bs))) w:=St.ru Env.le_refl lm (S1.perm perm_mid.symm);have lm1:m1≤m:=Mem.tr c2 lm;have hj:=hJ x';simp only[Aks]at hj;have gA:Gm (Lp l i .ready none::(As++Bs)) ⟨slz N sl0 ps (A x),oJ x',[],nx⟩ η2 m (upz N f ps vs) w:=
   ⟨AbH (fun t=>(hsl t).up c1 lm1) (hv.up (fun n v e=>by cases e) (Mem.rfl' m)) (hAl x),fun n d h=>(by cases h),c3,S2,E1 hj.1,fun t ht=>Pw hj.2 t ht⟩
  refine Qt.round hi (by rw[hAl x]; exact hv.1.symm) (S2.perm perm_mid) ?_;refine FI (fun ex f1 w1 q=> ?_) (hA x' x s' hs' l (w,[],false) (Lp l i .ready none::(As++Bs)) ηc m hdc η2 m _ w c1 (Mem.rfl' m) gA);cases ex with
  |normal=>
   obtain⟨_,_,η3,m3,b1,b2,gB⟩:=q;refine⟨m3,reps η3 m3 (sB x' x).ob++(As++Bs),gB.st.perm perm_mid,fun w2 T2=> ?_⟩;have gB':Gm (Lp l i .busy none::(As++Bs)) (sB x' x) η3 m3 f1 w2:=⟨gB.slr,gB.fz,gB.dom,T2.perm perm_mid.symm,gB.wf⟩;refine FI (fun ex f4 w4 q=> ?_) (hB x' x s' hs' l (w,[],false) (Lp l i .busy none::(As++Bs)) ηc m hdc η3 m3 f1 w2 b1 b2 gB');cases ex with
   |normal=>
    obtain⟨y,hy,η4,m4,d1,d2,g4⟩:=q;refine⟨m4,reps η4 m4 (oJ y)++(As++Bs),g4.st.perm perm_mid,fun w' S'=>⟨m4,by rw[hy]; rfl,d2,?_⟩⟩;obtain⟨h',hx,hr'⟩:=S'.own;have e:Lp l i .ready none::(reps η4 m4 (oJ y)++(As++Bs))=(Lp l i .ready none::(reps η4 m4 (oJ y)++As))++Bs:=by simp
    rw[e]at hx;obtain⟨k1,k2,s1,s2,dd,rfl⟩:=Nb hx;exact⟨S'.os,S'.tape,S'.output,_,⟨k1,k2,⟨m4,Mem.rfl' m4,η4,d1,Mem.tr lm1 d2,g4.dom,by rw[hy]; exact s1⟩,s2,dd,rfl⟩,hr'⟩
   |ret=>
    obtain⟨y,hy,η4,m4,d1,d2,g4⟩:=q;refine⟨m4,reps η4 m4 (oK y)++(As++Bs),g4.st.perm perm_mid,fun w' S'=>⟨m4,by rw[hy]; rfl,d2,?_⟩⟩;obtain⟨h',hx,hr'⟩:=S'.own;have e:Lp l i .done (some .ret)::(reps η4 m4 (oK y)++(As++Bs))=(Lp l i .done (some .ret)::(reps η4 m4 (oK y)++As))++Bs:=by simp
    rw[e]at hx;obtain⟨k1,k2,s1,s2,dd,rfl⟩:=Nb hx;exact⟨S'.os,S'.tape,S'.output,_,⟨k1,k2,⟨m4,Mem.rfl' m4,η4,d1,Mem.tr lm1 d2,g4.dom,by rw[hy]; exact s1⟩,s2,dd,rfl⟩,hr'⟩
   |exit id=>exact q.elim
   |goto l=>exact q.elim
   |panic ch=>exact q.elim
   |outgrown=>exact q.elim
  |exit id=>exact q.elim
  |goto l=>exact q.elim
  |ret=>exact q.elim
  |panic ch=>exact q.elim
  |outgrown=>exact q.elim
end
def clipK (P:Program)(cf:Cf):Option (D×Int×Int):=
 match Gt cf with
 |some a=>match a.o.op with
  | .slice t x none (some h) (some k)=>match P.underlying t,aev a.sl x,OK a.sl h,OK a.sl k with
   |some (.slice el),.d d,some (_,i),some (_,j)=>match JK P el with
    |some _=>some (d,i,j)
    |none=>none
   |_,_,_,_=>none
  |_=>none
 |none=>none
section
variable {ρ:Option Nat}{P:Program}{N:Nat}{D0:Dw}{Q:DJ}{As:List Ow}{η0:Env}{m0:Mem}
theorem gclip {k:Nat}{cf:Cf}{α:Type}{E:α→List D}{xs:List α}(hE: ∀x,(E x).length=k)(g:Go ρ P N D0 Q As η0 m0 (CK N (aC P N cf) (.d (.kp α E xs)) []))
  (e:(clipK P (aC P N cf),(aL P N cf))=(some (.sl α E xs,(xs.length:Int),(xs.length:Int)),(aR P N cf)):=by kernel_rfl) (hm:P.follows .mixedOrders=true:=by rfl):Go ρ P N D0 Q As η0 m0 cf:=by
 simp only[Akt]at e;obtain⟨e1,e3⟩:=e;obtain⟨he1,he2⟩:=KB e3;refine AP hm he1 ?_;generalize aC P N cf=c0 at*;unfold clipK at e1;split at e1
 ·rename_i a ha;rw[DD ha]at he2;split at e1
  ·rename_i t xo ho ko hop;split at e1
   ·rename_i el d i1 i i2 j hu hx hi hj;split at e1
    case h_2=>cases e1
    rename_i inf hinf;simp only[Akv,Akt]at e1;obtain⟨rfl,rfl,rfl⟩:=e1;refine DB (rd:=[]) ha he2 Ob (fun hp=> ?_) g;obtain⟨ll,⟨dst,op',ty,pos,af,gd⟩,gg,sl,es⟩:=a;simp only at hop hx hi hj⊢; subst hop;refine⟨AkC _,fun rest Q η m f w As hr hz hn S hk=> ?_⟩;have rx:=Am hr xo;rw[hx]at rx;have fx:=rx.dd;have ei:=B6 hi hr;have ej:=B6 hj hr;have hs:=Cc hinf;obtain⟨cs,h1,h2⟩: ∃cs,SlC m k (ev f xo) cs xs.length∧ @DU α (PQ E k) m cs xs:=Wl fx hE;obtain⟨a0,c0,hv⟩:=h1.val;have hcap:xs.length≤c0:=by
     obtain⟨_,_,⟨h0,_⟩|⟨b,off,cap,l,e,fr,hv',hn,_⟩⟩:=h1
     ·omega
     ·rw[hv]at hv'; cases hv'; exact hn.1
    have fk:FR m (.kp α E xs) (.slice a0 xs.length xs.length):=by
     refine .kp ?_ fun a n c q=>by cases q; exact AkC _
     rw[hv]at fx h1;cases fx with
     | @sl _ _ _ sz' _ cs' h hE' hl hr=>
      refine .sl (cs:=cs') (sz:=sz') ?_ hE' hl hr;obtain⟨q1,q2,⟨q3,q4⟩|⟨b,off,cap,l,e,fr,hv',hn',hb,hc⟩⟩:=h
      ·exact⟨q1,q2,.inl ⟨q3,a0,xs.length,by rw[q3]⟩⟩
      ·cases hv'; exact⟨q1,q2,.inr ⟨b,off,xs.length,l,e,fr,rfl,⟨AkC _,q2⟩,hb,hc⟩⟩
    refine Aq (v:= .slice a0 xs.length xs.length) (w':=w) rfl (fun _ e=>by cases e) ?_ (hk η m w _ Env.le_refl (Mem.rfl' m) (fun n h=> .inl h) (.d fk) S);have c1:(xs.length:Int)≤(c0:Int):=by omega
    have c2:(0:Int)≤(xs.length:Int):=by omega
    have hb: ∀w,(Instr.sliceBounds true xs.length c0 none (some (.int i1 xs.length)) (some (.int i2 xs.length))).run P w= .ok (0,xs.length,xs.length) w:=by
     intro w;simp[Instr.sliceBounds,Instr.sliceBound,asIntOf,c1,c2]
    simp only[execOp,hv,AkL,Option.map_none,ei,ej];simp[Instr.slice,Instr.sliceAt,AkJ,AkD hu,hb,hs];intro _;cases a0 with
    |none=>rfl
    |some a=>obtain⟨b,off,sp⟩:=a; cases sp<;>simp[Addr.add]
   ·cases e1
  ·cases e1
 ·cases e1
end
section
variable {P:Program}{N:Nat}
theorem sp_ofR {k:FuncId}{fn:Func}{c:Code}{args:List AV}{obs:List AObj}{n0:Nat}{Po:AV→List AObj→Nat→Prop}(hc: ∀(a:Array Value) w,(callFunc k a).run P w= .ok (.enter k a) w)(hf:P.funcs[k]? =some fn)(hb:fn.body=some c)(hN:fn.ntmps=N)
  (hle:Nat.ble args.length N=true) (h: ∀D0 As η0 m0,D0.2.2=false→(∀n,η0 n≠none→n<n0)→Go none P N D0 (Q4 P N fn (Ix As η0 m0 Po)) As η0 m0 ⟨Q9 args obs n0,.code c,[]⟩):Sp P k args obs n0 Po:=by
 refine⟨hc,fun η m As w vs hv hd S=> ?_⟩;refine ZW hf hb hN (by rw[←hv.1]; exact AkG hle) ?_;exact h (w,[],false) As η m rfl hd η m (f0 vs) w Env.le_refl (Mem.rfl' m) (Qf hv hd S)
end
def atRet (cf:Cf):Bool:=match cf.md,cf.K with| .ret,[]=>true|_,_=>false
section
variable {ρ:Option Nat}{P:Program}{N:Nat}{D0:Dw}{Q:DJ}{As:List Ow}{η0:Env}{m0:Mem}
theorem Agc {n0:Nat}{cf:Cf}{ι:Type}{J:ι→AS}{ok:ι→Prop}{Jr:Fr→World→Prop}(bk:Bk As η0 m0 J ok Jr)(hd: ∀n,η0 n≠none→n<n0)(x:ι)(hx:ok x)
  (e:(atRet (aC P N cf),vwL (aC P N cf).s (J x) n0,(vwP (aC P N cf).s (J x)).isSome,(bL P N cf))=(true,vwR (aC P N cf).s (J x),true,(bR P N cf)):=by kernel_rfl) (hm:P.follows .mixedOrders=true:=by rfl):
  Go ρ P N D0 (retQ Jr) As η0 m0 cf:=by
 simp only[Akt]at e;obtain⟨e1,e2,e4,e3⟩:=e;refine AP hm (.of e3) ?_;generalize aC P N cf=c0 at*;obtain⟨s,md,K⟩:=c0;unfold atRet at e1;split at e1
 ·rename_i hmd hK;simp only at hmd hK; subst hmd hK;intro η m f w a1 a2 g;obtain⟨η',m',l,le,g'⟩:=M7 e2 e4 hd a1 g;exact bk.h f w ⟨x,hx,η',m',le,Mem.tr a2 l,g'⟩
 ·cases e1
end
section
variable {P:Program}{ρ:Option Nat}{N:Nat}{D0:Dw}{Q:DJ}{As:List Ow}{η0:Env}{m0:Mem}
def Aed (ob:List Tok)(n:Nat):Option (List AV×TypeId×Tok):=match find n ob with|some (i,.box k cs t)=>bif Nat.beq k n then some (cs,t,(i,.box k cs t))else none|_=>none
theorem Vt {ob:List Tok}{n:Nat}{cs:List AV}{t:TypeId}{p:Tok}(h:Aed ob n=some (cs,t,p)):p∈ob∧∃i,p=(i,AObj.box n cs t):=by
 unfold Aed at h;split at h
 ·rename_i i k cs' t' hf;cases hb:Nat.beq k n
  ·rw[hb]at h; cases h
  ·rw[hb]at h; cases h;have:=Aku hb; subst this;exact⟨FG hf,i,rfl⟩
 ·cases h
def Af4 (P:Program)(cf:Cf):Option (Nat×Nat×Int×Nat×Nat):=
 match Gt cf with
 |some a=>match a.o.op with
  | .indexAddr t x y=>match aev a.sl x,OK a.sl y,P.underlying t with
   | .pb n off,some (_,j),some (.array len e)=>match JK P e with
    |some i=>some (n,off,j,i.sz,len)
    |none=>none
   |_,_,_=>none
  |_=>none
 |none=>none
def AjA (P:Program)(cf:Cf):AV:=match Af4 P cf with|some (n,off,j,sz,_)=> .pa n j sz off|none=> .any
theorem OF {cf:Cf}{α:Type}{xs:List α}{j:Int}{x:α}(hq:gOf (aC P N cf)=true→idx xs j=some x)(g:Go ρ P N D0 Q As η0 m0 (CK N (aC P N cf) (AjA P (aC P N cf)) []))
  (e:((Af4 P (aC P N cf)).map (fun r=>(r.2.2.1,r.2.2.2.2)),aL P N cf)=(some (j,xs.length),aR P N cf):=by kernel_rfl) (hm:P.follows .mixedOrders=true:=by rfl):Go ρ P N D0 Q As η0 m0 cf:=by
 simp only[Akt]at e;obtain⟨e1,e3⟩:=e;obtain⟨he1,he2⟩:=KB e3;refine AP hm he1 ?_;generalize aC P N cf=c0 at*;cases hk:Af4 P c0 with
 |none=>rw[hk]at e1; cases e1
 |some r=>
  obtain⟨n,off,j',sz,len⟩:=r;have hV:AjA P c0= .pa n j' sz off:=by unfold AjA; rw[hk]
  rw[hV]at g;rw[hk]at e1;simp only[AkL,Akv,Akt]at e1;obtain⟨e1,e2⟩:=e1;subst e1 e2;unfold Af4 at hk;split at hk
  ·rename_i a ha;rw[DD ha]at he2;split at hk
   ·rename_i t x' y hop;split at hk
    ·rename_i n' off' kk jj len' e' h1 h2 h3;split at hk
     ·rename_i i hi;simp only[Akv,Akt]at hk;obtain⟨q1,q2,q3,q4,q5⟩:=hk;subst q1 q2 q3 q4 q5;refine DB (rd:=[]) ha he2 Ob (fun hp=> ?_) g;have q:=NC (hq (MC ha hp));obtain⟨l,⟨dst,op,ty,pos,af,gd⟩,gg,sl,es⟩:=a;simp only at hop h1 h2⊢; subst hop;refine⟨AkC _,fun rest Q η m f w As hr hz hn S hk=> ?_⟩;have rx:=Am hr x'; rw[h1]at rx;obtain⟨b,hb,ex⟩:=rx.pb_inv;refine Ahb ex (B6 h2 hr) h3 (Cc hi) q.1 q.2 ?_;exact hk η m w _ Env.le_refl (Mem.rfl' m) (fun n h=> .inl h) (.pa hb) S
     ·cases hk
    ·cases hk
   ·cases hk
  ·cases hk
theorem AiP {η:Env}{m:Mem}{α:Type}{E:α→D}{xs:List α}{vs:List Value}{j:Int}{x:α}(h:BP η m (xs.map fun x=> .d (E x)) vs)(hq:idx xs j=some x): ∃v,vs[j.toNat]? =some v∧FR m (E x) v:=by
 have hr:=NC hq;have hx:xs[j.toNat]? =some x:=by
  unfold idx at hq;rw[AkA (by omega)]at hq;exact hq
 have hl:vs.length=xs.length:=by rw[←h.1,AkW]
 refine⟨vs[j.toNat]'(by omega),AkV (by omega),?_⟩;have:=h.2 j.toNat (.d (E x)) _ (by rw[AkP,hx]; rfl) (AkV (show j.toNat<vs.length by omega));exact this.dd
def ldAK (P:Program)(cf:Cf):Option (Int×Nat×Nat×List AV×Bool×Tok):=
 match Gt cf with
 |some a=>match a.o.op with
  | .load t x=>match aev a.sl x,JK P t with
   | .pa n j sz off,some i=>match Aed cf.s.ob n with
    |some (cs,_,p)=>some (j,sz,off,cs,Nat.beq i.sz 1&& !i.agg,p)
    |none=>none
   |_,_=>none
  |_=>none
 |none=>none
def ldAT (P:Program)(cf:Cf):List Tok:=match ldAK P cf with|some (_,_,_,_,_,p)=> [p]|none=> []
theorem gldA {cf:Cf}{α:Type}(E:α→D){xs:List α}{j:Int}{x:α}(hq:gOf (aC P N cf)=true→idx xs j=some x)(g:Go ρ P N D0 Q As η0 m0 (CK N (aC P N cf) (.d (E x)) (ldAT P (aC P N cf))))
  (e:((ldAK P (aC P N cf)).map (fun r=>(r.1,r.2.1,r.2.2.1,r.2.2.2.1,r.2.2.2.2.1)),aL P N cf)=(some (j,1,0,xs.map (fun x=> .d (E x)),true),aR P N cf):=by kernel_rfl) (hm:P.follows .mixedOrders=true:=by rfl):Go ρ P N D0 Q As η0 m0 cf:=by
 simp only[Akt]at e;obtain⟨e1,e3⟩:=e;obtain⟨he1,he2⟩:=KB e3;refine AP hm he1 ?_;generalize aC P N cf=c0 at*;cases hk:ldAK P c0 with
 |none=>rw[hk]at e1; cases e1
 |some r=>
  obtain⟨j',sz,off,cs,ok,p⟩:=r;have hT:ldAT P c0=[p]:=by unfold ldAT; rw[hk]
  rw[hT]at g;rw[hk]at e1;simp only[AkL,Akv,Akt]at e1;obtain⟨e1,e2,e4,e5,e6⟩:=e1;subst e1 e2 e4 e5 e6;unfold ldAK at hk;split at hk
  ·rename_i a ha;rw[DD ha]at he2;split at hk
   ·rename_i t x' hop;split at hk
    ·rename_i n' jj sz' off' i h1 hi;split at hk
     ·rename_i cs' ty' p' hrow;simp only[Akv,Akt]at hk;obtain⟨q1,q2,q3,q4,q5,q6⟩:=hk;subst q1 q2 q3 q4 q6;simp only[Aks,Bool.not_eq_true']at q5;have b1:=Aku q5.1;obtain⟨hmem,i0,hp⟩:=Vt hrow;subst hp;refine DB ha he2 ⟨fun x hx=>by simp at hx; subst hx; exact hmem,by simp[tids]⟩ (fun hp=> ?_) g;have q:=hq (MC ha hp);obtain⟨l,⟨dst,op,ty,pos,af,gd⟩,gg,sl,es⟩:=a;simp only at hop h1⊢; subst hop;refine⟨AkC _,fun rest Q η m f w As hr hz hn S hk=> ?_⟩;have S':St m (rep η m (.box n' (xs.map fun x=> .d (E x)) ty')::As) w:=S;obtain⟨b,vs,a1,a2,a3,S1⟩:=St.openBox S';have rx:=Am hr x'; rw[h1]at rx;obtain⟨b',hb',ex⟩:=rx.pa_inv;rw[a1]at hb'; cases hb';obtain⟨v,hv,hf⟩:=AiP a2 q;rw[Ak9,Nat.mul_one]at ex;have hseg:(vs.drop jj.toNat).take ([v]:List Value).length=[v]:=by
       obtain⟨hlt,he⟩:=AkR.1 hv;rw[List.drop_eq_getElem_cons hlt,he]; rfl
      refine s_ld (i:=0) (agg:=false) (cs:=[v]) S1 ex rfl (by have:=KK hi; rw[q5.2]at this; exact this) (by rw[←show i.sz=([v]:List Value).length from b1]; exact Cc hi) hseg (fun _=>rfl) ?_;exact hk η m w _ Env.le_refl (Mem.rfl' m) (fun n h=> .inl h) (.d hf) S
     ·cases hk
    ·cases hk
   ·cases hk
  ·cases hk
def Aiu {α:Type}(j:Int)(z:α):Int→List α→List α
 |_,[]=> []
 |k,c::r=>(if j=k then z else c)::Aiu j z (k+1) r
theorem AbO {α:Type}{j:Int}{z:α}: ∀{xs:List α} {k:Int},k≤j→Aiu j z k xs=xs.set (j-k).toNat z
 | [],k,_=>rfl
 |c::r,k,h=>by
  unfold Aiu;by_cases hj:j=k
  ·rw[AkA hj,hj,Int.sub_self];show z::Aiu k z (k+1) r=z::r;congr 1;have: ∀(r:List α) (q:Int),k<q→Aiu k z q r=r:=by
    intro r;induction r with
    |nil=>intro q _; rfl
    |cons c r ih=>intro q hq; unfold Aiu; rw[Aky (by omega),ih (q+1) (by omega)]
   exact this r (k+1) (by omega)
  ·rw[Aky hj,AbO (k:=k+1) (by omega)];have:(j-k).toNat=(j-(k+1)).toNat+1:=by omega
   rw[this]; rfl
def stAK (P:Program)(cf:Cf):Option (Int×Nat×Nat×List AV×List AV×Bool×TypeId×Nat×Tok):=
 match Gt cf with
 |some a=>match a.g,a.o.op with
  |none,.store t x y=>match aev a.sl x,Oj (aev a.sl y),JK P t with
   | .pa n j sz off,some ds,some i=>match Aed cf.s.ob n with
    |some (cs,ty,p)=>some (j,sz,off,ds,cs,Nat.beq i.sz 1,ty,n,p)
    |none=>none
   |_,_,_=>none
  |_,_=>none
 |none=>none
def stAS (P:Program)(cf:Cf)(cs:List AV):Stp:=match stAK P cf with|some (_,_,_,_,_,_,ty,n,p)=>⟨.no,[],[p],[(cf.s.nx,.box n cs ty)],cf.s.nx+1,[]⟩|none=>⟨.no,[],[],[],cf.s.nx,[]⟩
theorem Af9 {cf:Cf}{α:Type}(E:α→D){xs:List α}{j:Int}{x:α}(z:α)(hq:idx xs j=some x)(g:Go ρ P N D0 Q As η0 m0 (push N (aC P N cf) (stAS P (aC P N cf) ((Aiu j z 0 xs).map fun x=> .d (E x)))))
  (e:((stAK P (aC P N cf)).map (fun r=>(r.1,r.2.1,r.2.2.1,r.2.2.2.1,r.2.2.2.2.1,r.2.2.2.2.2.1)),aL P N cf)=(some (j,1,0,[.d (E z)],xs.map (fun x=> .d (E x)),true),aR P N cf):=by kernel_rfl) (hm:P.follows .mixedOrders=true:=by rfl):Go ρ P N D0 Q As η0 m0 cf:=by
 simp only[Akt]at e;obtain⟨e1,e3⟩:=e;obtain⟨he1,-⟩:=KB e3;refine AP hm he1 ?_;generalize aC P N cf=c0 at*;cases hk:stAK P c0 with
 |none=>rw[hk]at e1; cases e1
 |some r=>
  obtain⟨j',sz,off,ds,cs,ok,ty,n,p⟩:=r;have hS: ∀l,stAS P c0 l=⟨.no,[],[p],[(c0.s.nx,.box n l ty)],c0.s.nx+1,[]⟩:=by intro l; unfold stAS; rw[hk]
  rw[hS]at g;rw[hk]at e1;simp only[AkL,Akv,Akt]at e1;obtain⟨e1,e2,e4,e5,e6,e7⟩:=e1;subst e1 e2 e4 e5 e6 e7;unfold stAK at hk;split at hk
  ·rename_i a ha;split at hk
   ·rename_i t x' y hg hop;split at hk
    ·rename_i n' jj sz' off' ds' i h1 h2 hi;split at hk
     ·rename_i cs' ty' p' hrow;simp only[Akv,Akt]at hk;obtain⟨q1,q2,q3,q4,q5,q6,q7,q8,q9⟩:=hk;subst q1 q2 q3 q4 q5 q7 q8 q9;have b1:=Aku q6;obtain⟨hmem,i0,hp⟩:=Vt hrow;subst hp;have hgd:=BG ha hg;refine DC ha hg ?_ (NO hmem) g;obtain⟨l,⟨dst,op,ty0,pos,af,gd⟩,gg,sl,es⟩:=a;simp only at hop hgd h1 h2⊢; subst hop hgd;refine⟨Ale _,fun rest Q η m f w As hr hz hn S hk=> ?_⟩;have S':St m (rep η m (.box n' (xs.map fun x=> .d (E x)) ty')::As) w:=S;obtain⟨b,vs,a1,a2,a3,S1⟩:=St.openBox S';have rx:=Am hr x'; rw[h1]at rx;obtain⟨b',hb',ex⟩:=rx.pa_inv;rw[a1]at hb'; cases hb';rw[Ak9,Nat.mul_one]at ex;have hrn:=NC hq;have hlen:vs.length=xs.length:=by rw[←a2.1,AkW]
      obtain⟨c1,c2⟩:=HY h2 (Am hr y);have c1':(ev f y).cells.size=1:=by have:=c1.1; simpa using this.symm
      refine s_st (i:=0) S1 ex rfl rfl (by rw[c1',←b1]; exact Cc hi) (c1.one c2) (by rw[c1']; omega) fun w' S2=> ?_;refine hk η m w' undef Env.le_refl (Mem.rfl' m) (fun n h=> .inl h) .no (St.closeBox a1 (vs:=vs.take jj.toNat++(ev f y).cells.toList++vs.drop (jj.toNat+(ev f y).cells.size)) ?_ ?_ S2)
      ·rw[AbO hrn.1,Int.sub_zero,c1'];have:(xs.set jj.toNat z).map (fun x=>AV.d (E x))=(xs.map fun x=>AV.d (E x)).take jj.toNat++[AV.d (E z)]++(xs.map fun x=>AV.d (E x)).drop (jj.toNat+1):=by
        rw[List.set_eq_take_append_cons_drop,AkA (by omega),Ak3,AkZ,List.map_take,List.map_drop,Akw]; rfl
       rw[this];exact((a2.take _).append c1).append (a2.drop _)
      ·intro v hv;simp only[AkS]at hv;rcases hv with (hv|hv)|hv
       ·exact a3 v (List.mem_of_mem_take hv)
       ·exact c1.one c2 v hv
       ·exact a3 v (List.mem_of_mem_drop hv)
     ·cases hk
    ·cases hk
   ·cases hk
  ·cases hk
def slAK (P:Program)(cf:Cf):Option (List AV×Nat×Nat×Nat×Bool×Nat×Tok):=
 match Gt cf with
 |some a=>match a.g,a.o.op with
  |none,.slice t x none none none=>match aev a.sl x,P.underlying t with
   | .pb n 0,some (.array len e)=>match JK P e,Aed cf.s.ob n with
    |some i,some (cs,_,p)=>some (cs,len,i.sz,cs.length,Nat.ble len 1000000,n,p)
    |_,_=>none
   |_,_=>none
  |_,_=>none
 |none=>none
def slAS (P:Program)(cf:Cf)(sz:Nat)(α:Type)(E:α→List D)(xs:List α):Stp:=match slAK P cf with|some (_,_,_,_,_,_,p)=>⟨.ow cf.s.nx,[],[p],[(cf.s.nx,.row cf.s.nx sz α E xs)],cf.s.nx+1,[]⟩|none=>⟨.no,[],[],[],cf.s.nx,[]⟩
theorem gslA {k:Nat}{cf:Cf}{α:Type}(E:α→List D)(xs:List α)(hE: ∀x,(E x).length=k)(g:Go ρ P N D0 Q As η0 m0 (push N (aC P N cf) (slAS P (aC P N cf) k α E xs)))
  (e:((slAK P (aC P N cf)).map (fun r=>(r.1,r.2.1,r.2.2.1,r.2.2.2.1,r.2.2.2.2.1)),aL P N cf)=(some ((xs.flatMap E).map dv,xs.length,k,xs.length*k,true),aR P N cf):=by kernel_rfl) (hm:P.follows .mixedOrders=true:=by rfl):Go ρ P N D0 Q As η0 m0 cf:=by
 simp only[Akt]at e;obtain⟨e1,e3⟩:=e;obtain⟨he1,-⟩:=KB e3;refine AP hm he1 ?_;generalize aC P N cf=c0 at*;cases hk:slAK P c0 with
 |none=>rw[hk]at e1; cases e1
 |some r=>
  obtain⟨cs,len,sz,kk,ok,n,p⟩:=r;have hS:slAS P c0 k α E xs=⟨.ow c0.s.nx,[],[p],[(c0.s.nx,.row c0.s.nx k α E xs)],c0.s.nx+1,[]⟩:=by unfold slAS; rw[hk]
  rw[hS]at g;rw[hk]at e1;simp only[AkL,Akv,Akt]at e1;obtain⟨e1,e2,e4,e5,e6⟩:=e1;subst e1 e2 e4 e6;unfold slAK at hk;split at hk
  ·rename_i a ha;split at hk
   ·rename_i t x' hg hop;split at hk
    ·rename_i n' len' e' h1 h3;split at hk
     ·rename_i i cs' ty' p' hi hrow;simp only[Akv,Akt]at hk;obtain⟨q1,q2,q3,q4,q5,q6,q7⟩:=hk;subst q1 q2 q3 q6 q7;obtain⟨hmem,i0,hp⟩:=Vt hrow;subst hp;have hgd:=BG ha hg;refine DC ha hg ?_ (NO hmem) g;obtain⟨l,⟨dst,op,ty0,pos,af,gd⟩,gg,sl,es⟩:=a;simp only at hop hgd h1⊢; subst hop hgd;refine⟨Ale _,fun rest Q η m f w As hr hz hn S hk=> ?_⟩;have S':St m (rep η m (.box n' ((xs.flatMap E).map dv) ty')::As) w:=S;obtain⟨b,vs,a1,a2,a3,S1⟩:=St.openBox S';have rx:=Am hr x'; rw[h1]at rx;obtain⟨b',hb',ex⟩:=rx.pb_inv;rw[a1]at hb'; cases hb';have hc:=FRL.ofRelv a2;have hl:vs.length=xs.length*i.sz:=by rw[←a2.1,q4,e5]
      have S2:=St.bxRow (i:=0) (sz:=i.sz) (n:=xs.length) S1 rfl hl (by have:=AkG q5; simp only[maxLen]; omega);refine UI (k:=xs.length) ex h3 (Cc hi) (.inl ⟨rfl,rfl⟩) (AkC _) ?_;have h0:=hn c0.s.nx (AkC _) (AkO _);refine hk (η.put c0.s.nx (.slice (some ⟨b,0,none⟩) xs.length xs.length)) m w _ (Env.le_put h0) (Mem.rfl' m) (fun n q=> ?_) (.ow Env.put_self rfl) (St.closeRow Env.put_self rfl hc (fun x _=>hE x) S2);rcases Env.put_dom q with q|q
      ·exact .inl q
      ·subst q; exact .inr ⟨AkC _,AkO _⟩
     ·cases hk
    ·cases hk
   ·cases hk
  ·cases hk
end
end Go.Ax
end
