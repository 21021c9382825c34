/- Several texts, one behind the other. Conditions: none. -/
import Derived.Test.YtibojdgdjhngiaaGreatDoorZk
import Derived.Test.YtibojdgdjhngiaaGreatDoorZb
import Derived.Test.YtibojdgdjhngiaaGreatDoorZj
import Derived.Test.YtibojdgdjhngiaaGreatDoorCards
import Derived.Test.YtibojdgdjhngiaaGreatDoorTie
import Derived.WalkKit
import Derived.ProofKit
import Derived.OpenShut
import Derived.Deep.DeepHandedRow
import Derived.Lib.LaidTab
import Derived.SevenTiedAt
import Derived.Stop.LaidErr
set_option linter.unusedSimpArgs false
set_option linter.unusedVariables false
set_option maxHeartbeats 2000000
set_option maxRecDepth 100000
section
namespace Go.Proofs.YtibojdgdjhngiaaGreatDoor
open Go Go.Gw Go.Ax
theorem head_ok {l:Ak}{n:Nat}{now:Int}(hl:l.L.length+l.Wait.length≤100000)(h:chk l=0)(hn:n≤l.L.length)(ht:okNum now=true): ∃hd,Ev l 0 (n:Int) now=some (hd,0)∧hd.Log=l.Id∧hd.At=now:=by
 obtain⟨h0,h1,h2,h3⟩:=Jb h;obtain⟨k1,k2,k3⟩:=TB h0;have hll:=Se false l;have h256:l.L.length≤256:=by simp at h3; omega
 have e:=N8 hl h false;rw[if_neg (by decide)]at e;unfold Ev G0;rw[e,Ab];dsimp only;rw[if_neg (by decide),if_neg (by rw[hll]; simp; omega),if_pos (by rw[hll]; omega),Ab];dsimp only;rw[HF,ht,show gu (((0:Int)==0)||((0:Int)==80)) (some true)=some true from rfl,Ab,if_neg (by decide),Ab,if_neg (by decide),Int.toNat_natCast,AaY _ (by rw[List.length_take]; omega),Ab,WA,Ab,RP k1 k2 (W1 _),Ab];exact⟨_,rfl,rfl,rfl⟩
theorem plc_all {α:Type}{p:α→Bool}: ∀{xs:List α} {i:Nat},(∀x∈xs,p x=true)→(plc p xs i).length=xs.length
 | [],_,_=>rfl
 |x::r,i,h=>by
  unfold plc;rw[if_pos (h x List.mem_cons_self)];simp[plc_all (xs:=r) (i:=i+1) fun y hy=>h y (List.mem_cons_of_mem _ hy)]
theorem kept_true (a0:List g_api_Cert)(a1 a2:Int):CS a0 a1 a2=some true:=by
 unfold CS;rw[Sc,Ab,if_neg (by decide),Zc,Ab];by_cases hg:(((((!Xc a0)||(decide (a1<0)))||(decide (a1>1099511627776)))||(decide (a2<0)))||(decide (a2>1099511627776)))=true
 ·rw[if_pos hg]
 rw[if_neg hg];simp only[Bool.or_eq_true,decide_eq_true_eq,not_or,Bool.not_eq_true',Bool.not_eq_false]at hg;obtain⟨⟨⟨⟨g1,g2⟩,g3⟩,g4⟩,g5⟩:=hg;have hl:a0.length≤12:=by
  simp only[Xc,Bool.and_eq_true,decide_eq_true_eq]at g1;omega
 have ht:okNum a2=true:=by simp only[okNum,Bool.and_eq_true,decide_eq_true_eq]; omega
 rcases Vs (l:=a0) a1 (by omega)with ⟨ps,x,e⟩|⟨ps,x,e,T⟩
 ·rw[e,Ab]; rfl
 rw[e,Ab];dsimp only;rw[if_neg (by decide)];have hb:=T.bodies (by omega);have hm:=Oi T.ok;have hmL:(merged x).L=x.Wait:=by show x.L++x.Wait=_; rw[T.L]; rfl
 have hbm:(merged x).L.length+(merged x).Wait.length≤100000:=by rw[hmL]; have:=T.few; show x.Wait.length+0≤_; omega
 obtain⟨h1,e1,b1,c1⟩:=head_ok (n:=0) hb T.ok (Nat.zero_le _) ht;obtain⟨h2,e2,b2,c2⟩:=head_ok (n:=(merged x).L.length) hbm hm (Nat.le_refl _) ht;have e3:=N8 hbm hm false;rw[if_neg (by decide),show PB false (merged x)=(merged x).L.map (fun w=>pleaf w.Body)from YH _ _ _,hmL]at e3;have hps:ps.length≤1000000:=by have:=T.len; omega
 rw[Ur hb T.ok,Ab,YF hb T.ok,Ab];dsimp only;rw[show((0:Nat):Int)=0 from rfl]at e1;rw[e1,Ab,e2,Ab,e3,Ab];dsimp only;rw[if_neg (by decide)];rw[N4 _ _ _ hps,Ab,Acl,N4 _ _ _ hps,Ab,Acl];have hk1:(Wa x).Log=0:=T.Id;have hk2:(Wa x).Delay=20:=T.Delay;have n2:plc (mis h2 (x.Wait.map fun w=>pleaf w.Body) (Wa x)) ps 0=[]:=RW fun p hp=>by
  obtain⟨q1,q2,w,q3,q4⟩:=T.prom p hp;unfold mis;have:(x.Wait.map fun w=>pleaf w.Body).any (fun y=>GK y p.Leaf)=true:=List.any_eq_true.2 ⟨pleaf w.Body,List.mem_map.2 ⟨w,q3,rfl⟩,(TL _ _).2 q4.symm⟩;rw[this,Bool.not_true,Bool.and_false]
 rw[n2,hk2];have hmis: ∀p∈ps,mis h1 [] (Wa x) p=decide (a2>w64 (a1+20)):=fun p hp=>by
  obtain⟨q1,q2,w,q3,q4⟩:=T.prom p hp;unfold mis;rw[q1,b1,hk1,hk2,q2,c1,T.Id];show((((0:Int)==0)&&((0:Int)==0))&&decide (w64 (a1+20)<a2)&&true)=_;simp
 generalize w64 (a1+20)=t at*;by_cases hlate:a2>t
 ·rw[decide_eq_true hlate,plc_all (fun p hp=>by rw[hmis p hp,decide_eq_true hlate])];simp
 ·rw[decide_eq_false hlate,RW (fun p hp=>by rw[hmis p hp,decide_eq_false hlate])];rfl
end Go.Proofs.YtibojdgdjhngiaaGreatDoor
end
section
namespace Go.Proofs.YtibojdgdjhngiaaGreatDoor.lawMonitorKept
open Go Go.Gw Go.ChangeShapes Go.WideShapes Go.ChangeAt Go.RowKit
theorem own:ownKnob Tryz.prog.godebug=none:=by kernel_rfl
theorem tab_ir:Ir Tryz.prog 276 (.agg [.agg [.lit (.int .i64 1),.held [103,114,101,97,116,115,101,97,108,47,100,101,114,46,107,105,110,100,115,36,49]],.agg [.lit (.int .i64 2),.held [103,114,101,97,116,115,101,97,108,47,100,101,114,46,108,101,97,115,116]],.agg [.lit (.int .i64 4),.held [103,114,101,97,116,115,101,97,108,47,100,101,114,46,107,105,110,100,115,36,50]],.agg [.lit (.int .i64 12),.held [103,114,101,97,116,115,101,97,108,47,100,101,114,46,107,105,110,100,115,36,51]],.agg [.lit (.int .i64 48),.held [103,114,101,97,116,115,101,97,108,47,100,101,114,46,107,105,110,100,115,36,52]]]) [[.int .i64 1,.func (.func 305) #[] #[]],[.int .i64 2,.func (.func 149) #[] #[]],[.int .i64 4,.func (.func 306) #[] #[]],[.int .i64 12,.func (.func 307) #[] #[]],[.int .i64 48,.func (.func 310) #[] #[]]].flatten:=
 Ir.arr (n:=5) (k:=2) Tryz.underlying276 (by kernel_rfl) (by kernel_rfl) rfl rfl fun i d c h1 h2=>by
  match i,h1,h2 with
  |0,h1,h2=>cases h1; cases h2; exact Ir.pair Tryz.underlying236 rfl rfl rfl (by kernel_rfl) rfl rfl (by kernel_rfl) (by kernel_rfl) (Ir.int Tryz.underlying3) (Ir.fn Tryz.underlying115 Tryz.func305 (by kernel_rfl) (by kernel_rfl))
  |1,h1,h2=>cases h1; cases h2; exact Ir.pair Tryz.underlying236 rfl rfl rfl (by kernel_rfl) rfl rfl (by kernel_rfl) (by kernel_rfl) (Ir.int Tryz.underlying3) (Ir.fn Tryz.underlying115 Tryz.func149 (by kernel_rfl) (by kernel_rfl))
  |2,h1,h2=>cases h1; cases h2; exact Ir.pair Tryz.underlying236 rfl rfl rfl (by kernel_rfl) rfl rfl (by kernel_rfl) (by kernel_rfl) (Ir.int Tryz.underlying3) (Ir.fn Tryz.underlying115 Tryz.func306 (by kernel_rfl) (by kernel_rfl))
  |3,h1,h2=>cases h1; cases h2; exact Ir.pair Tryz.underlying236 rfl rfl rfl (by kernel_rfl) rfl rfl (by kernel_rfl) (by kernel_rfl) (Ir.int Tryz.underlying3) (Ir.fn Tryz.underlying115 Tryz.func307 (by kernel_rfl) (by kernel_rfl))
  |4,h1,h2=>cases h1; cases h2; exact Ir.pair Tryz.underlying236 rfl rfl rfl (by kernel_rfl) rfl rfl (by kernel_rfl) (by kernel_rfl) (Ir.int Tryz.underlying3) (Ir.fn Tryz.underlying115 Tryz.func310 (by kernel_rfl) (by kernel_rfl))
  |n+5,h1,h2=>cases h1
theorem gB {W:World}(h:laidMetH Tryz.prog Rows.monitorKeptRow.laid W):GB (memOf W):=fun p hp=>by
 obtain rfl:=List.mem_singleton.1 hp;exact gb_of (name:= "greatseal/der.kinds") (by kernel_rfl) (by kernel_rfl) (laidMetH.funcs h (d:= .agg [.agg [.lit (.int .i64 1),.iface "func" (.lit (.string [103,114,101,97,116,115,101,97,108,47,100,101,114,46,107,105,110,100,115,36,49]))],.agg [.lit (.int .i64 2),.iface "func" (.lit (.string [103,114,101,97,116,115,101,97,108,47,100,101,114,46,108,101,97,115,116]))],.agg [.lit (.int .i64 4),.iface "func" (.lit (.string [103,114,101,97,116,115,101,97,108,47,100,101,114,46,107,105,110,100,115,36,50]))],.agg [.lit (.int .i64 12),.iface "func" (.lit (.string [103,114,101,97,116,115,101,97,108,47,100,101,114,46,107,105,110,100,115,36,51]))],.agg [.lit (.int .i64 48),.iface "func" (.lit (.string [103,114,101,97,116,115,101,97,108,47,100,101,114,46,107,105,110,100,115,36,52]))]]) (List.Mem.tail _ (List.Mem.head _))) tab_ir
theorem rd3:Rd Tryz.prog 3 (Int):=Rd.int Tryz.underlying3
theorem rd9:Rd Tryz.prog 9 (ByteArray):=Rd.str Tryz.underlying9
theorem rd22:Rd Tryz.prog 22 (UInt64):=Rd.u64 Tryz.underlying22
theorem rd57:Rd Tryz.prog 57 (List ByteArray):=Rd.slice Tryz.underlying57 rd9 (by kernel_rfl) (by decide)
theorem rd4:Rd Tryz.prog 4 (Bool):=Rd.bool Tryz.underlying4
theorem rd38:Rd Tryz.prog 38 (UInt64×UInt64):=Rd.arr2 Tryz.underlying38 rd22 (by kernel_rfl) (by kernel_rfl)
theorem rd40:Rd Tryz.prog 40 (g_api_Sig):=Rd.struct Tryz.underlying40 (Mr.more rfl rd22 (by kernel_rfl) (Mr.last rfl rd22 (by kernel_rfl))) (by kernel_rfl) (fun b=>⟨b.1,b.2⟩) (fun h=>h)
theorem rd82:Rd Tryz.prog 82 (g_api_Promise):=Rd.struct Tryz.underlying82 (Mr.more rfl rd3 (by kernel_rfl) (Mr.more rfl rd3 (by kernel_rfl) (Mr.more rfl rd38 (by kernel_rfl) (Mr.last rfl rd40 (by kernel_rfl))))) (by kernel_rfl) (fun b=>⟨b.1,b.2.1,b.2.2.1,b.2.2.2⟩) (fun h=>h)
theorem rd36:Rd Tryz.prog 36 (List g_api_Promise):=Rd.slice Tryz.underlying36 rd82 (by kernel_rfl) (by decide)
theorem rd59:Rd Tryz.prog 59 (g_api_Cert):=Rd.struct Tryz.underlying59 (Mr.more rfl rd3 (by kernel_rfl) (Mr.more rfl rd9 (by kernel_rfl) (Mr.more rfl rd9 (by kernel_rfl) (Mr.more rfl rd22 (by kernel_rfl) (Mr.more rfl rd57 (by kernel_rfl) (Mr.more rfl rd3 (by kernel_rfl) (Mr.more rfl rd3 (by kernel_rfl) (Mr.more rfl rd4 (by kernel_rfl) (Mr.more rfl rd3 (by kernel_rfl) (Mr.more rfl rd57 (by kernel_rfl) (Mr.more rfl rd36 (by kernel_rfl) (Mr.last rfl rd40 (by kernel_rfl))))))))))))) (by kernel_rfl) (fun b=>⟨b.1,b.2.1,b.2.2.1,b.2.2.2.1,b.2.2.2.2.1,b.2.2.2.2.2.1,b.2.2.2.2.2.2.1,b.2.2.2.2.2.2.2.1,b.2.2.2.2.2.2.2.2.1,b.2.2.2.2.2.2.2.2.2.1,b.2.2.2.2.2.2.2.2.2.2.1,b.2.2.2.2.2.2.2.2.2.2.2⟩) (fun h=>h)
theorem rd29:Rd Tryz.prog 29 (List g_api_Cert):=Rd.slice Tryz.underlying29 rd59 (by kernel_rfl) (by decide)
theorem contract (H:Type)(enc:TypeId×Value→H)(W:World)(base:Nat)(args:Array Value)(ds gs:List (DataW H))(before:List MemPlace)
  (hval: ∀(j:Nat) t v,Tryz.f8.params[j]? =some t→args[j]? =some v→Value.okWide Tryz.prog W .any base t v)
  (hW:DataW.Whole enc Tryz.prog Tryz.f8.params.toList Rows.monitorKeptSpec.vars false W args.toList ds gs before) (hL:laidMetH Tryz.prog Rows.monitorKeptRow.laid W):
  Calls Tryz.prog 8 args W fun e W'=> ∃v,e= .returned v∧Rows.monitorKeptSpec.post enc Tryz.prog Tryz.f8 false true false false W args v W':=by
 have hW':=hW;obtain⟨p,q,hA0,hV,rfl,hfz,hnd⟩:=hW;obtain⟨rfl,rfl⟩:=trodVars_none hV;rw[List.append_nil]at hW';have hA:DataW.TrodAll enc Tryz.prog W 0 (fun _=>true) true Tryz.f8.params.toList args.toList ds p:=hA0;have hA1:=hA;have hpl:Tryz.f8.params.toList=[29,3,3]:=by rw[Tryz.params8]
 rw[hpl]at hA1;obtain⟨v0,w0,d0,e0,p0,q0,ha0,he0,hp0,h0,r0⟩:=trodAll_cons hA1;obtain⟨v1,w1,d1,e1,p1,q1,ha1,he1,hp1,h1,r1⟩:=trodAll_cons r0;obtain⟨v2,w2,d2,e2,p2,q2,ha2,he2,hp2,h2,r2⟩:=trodAll_cons r1;obtain⟨z1,z2,z3⟩:=trodAll_nil r2;obtain rfl:args= #[v0,v1,v2]:=by
  apply Array.ext'; rw[ha0,ha1,ha2,z1]
 obtain rfl:ds=[d0,d1,d2]:=by rw[he0,he1,he2,z2]
 rw[Tryz.params8]at hval;obtain⟨x0,l0,c0,rfl⟩:=okWide_slice Tryz.underlying29 (hval 0 29 v0 rfl rfl);obtain⟨a0,s0⟩:=rd29.openS h0;obtain⟨a1,rfl,_,_,_⟩:=open_int Tryz.underlying3 (hval 1 3 v1 rfl rfl) h1;obtain⟨a2,rfl,_,_,_⟩:=open_int Tryz.underlying3 (hval 2 3 v2 rfl rfl) h2;have hc:=Kf (St.of W (gB hL)) s0 (kept_true a0 a1 a2);refine Calls.mono hc ?_;rintro e W' ⟨v,rfl,hk,M,hle,S,rfl⟩;refine⟨.bool true,rfl,Wg (tb:=4) (by kernel_rfl) (by kernel_rfl) rfl (by kernel_rfl) Tryz.underlying4 hW' hA rfl rfl rfl hle S hk⟩
noncomputable def Ng (os:Os):World:=
 {World.holding Tryz.prog os ⟨#[], #[],[]⟩with heap:=((((World.holding Tryz.prog os ⟨#[], #[],[]⟩).heap.modify 5 fun| .cells _ t fr=> .cells #[.int .u8 128,.int .u8 191,.int .u8 160,.int .u8 191,.int .u8 128,.int .u8 159,.int .u8 144,.int .u8 191,.int .u8 128,.int .u8 143,.int .u8 0,.int .u8 0,.int .u8 0,.int .u8 0,.int .u8 0,.int .u8 0,.int .u8 0,.int .u8 0,.int .u8 0,.int .u8 0,.int .u8 0,.int .u8 0,.int .u8 0,.int .u8 0,.int .u8 0,.int .u8 0,.int .u8 0,.int .u8 0,.int .u8 0,.int .u8 0,.int .u8 0,.int .u8 0] t fr|o=>o).modify 2 fun| .cells _ t fr=> .cells [[.int .i64 1,.func (.func 305) #[] #[]],[.int .i64 2,.func (.func 149) #[] #[]],[.int .i64 4,.func (.func 306) #[] #[]],[.int .i64 12,.func (.func 307) #[] #[]],[.int .i64 48,.func (.func 310) #[] #[]]].flatten.toArray t fr|o=>o).modify 4 fun| .cells _ t fr=> .cells ((List.replicate 128 240++List.replicate 66 241++List.replicate 30 2++[19]++List.replicate 12 3++[35,3,3,52,4,4,4,68]++List.replicate 11 241:List Int).map fun n=>Value.int .u8 n).toArray t fr|o=>o)}
theorem laid_met (os:Os):laidMetH Tryz.prog Rows.monitorKeptRow.laid ((Ng os).forCall (fun _ _=>0) ⟨#[], #[(.slice none 0 0:Value),(.int .i64 0:Value),(.int .i64 0:Value)],[]⟩).memory:=
 laidMetH_of_parts3 (fuel:=8) (laidMet_of_run' 8 (by kernel_rfl) (by kernel_rfl)) (by kernel_rfl) (by kernel_rfl)
theorem reads (os:Os){H:Type}(enc:TypeId×Value→H): ∃places,DataW.whole enc Tryz.prog ((Ng os).forCall (fun _ _=>0) ⟨#[], #[(.slice none 0 0:Value),(.int .i64 0:Value),(.int .i64 0:Value)],[]⟩).memory Tryz.f8.params.toList Rows.monitorKeptSpec.vars false #[(.slice none 0 0:Value),(.int .i64 0:Value),(.int .i64 0:Value)].toList 8=some ([.nil,.lit (.int .i64 0),.lit (.int .i64 0)],[],places):=
 ⟨[],by kernel_rfl⟩
theorem lifted (os:Os)(started:os.Started)(H:Type)(enc:TypeId×Value→H)(F:Stop.Interp):
  ReturnsInHanded {} Tryz.checked os 8 .any ((OpenSpec.ofChange Rows.monitorKeptSpec).preRow enc Tryz.prog Tryz.f8 Rows.monitorKeptRow.domain false Rows.monitorKeptRow.laid) (((OpenSpec.ofChange Rows.monitorKeptSpec).at F).post enc Tryz.prog Tryz.f8 false true false false):=by
 obtain⟨places,hx⟩:=reads os enc;refine returnsInHanded_of_row (C:=Tryz.checked) (s:=OpenSpec.ofChange Rows.monitorKeptSpec) own started (by kernel_rfl) Tryz.func8
  (witness_row_at (enc:=enc) (C:=Tryz.checked) false (Ng os) #[(.slice none 0 0:Value),(.int .i64 0:Value),(.int .i64 0:Value)] rfl (by kernel_rfl) (by kernel_rfl) (by kernel_rfl)
   (OpenSpec.preRow_of_cond 8 hx (by kernel_rfl) (fun k hk=>by cases hk) (by kernel_rfl) (laid_met os))) ?_
 intro W base args ds gs before hval hW _ _ _ hL _ _;exact contract H enc W base args ds gs before hval hW hL
theorem j0:laidOutB Tryz.prog=true:=by kernel_rfl
theorem j1:mapsRowed Tryz.prog=true:=by kernel_rfl
theorem j2:(Rows.monitorKeptRow.inPlace==Tryz.prog.inPlace 8)=true:=by kernel_rfl
theorem j3:(Rows.monitorKeptRow.unfollowed==Tryz.prog.unfollowed 8)=true:=by kernel_rfl
theorem j4:(Rows.monitorKeptRow.recurses==Tryz.prog.recurses 8)=true:=by kernel_rfl
theorem j5:(Rows.monitorKeptRow.named==Tryz.prog.varsNamed 8)=true:=by kernel_rfl
theorem joined:joinedFacts Tryz.prog 8 Tryz.f8 (OpenSpec.ofChange Rows.monitorKeptSpec).bare Rows.monitorKeptRow=true:=by
 unfold joinedFacts;rw[j0,j1,j2,j3,j4,j5];kernel_rfl
theorem s1:Tryz.pinned.checked.prog.funcNamed Rows.monitorKeptRow.func=some 8:=by kernel_rfl
theorem s2:Tryz.f8.isInstance Tryz.pinned.checked.prog Rows.monitorKeptRow.origin Rows.monitorKeptRow.targs:=of_decide_eq_true (by kernel_rfl)
theorem s3:Tryz.f8.isWrapper Tryz.pinned.checked.prog Rows.monitorKeptRow.wrapper Rows.monitorKeptRow.mainSum:=by unfold Func.isWrapper; first|(rw[if_pos (by decide+kernel)]; kernel_rfl)|(rw[if_neg (by decide+kernel)]; exact⟨rfl,rfl⟩)
theorem s4:joinedFacts Tryz.pinned.checked.prog 8 Tryz.f8 (OpenSpec.ofChange Rows.monitorKeptSpec).bare Rows.monitorKeptRow=true:=joined
theorem s5 (os:Os)(started:os.Started)(H:Type)(enc:TypeId×Value→H)(F:Stop.Interp):ReturnsInHanded Rows.monitorKeptRow.assume Tryz.pinned.checked os 8 .any (Rows.monitorKeptRow.pre enc Tryz.pinned.checked.prog Tryz.f8 (OpenSpec.ofChange Rows.monitorKeptSpec)) (((OpenSpec.ofChange Rows.monitorKeptSpec).at F).post enc Tryz.pinned.checked.prog Tryz.f8 Rows.monitorKeptRow.apart Rows.monitorKeptRow.fresh Rows.monitorKeptRow.handsOn Rows.monitorKeptRow.again):=by rw[OpenClaim.pre_eq_preRow]; exact lifted os started H enc F
theorem said:Rows.MonitorKeptSaid:=
 OpenClaim.holds_of_cond 8 Tryz.f8 rfl rfl rfl rfl rfl rfl rfl ⟨rfl,rfl,rfl,rfl,rfl⟩ rfl rfl rfl rfl rfl s1 Tryz.func8 s4 s2 s3 (fun os started H enc _ F=>s5 os started H enc F)
theorem plain (f:FuncId)(fn:Func)(hf:Tryz.pinned.checked.prog.funcNamed "greatseal/greatseallaw30.MonitorKept" =some f)(hfn:Tryz.pinned.checked.prog.funcs[f]? =some fn):
  true=Tryz.pinned.checked.prog.looks []∧∀(j:Nat) t,fn.params[j]? =some t→Tryz.pinned.checked.prog.wantsStandIn t=false:=by
 obtain rfl:f=8:=Option.some.inj ((show Tryz.prog.funcNamed "greatseal/greatseallaw30.MonitorKept" =some 8 by kernel_rfl).symm.trans hf)|>.symm;obtain rfl:fn=Tryz.f8:=(Option.some.inj (Tryz.func8.symm.trans hfn)).symm;refine⟨by kernel_rfl,fun j t ht=> ?_⟩;rw[Tryz.params8]at ht;have hm:t∈[29,3,3]:=by simpa using Array.mem_of_getElem? ht
 have hall:([29,3,3].all fun u=> !Tryz.prog.wantsStandIn u)=true:=by kernel_rfl
 exact(show Tryz.prog.wantsStandIn t=false by simpa using List.all_eq_true.1 hall t hm)
theorem card:Rows.MonitorKeptCardSaid:=
 Claim7.holds_tied_plain_at .later [] _ _ _ _ said (fun _ h=>by cases h) (by kernel_rfl) (fun _ h=>by cases h) monitorKept_row_tie rfl ⟨rfl,rfl⟩ (by kernel_rfl) rfl plain (by kernel_rfl)
end Go.Proofs.YtibojdgdjhngiaaGreatDoor.lawMonitorKept
end
