/- Several texts, one behind the other. Conditions: none. -/
import Derived.Test.YtbajlmaijjcbmaaGreatDoorZi
import Derived.Test.YtbajlmaijjcbmaaGreatDoorZb
import Derived.Test.YtbajlmaijjcbmaaGreatDoorZh
import Derived.Test.YtbajlmaijjcbmaaGreatDoorCards
import Derived.Test.YtbajlmaijjcbmaaGreatDoorTie
import Derived.WalkKit
import Derived.ProofKit
import Derived.OpenShut
import Derived.Deep.DeepHandedRow
import Derived.Lib.LaidTab
import Derived.SevenTiedAt
import Derived.Stop.LaidErr
set_option linter.unusedSimpArgs false
set_option linter.unusedVariables false
set_option maxHeartbeats 4000000
set_option maxRecDepth 100000
section
namespace Go.Proofs.YtbajlmaijjcbmaaGreatDoor
open Go Go.Gw Go.Ax
theorem pathV_gen {leaf:g_api_Cert}{more roots:List g_api_Cert}(h1:more.length≤3)(h2: ∀c∈leaf::more,checkV c=0)(hk:caB 0 (leaf::more)=true)(hl:linksV (leaf::more)=0)
  (hr:roots.length≤16) (hc: ∀c∈roots,checkV c=0) (name:ByteArray) (now:Int):
  Jv roots (leaf::more) name now=if now<0∨now>1099511627776 then 1 else if nameV name≠0 then nameV name else if(leaf.Names.any fun s=>eqS name s)=false then 110 else
   if((leaf::more).any fun c=> !timeB c now)=true then 190 else Hk (leaf::more) now roots:=by
 have e1:PN (leaf::more++roots)=0:=(K3 _ _ _).2 fun k c hk=>by
  rcases List.mem_append.1 (List.mem_of_getElem? hk)with q|q
  ·exact h2 c q
  ·exact hc c q
 unfold Jv;rw[e1,hl,if_neg (nn0 rfl)];by_cases hb:now<0∨now>1099511627776
 ·have:G1 roots (leaf::more) name now=1:=by
   unfold G1;rw[if_pos];rcases hb with q|q
   ·exact .inr (.inr (.inr (.inl q)))
   ·exact .inr (.inr (.inr (.inr q)))
  rw[this,if_pos (by decide),if_pos hb]
 ·have:G1 roots (leaf::more) name now=nameV name:=by
   unfold G1;rw[if_neg];rintro(q|q|q|q)
   ·simp at q
   ·simp only[List.length_cons]at q; omega
   ·omega
   ·exact hb q
  rw[this,if_neg hb];by_cases hn:nameV name=0
  ·rw[if_neg (nn0 hn),if_neg (nn0 hn)];have ek:Ii (leaf::more) name now=if(leaf.Names.any fun s=>eqS name s)=false then 110 else if((leaf::more).any fun c=> !timeB c now)=true then 190 else 0:=by
    unfold Ii;rw[hk,if_neg (by decide)]
   rw[ek];cases leaf.Names.any fun s=>eqS name s with
   |false=>rfl
   |true=>
    cases (leaf::more).any fun c=> !timeB c now<;>rfl
  ·rw[if_pos hn,if_pos hn]
theorem PathOk.rc {roots:List g_api_Cert}{leaf:g_api_Cert}{more:List g_api_Cert}{name:ByteArray}{now:Int}(P:PathOk roots leaf more name now): ∀c∈roots,checkV c=0:=fun c hc=>P.all c (List.mem_append_right _ hc)
theorem PathOk.cc {roots:List g_api_Cert}{leaf:g_api_Cert}{more:List g_api_Cert}{name:ByteArray}{now:Int}(P:PathOk roots leaf more name now): ∀c∈leaf::more,checkV c=0:=fun c hc=>P.all c (List.mem_append_left _ hc)
theorem PathOk.names {roots:List g_api_Cert}{leaf:g_api_Cert}{more:List g_api_Cert}{name:ByteArray}{now:Int}(P:PathOk roots leaf more name now): ∀s∈leaf.Names,nameV s=0:=by
 have hC:leaf.Ca=false:=by have:=Ui P.kin (k:=0) (c:=leaf) rfl; simpa using this
 exact(KT ((Ry (P.cc leaf List.mem_cons_self)).leaf hC).2.1).2.2
theorem trust_any {chain roots:List g_api_Cert}{now:Int}{r:g_api_Cert}(h:r∈roots)(hb:byV chain now r=0):Hk chain now roots=0:=by
 unfold Hk;rw[if_pos (List.any_eq_true.2 ⟨r,h,by simpa using hb⟩)]
theorem more_loop (l:List g_api_Cert)(hl:l.length≤1000000):iter (BF l true) Dx 0=some (if l.all (fun c=>checkV c==0)=true then .inl ()else .inr true):=by
 have e:=TB (step:=BF l true) l (fun _ c=>if(checkV c==0)=true then none else some true) hl (fun i c hc=>by
  have hi:=(List.getElem?_eq_some_iff.1 hc).1;unfold BF;rw[if_pos (decide_eq_true (show(i:Int)<(l.length:Int)from by omega)),Ec hc,Ab,Lg,Ab,MK (by omega)];by_cases h:checkV c=0
  ·rw[if_neg (by simpa using h),if_pos (by simpa using h)]
  ·rw[if_pos (by simpa using h),if_neg (by simpa using h)]) (by
  unfold BF;rw[if_neg (fun h=>by have:=of_decide_eq_true h; omega)])
 rw[e];congr 1;have: ∀(r:List g_api_Cert) (i:Nat),fndI (fun _ c=>if(checkV c==0)=true then none else some true) i r=if r.all (fun c=>checkV c==0)=true then .inl ()else .inr true:=by
  intro r;induction r with
  |nil=>intro i; rfl
  |cons c r ih=>
   intro i;unfold fndI;rw[List.all_cons];cases checkV c==0 with
   |true=>exact ih (i+1)
   |false=>rfl
 exact this l 0
theorem more_true (a0 a1 a2:List g_api_Cert)(a3:ByteArray)(a4:Int):Dd a0 a1 a2 a3 a4=some true:=by
 unfold Dd;rw[PB,Ab,if_neg (by decide)];obtain⟨b,hb,h⟩:=TT a0 a2 a3;obtain⟨b',hb',h'⟩:=TT a1 [] ⟨#[]⟩;rw[hb,Ab,hb',Na a0 a2 a3 a4];cases b with
 |false=>rfl
 |true=>
  rw[show gu (!(!true)) (some b')=some b' from rfl,Ab];cases b' with
  |false=>rfl
  |true=>
   obtain⟨hr,hR,hc,hF,_⟩:=h rfl;obtain⟨hr',hR',_⟩:=h' rfl;rw[show gu (!((!true)||(!true))) (some (Jv a0 a2 a3 a4))=some (Jv a0 a2 a3 a4)from rfl,Ab];by_cases hz:Jv a0 a2 a3 a4=0
   ·obtain⟨leaf,more,rfl,P,ht⟩:=Ro hz;rw[hz,if_neg (by decide),more_loop a1 (by omega),Ab];cases hall:a1.all (fun c=>checkV c==0)with
    |false=>rfl
    |true=>
     rw[if_pos rfl];have hc1: ∀c∈a1,checkV c=0:=fun c hc=>by have:=List.all_eq_true.1 hall c hc; simpa using this
     have G:=fun(rs:List g_api_Cert) (h1:rs.length≤16) (h2: ∀c∈rs,checkV c=0)=>pathV_gen P.len P.cc P.kin P.lnk h1 h2 a3 a4;have hlate:((leaf::more).any fun c=> !timeB c a4)=false:=by
      rw[List.any_eq_false];intro c hc;rw[P.tim c hc]; decide
     have G2: ∀(rs:List g_api_Cert) (h1:rs.length≤16) (h2: ∀c∈rs,checkV c=0),Jv rs (leaf::more) a3 a4=Hk (leaf::more) a4 rs:=by
      intro rs h1 h2;rw[G rs h1 h2,if_neg (by have:=P.now0; have:=P.nowM; omega),if_neg (nn0 P.nam),if_neg (by rw[P.has]; decide),if_neg (by rw[hlate]; decide)]
     obtain⟨r,hrm,hrb⟩:=UK ht;have p1:Jv (a1++a0) (leaf::more) a3 a4=0:=by
      rw[G2 _ (by rw[List.length_append]; omega) (fun c hc=>(List.mem_append.1 hc).elim (hc1 c) (P.rc c))];exact trust_any (List.mem_append_right _ hrm) hrb
     have p2:Jv (a0++a1) (leaf::more) a3 a4=0:=by
      rw[G2 _ (by rw[List.length_append]; omega) (fun c hc=>(List.mem_append.1 hc).elim (P.rc c) (hc1 c))];exact trust_any (List.mem_append_left _ hrm) hrb
     have p3:Jv [] (leaf::more) a3 a4=191:=by
      rw[G2 [] (Nat.zero_le _) (fun c hc=>by cases hc)]; rfl
     show Ae (app 168 [] a1) _=_;rw[HU 168 (by simp; omega) (by simp; omega),Ab,List.nil_append,HU 168 (by omega) (by omega),Ab,HU 168 (by simp; omega) (by simp; omega),Ab,List.nil_append,HU 168 (by omega) (by omega),Ab];rw[if_pos rfl,Na,p1,Ab,if_pos (by decide),Na,p2,Ab,Na,p3];rfl
   ·rw[if_pos (by simpa using hz)]
end Go.Proofs.YtbajlmaijjcbmaaGreatDoor
end
section
namespace Go.Proofs.YtbajlmaijjcbmaaGreatDoor.lawPathMore
open Go Go.Gw Go.ChangeShapes Go.WideShapes Go.ChangeAt Go.RowKit
theorem own:ownKnob Tryz.prog.godebug=none:=by kernel_rfl
theorem tab_ir:Ir Tryz.prog 180 (.agg [.agg [.lit (.int .i64 1),.held [103,114,101,97,116,115,101,97,108,47,100,101,114,46,107,105,110,100,115,36,49]],.agg [.lit (.int .i64 2),.held [103,114,101,97,116,115,101,97,108,47,100,101,114,46,108,101,97,115,116]],.agg [.lit (.int .i64 4),.held [103,114,101,97,116,115,101,97,108,47,100,101,114,46,107,105,110,100,115,36,50]],.agg [.lit (.int .i64 12),.held [103,114,101,97,116,115,101,97,108,47,100,101,114,46,107,105,110,100,115,36,51]],.agg [.lit (.int .i64 48),.held [103,114,101,97,116,115,101,97,108,47,100,101,114,46,107,105,110,100,115,36,52]]]) [[.int .i64 1,.func (.func 252) #[] #[]],[.int .i64 2,.func (.func 157) #[] #[]],[.int .i64 4,.func (.func 253) #[] #[]],[.int .i64 12,.func (.func 254) #[] #[]],[.int .i64 48,.func (.func 257) #[] #[]]].flatten:=
 Ir.arr (n:=5) (k:=2) Tryz.underlying180 (by kernel_rfl) (by kernel_rfl) rfl rfl fun i d c h1 h2=>by
  match i,h1,h2 with
  |0,h1,h2=>cases h1; cases h2; exact Ir.pair Tryz.underlying146 rfl rfl rfl (by kernel_rfl) rfl rfl (by kernel_rfl) (by kernel_rfl) (Ir.int Tryz.underlying3) (Ir.fn Tryz.underlying144 Tryz.func252 (by kernel_rfl) (by kernel_rfl))
  |1,h1,h2=>cases h1; cases h2; exact Ir.pair Tryz.underlying146 rfl rfl rfl (by kernel_rfl) rfl rfl (by kernel_rfl) (by kernel_rfl) (Ir.int Tryz.underlying3) (Ir.fn Tryz.underlying144 Tryz.func157 (by kernel_rfl) (by kernel_rfl))
  |2,h1,h2=>cases h1; cases h2; exact Ir.pair Tryz.underlying146 rfl rfl rfl (by kernel_rfl) rfl rfl (by kernel_rfl) (by kernel_rfl) (Ir.int Tryz.underlying3) (Ir.fn Tryz.underlying144 Tryz.func253 (by kernel_rfl) (by kernel_rfl))
  |3,h1,h2=>cases h1; cases h2; exact Ir.pair Tryz.underlying146 rfl rfl rfl (by kernel_rfl) rfl rfl (by kernel_rfl) (by kernel_rfl) (Ir.int Tryz.underlying3) (Ir.fn Tryz.underlying144 Tryz.func254 (by kernel_rfl) (by kernel_rfl))
  |4,h1,h2=>cases h1; cases h2; exact Ir.pair Tryz.underlying146 rfl rfl rfl (by kernel_rfl) rfl rfl (by kernel_rfl) (by kernel_rfl) (Ir.int Tryz.underlying3) (Ir.fn Tryz.underlying144 Tryz.func257 (by kernel_rfl) (by kernel_rfl))
  |n+5,h1,h2=>cases h1
theorem gB {W:World}(h:laidMetH Tryz.prog Rows.pathMoreRow.laid W):GB (memOf W):=fun p hp=>by
 obtain rfl:=List.mem_singleton.1 hp;exact gb_of (name:= "greatseal/der.kinds") (by kernel_rfl) (by kernel_rfl) (laidMetH.funcs h (d:= .agg [.agg [.lit (.int .i64 1),.iface "func" (.lit (.string [103,114,101,97,116,115,101,97,108,47,100,101,114,46,107,105,110,100,115,36,49]))],.agg [.lit (.int .i64 2),.iface "func" (.lit (.string [103,114,101,97,116,115,101,97,108,47,100,101,114,46,108,101,97,115,116]))],.agg [.lit (.int .i64 4),.iface "func" (.lit (.string [103,114,101,97,116,115,101,97,108,47,100,101,114,46,107,105,110,100,115,36,50]))],.agg [.lit (.int .i64 12),.iface "func" (.lit (.string [103,114,101,97,116,115,101,97,108,47,100,101,114,46,107,105,110,100,115,36,51]))],.agg [.lit (.int .i64 48),.iface "func" (.lit (.string [103,114,101,97,116,115,101,97,108,47,100,101,114,46,107,105,110,100,115,36,52]))]]) (List.Mem.tail _ (List.Mem.head _))) tab_ir
theorem rd3:Rd Tryz.prog 3 (Int):=Rd.int Tryz.underlying3
theorem rd9:Rd Tryz.prog 9 (ByteArray):=Rd.str Tryz.underlying9
theorem rd22:Rd Tryz.prog 22 (UInt64):=Rd.u64 Tryz.underlying22
theorem rd23:Rd Tryz.prog 23 (List ByteArray):=Rd.slice Tryz.underlying23 rd9 (by kernel_rfl) (by decide)
theorem rd4:Rd Tryz.prog 4 (Bool):=Rd.bool Tryz.underlying4
theorem rd84:Rd Tryz.prog 84 (UInt64×UInt64):=Rd.arr2 Tryz.underlying84 rd22 (by kernel_rfl) (by kernel_rfl)
theorem rd26:Rd Tryz.prog 26 (g_api_Sig):=Rd.struct Tryz.underlying26 (Kb.more rfl rd22 (by kernel_rfl) (Kb.last rfl rd22 (by kernel_rfl))) (by kernel_rfl) (fun b=>⟨b.1,b.2⟩) (fun h=>h)
theorem rd86:Rd Tryz.prog 86 (g_api_Promise):=Rd.struct Tryz.underlying86 (Kb.more rfl rd3 (by kernel_rfl) (Kb.more rfl rd3 (by kernel_rfl) (Kb.more rfl rd84 (by kernel_rfl) (Kb.last rfl rd26 (by kernel_rfl))))) (by kernel_rfl) (fun b=>⟨b.1,b.2.1,b.2.2.1,b.2.2.2⟩) (fun h=>h)
theorem rd24:Rd Tryz.prog 24 (List g_api_Promise):=Rd.slice Tryz.underlying24 rd86 (by kernel_rfl) (by decide)
theorem rd28:Rd Tryz.prog 28 (g_api_Cert):=Rd.struct Tryz.underlying28 (Kb.more rfl rd3 (by kernel_rfl) (Kb.more rfl rd9 (by kernel_rfl) (Kb.more rfl rd9 (by kernel_rfl) (Kb.more rfl rd22 (by kernel_rfl) (Kb.more rfl rd23 (by kernel_rfl) (Kb.more rfl rd3 (by kernel_rfl) (Kb.more rfl rd3 (by kernel_rfl) (Kb.more rfl rd4 (by kernel_rfl) (Kb.more rfl rd3 (by kernel_rfl) (Kb.more rfl rd23 (by kernel_rfl) (Kb.more rfl rd24 (by kernel_rfl) (Kb.last rfl rd26 (by kernel_rfl))))))))))))) (by kernel_rfl) (fun b=>⟨b.1,b.2.1,b.2.2.1,b.2.2.2.1,b.2.2.2.2.1,b.2.2.2.2.2.1,b.2.2.2.2.2.2.1,b.2.2.2.2.2.2.2.1,b.2.2.2.2.2.2.2.2.1,b.2.2.2.2.2.2.2.2.2.1,b.2.2.2.2.2.2.2.2.2.2.1,b.2.2.2.2.2.2.2.2.2.2.2⟩) (fun h=>h)
theorem rd31:Rd Tryz.prog 31 (List g_api_Cert):=Rd.slice Tryz.underlying31 rd28 (by kernel_rfl) (by decide)
theorem contract (H:Type)(enc:TypeId×Value→H)(W:World)(base:Nat)(args:Array Value)(ds gs:List (DataW H))(before:List MemPlace)
  (hval: ∀(j:Nat) t v,Tryz.f8.params[j]? =some t→args[j]? =some v→Value.okWide Tryz.prog W .any base t v)
  (hW:DataW.Whole enc Tryz.prog Tryz.f8.params.toList Rows.pathMoreSpec.vars false W args.toList ds gs before) (hL:laidMetH Tryz.prog Rows.pathMoreRow.laid W):
  Calls Tryz.prog 8 args W fun e W'=> ∃v,e= .returned v∧Rows.pathMoreSpec.post enc Tryz.prog Tryz.f8 false true false false W args v W':=by
 have hW':=hW;obtain⟨p,q,hA0,hV,rfl,hfz,hnd⟩:=hW;obtain⟨rfl,rfl⟩:=trodVars_none hV;rw[List.append_nil]at hW';have hA:DataW.TrodAll enc Tryz.prog W 0 (fun _=>true) true Tryz.f8.params.toList args.toList ds p:=hA0;have hA1:=hA;have hpl:Tryz.f8.params.toList=[31,31,31,9,3]:=by rw[Tryz.params8]
 rw[hpl]at hA1;obtain⟨v0,w0,d0,e0,p0,q0,ha0,he0,hp0,h0,r0⟩:=trodAll_cons hA1;obtain⟨v1,w1,d1,e1,p1,q1,ha1,he1,hp1,h1,r1⟩:=trodAll_cons r0;obtain⟨v2,w2,d2,e2,p2,q2,ha2,he2,hp2,h2,r2⟩:=trodAll_cons r1;obtain⟨v3,w3,d3,e3,p3,q3,ha3,he3,hp3,h3,r3⟩:=trodAll_cons r2;obtain⟨v4,w4,d4,e4,p4,q4,ha4,he4,hp4,h4,r4⟩:=trodAll_cons r3;obtain⟨z1,z2,z3⟩:=trodAll_nil r4;obtain rfl:args= #[v0,v1,v2,v3,v4]:=by
  apply Array.ext'; rw[ha0,ha1,ha2,ha3,ha4,z1]
 obtain rfl:ds=[d0,d1,d2,d3,d4]:=by rw[he0,he1,he2,he3,he4,z2]
 rw[Tryz.params8]at hval;obtain⟨x0,l0,c0,rfl⟩:=okWide_slice Tryz.underlying31 (hval 0 31 v0 rfl rfl);obtain⟨a0,s0⟩:=rd31.openS h0;obtain⟨x1,l1,c1,rfl⟩:=okWide_slice Tryz.underlying31 (hval 1 31 v1 rfl rfl);obtain⟨a1,s1⟩:=rd31.openS h1;obtain⟨x2,l2,c2,rfl⟩:=okWide_slice Tryz.underlying31 (hval 2 31 v2 rfl rfl);obtain⟨a2,s2⟩:=rd31.openS h2;obtain⟨a3,rfl⟩:=okWide_string Tryz.underlying9 (hval 3 9 v3 rfl rfl);obtain⟨a4,rfl,_,_,_⟩:=open_int Tryz.underlying3 (hval 4 3 v4 rfl rfl) h4;have hc:=JT (St.of W (gB hL)) s0 s1 s2 (more_true a0 a1 a2 a3 a4);refine Calls.mono hc ?_;rintro e W' ⟨v,rfl,hk,M,hle,S,rfl⟩;refine⟨.bool true,rfl,SQ (tb:=4) (by kernel_rfl) (by kernel_rfl) rfl (by kernel_rfl) Tryz.underlying4 hW' hA rfl rfl rfl hle S hk⟩
noncomputable def KX (os:Os):World:=
 {World.holding Tryz.prog os ⟨#[], #[],[]⟩with heap:=((((World.holding Tryz.prog os ⟨#[], #[],[]⟩).heap.modify 5 fun| .cells _ t fr=> .cells #[.int .u8 128,.int .u8 191,.int .u8 160,.int .u8 191,.int .u8 128,.int .u8 159,.int .u8 144,.int .u8 191,.int .u8 128,.int .u8 143,.int .u8 0,.int .u8 0,.int .u8 0,.int .u8 0,.int .u8 0,.int .u8 0,.int .u8 0,.int .u8 0,.int .u8 0,.int .u8 0,.int .u8 0,.int .u8 0,.int .u8 0,.int .u8 0,.int .u8 0,.int .u8 0,.int .u8 0,.int .u8 0,.int .u8 0,.int .u8 0,.int .u8 0,.int .u8 0] t fr|o=>o).modify 0 fun| .cells _ t fr=> .cells [[.int .i64 1,.func (.func 252) #[] #[]],[.int .i64 2,.func (.func 157) #[] #[]],[.int .i64 4,.func (.func 253) #[] #[]],[.int .i64 12,.func (.func 254) #[] #[]],[.int .i64 48,.func (.func 257) #[] #[]]].flatten.toArray t fr|o=>o).modify 4 fun| .cells _ t fr=> .cells ((List.replicate 128 240++List.replicate 66 241++List.replicate 30 2++[19]++List.replicate 12 3++[35,3,3,52,4,4,4,68]++List.replicate 11 241:List Int).map fun n=>Value.int .u8 n).toArray t fr|o=>o)}
theorem laid_met (os:Os):laidMetH Tryz.prog Rows.pathMoreRow.laid ((KX os).forCall (fun _ _=>0) ⟨#[], #[(.slice none 0 0:Value),(.slice none 0 0:Value),(.slice none 0 0:Value),(.string ⟨#[]⟩:Value),(.int .i64 0:Value)],[]⟩).memory:=
 laidMetH_of_parts3 (fuel:=8) (laidMet_of_run' 8 (by kernel_rfl) (by kernel_rfl)) (by kernel_rfl) (by kernel_rfl)
theorem reads (os:Os){H:Type}(enc:TypeId×Value→H): ∃places,DataW.whole enc Tryz.prog ((KX os).forCall (fun _ _=>0) ⟨#[], #[(.slice none 0 0:Value),(.slice none 0 0:Value),(.slice none 0 0:Value),(.string ⟨#[]⟩:Value),(.int .i64 0:Value)],[]⟩).memory Tryz.f8.params.toList Rows.pathMoreSpec.vars false #[(.slice none 0 0:Value),(.slice none 0 0:Value),(.slice none 0 0:Value),(.string ⟨#[]⟩:Value),(.int .i64 0:Value)].toList 8=some ([.nil,.nil,.nil,.lit (.string []),.lit (.int .i64 0)],[],places):=
 ⟨[],by kernel_rfl⟩
theorem lifted (os:Os)(started:os.Started)(H:Type)(enc:TypeId×Value→H)(F:Stop.Interp):
  ReturnsInHanded {} Tryz.checked os 8 .any ((OpenSpec.ofChange Rows.pathMoreSpec).preRow enc Tryz.prog Tryz.f8 Rows.pathMoreRow.domain false Rows.pathMoreRow.laid) (((OpenSpec.ofChange Rows.pathMoreSpec).at F).post enc Tryz.prog Tryz.f8 false true false false):=by
 obtain⟨places,hx⟩:=reads os enc;refine returnsInHanded_of_row (C:=Tryz.checked) (s:=OpenSpec.ofChange Rows.pathMoreSpec) own started (by kernel_rfl) Tryz.func8
  (witness_row_at (enc:=enc) (C:=Tryz.checked) false (KX os) #[(.slice none 0 0:Value),(.slice none 0 0:Value),(.slice none 0 0:Value),(.string ⟨#[]⟩:Value),(.int .i64 0:Value)] rfl (by kernel_rfl) (by kernel_rfl) (by kernel_rfl)
   (OpenSpec.preRow_of_cond 8 hx (by kernel_rfl) (fun k hk=>by cases hk) (by kernel_rfl) (laid_met os))) ?_
 intro W base args ds gs before hval hW _ _ _ hL _ _;exact contract H enc W base args ds gs before hval hW hL
theorem j0:laidOutB Tryz.prog=true:=by kernel_rfl
theorem j1:mapsRowed Tryz.prog=true:=by kernel_rfl
theorem j2:(Rows.pathMoreRow.inPlace==Tryz.prog.inPlace 8)=true:=by kernel_rfl
theorem j3:(Rows.pathMoreRow.unfollowed==Tryz.prog.unfollowed 8)=true:=by kernel_rfl
theorem j4:(Rows.pathMoreRow.recurses==Tryz.prog.recurses 8)=true:=by kernel_rfl
theorem j5:(Rows.pathMoreRow.named==Tryz.prog.varsNamed 8)=true:=by kernel_rfl
theorem joined:joinedFacts Tryz.prog 8 Tryz.f8 (OpenSpec.ofChange Rows.pathMoreSpec).bare Rows.pathMoreRow=true:=by
 unfold joinedFacts;rw[j0,j1,j2,j3,j4,j5];kernel_rfl
theorem s1:Tryz.pinned.checked.prog.funcNamed Rows.pathMoreRow.func=some 8:=by kernel_rfl
theorem s2:Tryz.f8.isInstance Tryz.pinned.checked.prog Rows.pathMoreRow.origin Rows.pathMoreRow.targs:=of_decide_eq_true (by kernel_rfl)
theorem s3:Tryz.f8.isWrapper Tryz.pinned.checked.prog Rows.pathMoreRow.wrapper Rows.pathMoreRow.mainSum:=by unfold Func.isWrapper; first|(rw[if_pos (by decide+kernel)]; kernel_rfl)|(rw[if_neg (by decide+kernel)]; exact⟨rfl,rfl⟩)
theorem s4:joinedFacts Tryz.pinned.checked.prog 8 Tryz.f8 (OpenSpec.ofChange Rows.pathMoreSpec).bare Rows.pathMoreRow=true:=joined
theorem s5 (os:Os)(started:os.Started)(H:Type)(enc:TypeId×Value→H)(F:Stop.Interp):ReturnsInHanded Rows.pathMoreRow.assume Tryz.pinned.checked os 8 .any (Rows.pathMoreRow.pre enc Tryz.pinned.checked.prog Tryz.f8 (OpenSpec.ofChange Rows.pathMoreSpec)) (((OpenSpec.ofChange Rows.pathMoreSpec).at F).post enc Tryz.pinned.checked.prog Tryz.f8 Rows.pathMoreRow.apart Rows.pathMoreRow.fresh Rows.pathMoreRow.handsOn Rows.pathMoreRow.again):=by rw[OpenClaim.pre_eq_preRow]; exact lifted os started H enc F
theorem said:Rows.PathMoreSaid:=
 OpenClaim.holds_of_cond 8 Tryz.f8 rfl rfl rfl rfl rfl rfl rfl ⟨rfl,rfl,rfl,rfl,rfl⟩ rfl rfl rfl rfl rfl s1 Tryz.func8 s4 s2 s3 (fun os started H enc _ F=>s5 os started H enc F)
theorem plain (f:FuncId)(fn:Func)(hf:Tryz.pinned.checked.prog.funcNamed "greatseal/greatseallaw19.PathMore" =some f)(hfn:Tryz.pinned.checked.prog.funcs[f]? =some fn):
  false=Tryz.pinned.checked.prog.looks []∧∀(j:Nat) t,fn.params[j]? =some t→Tryz.pinned.checked.prog.wantsStandIn t=false:=by
 obtain rfl:f=8:=Option.some.inj ((show Tryz.prog.funcNamed "greatseal/greatseallaw19.PathMore" =some 8 by kernel_rfl).symm.trans hf)|>.symm;obtain rfl:fn=Tryz.f8:=(Option.some.inj (Tryz.func8.symm.trans hfn)).symm;refine⟨by kernel_rfl,fun j t ht=> ?_⟩;rw[Tryz.params8]at ht;have hm:t∈[31,31,31,9,3]:=by simpa using Array.mem_of_getElem? ht
 have hall:([31,31,31,9,3].all fun u=> !Tryz.prog.wantsStandIn u)=true:=by kernel_rfl
 exact(show Tryz.prog.wantsStandIn t=false by simpa using List.all_eq_true.1 hall t hm)
theorem card:Rows.PathMoreCardSaid:=
 Claim7.holds_tied_plain_at .later [] _ _ _ _ said (fun _ h=>by cases h) (by kernel_rfl) (fun _ h=>by cases h) pathMore_row_tie rfl ⟨rfl,rfl⟩ (by kernel_rfl) rfl plain (by kernel_rfl)
end Go.Proofs.YtbajlmaijjcbmaaGreatDoor.lawPathMore
end
