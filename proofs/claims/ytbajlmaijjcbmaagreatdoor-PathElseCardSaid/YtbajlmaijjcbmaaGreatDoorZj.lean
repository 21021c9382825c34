/- Several texts, one behind the other. Conditions: none. -/
import Derived.Test.YtbajlmaijjcbmaaGreatDoorZi
import Derived.Test.YtbajlmaijjcbmaaGreatDoorZb
import Derived.Test.YtbajlmaijjcbmaaGreatDoorZh
import Derived.Test.YtbajlmaijjcbmaaGreatDoorCards
import Derived.Test.YtbajlmaijjcbmaaGreatDoorTie
import Derived.WalkKit
import Derived.ProofKit
import Derived.OpenShut
import Derived.Deep.DeepHandedRow
import Derived.Lib.LaidTab
import Derived.SevenTiedAt
import Derived.Stop.LaidErr
set_option linter.unusedSimpArgs false
set_option linter.unusedVariables false
set_option maxHeartbeats 4000000
set_option maxRecDepth 100000
section
namespace Go.Proofs.YtbajlmaijjcbmaaGreatDoor
open Go Go.Gw Go.Ax
theorem pathV_gen {leaf:g_api_Cert}{more roots:List g_api_Cert}(h1:more.length≤3)(h2: ∀c∈leaf::more,checkV c=0)(hk:caB 0 (leaf::more)=true)(hl:linksV (leaf::more)=0)
  (hr:roots.length≤16) (hc: ∀c∈roots,checkV c=0) (name:ByteArray) (now:Int):
  KJ roots (leaf::more) name now=if now<0∨now>1099511627776 then 1 else if nameV name≠0 then nameV name else if(leaf.Names.any fun s=>eqS name s)=false then 110 else
   if((leaf::more).any fun c=> !timeB c now)=true then 190 else Kx (leaf::more) now roots:=by
 have e1:PN (leaf::more++roots)=0:=(K0 _ _ _).2 fun k c hk=>by
  rcases List.mem_append.1 (List.mem_of_getElem? hk)with q|q
  ·exact h2 c q
  ·exact hc c q
 unfold KJ;rw[e1,hl,if_neg (nn0 rfl)];by_cases hb:now<0∨now>1099511627776
 ·have:G0 roots (leaf::more) name now=1:=by
   unfold G0;rw[if_pos];rcases hb with q|q
   ·exact .inr (.inr (.inr (.inl q)))
   ·exact .inr (.inr (.inr (.inr q)))
  rw[this,if_pos (by decide),if_pos hb]
 ·have:G0 roots (leaf::more) name now=nameV name:=by
   unfold G0;rw[if_neg];rintro(q|q|q|q)
   ·simp at q
   ·simp only[List.length_cons]at q; omega
   ·omega
   ·exact hb q
  rw[this,if_neg hb];by_cases hn:nameV name=0
  ·rw[if_neg (nn0 hn),if_neg (nn0 hn)];have ek:Ie (leaf::more) name now=if(leaf.Names.any fun s=>eqS name s)=false then 110 else if((leaf::more).any fun c=> !timeB c now)=true then 190 else 0:=by
    unfold Ie;rw[hk,if_neg (by decide)]
   rw[ek];cases leaf.Names.any fun s=>eqS name s with
   |false=>rfl
   |true=>
    cases (leaf::more).any fun c=> !timeB c now<;>rfl
  ·rw[if_pos hn,if_pos hn]
theorem else_any {leaf:g_api_Cert}{more:List g_api_Cert}{s:ByteArray}(hn:leaf.Names.length≤1000000):iter (BP (leaf::more) s) Dx (false,0)=some (leaf.Names.any fun x=>eqS x s):=by
 rw[TB leaf.Names (fun x=>eqS x s) hn (fun i x b hx=> ?_) (fun b=> ?_) false,Bool.false_or]
 ·have hi:=(List.getElem?_eq_some_iff.1 hx).1;unfold BP;show Ae (some leaf) _=_;rw[Ab,if_pos (decide_eq_true (show(i:Int)<(leaf.Names.length:Int)from by omega))];dsimp only;rw[MI (by omega)];cases b with
  |true=>rfl
  |false=>
   show Ae (some leaf) _=_;rw[Ab,Ec hx];rfl
 ·unfold BP;show Ae (some leaf) _=_;rw[Ab,if_neg (fun h=>by have:=of_decide_eq_true h; omega)]
theorem nameV_two (s:ByteArray):nameV s=0∨nameV s=110:=by
 rw[U9];split
 ·exact .inl rfl
 ·exact .inr rfl
theorem PathOk.rc {roots:List g_api_Cert}{leaf:g_api_Cert}{more:List g_api_Cert}{name:ByteArray}{now:Int}(P:PathOk roots leaf more name now): ∀c∈roots,checkV c=0:=fun c hc=>P.all c (List.mem_append_right _ hc)
theorem PathOk.cc {roots:List g_api_Cert}{leaf:g_api_Cert}{more:List g_api_Cert}{name:ByteArray}{now:Int}(P:PathOk roots leaf more name now): ∀c∈leaf::more,checkV c=0:=fun c hc=>P.all c (List.mem_append_left _ hc)
theorem PathOk.names {roots:List g_api_Cert}{leaf:g_api_Cert}{more:List g_api_Cert}{name:ByteArray}{now:Int}(P:PathOk roots leaf more name now): ∀s∈leaf.Names,nameV s=0:=by
 have hC:leaf.Ca=false:=by have:=Ug P.kin (k:=0) (c:=leaf) rfl; simpa using this
 exact(KS ((Rz (P.cc leaf List.mem_cons_self)).leaf hC).2.1).2.2
theorem else_fin (x10 x11 now f u:Int)(x4:Bool)(h1:x10=if x4=true then 0 else 110)(h2:x11=if now<0∨now>1099511627776 then 1 else if now<f∨now≥u then 190 else x11):
  ((((true&&((x10==0)==x4))&&(x4||(x10==110)))&&(((!((decide (now<f))||(decide (now≥u))))||(((decide (now<0))||(decide (now>1099511627776)))&&(x11==1)))||((!((decide (now<0))||(decide (now>1099511627776))))&&(x11==190)))))=true:=by
 have e1:((x10==0)==x4)=true∧(x4||(x10==110))=true:=by
  cases x4 with
  |true=>rw[if_pos rfl]at h1; rw[h1]; exact⟨rfl,rfl⟩
  |false=>rw[if_neg (by decide)]at h1; rw[h1]; exact⟨rfl,rfl⟩
 rw[e1.1,e1.2];by_cases ho:now<0∨now>1099511627776
 ·rw[if_pos ho]at h2;have:(decide (now<0)||decide (now>1099511627776))=true:=by rw[Bool.or_eq_true,decide_eq_true_eq,decide_eq_true_eq]; exact ho
  rw[this,h2]; simp
 ·rw[if_neg ho]at h2;have:(decide (now<0)||decide (now>1099511627776))=false:=by rw[Bool.or_eq_false_iff,decide_eq_false_iff_not,decide_eq_false_iff_not]; exact not_or.1 ho
  rw[this];by_cases hl:now<f∨now≥u
  ·rw[if_pos hl]at h2;rw[h2]; simp
  ·have:(decide (now<f)||decide (now≥u))=false:=by rw[Bool.or_eq_false_iff,decide_eq_false_iff_not,decide_eq_false_iff_not]; exact not_or.1 hl
   rw[this]; simp
theorem else_true (a0 a1:List g_api_Cert)(a2:ByteArray)(a3:Int)(a4:ByteArray)(a5:Int):De a0 a1 a2 a3 a4 a5=some true:=by
 unfold De;rw[PB,Ab,if_neg (by decide)];obtain⟨b,hb,h⟩:=YF a0 a1 a2;rw[hb,Ab,Pp a0 a1 a2 a3];cases b with
 |false=>rfl
 |true=>
  obtain⟨hr,hR,hc,hF,_⟩:=h rfl;cases hd:decide ((a4.size:Int)>200)with
  |true=>rfl
  |false=>
   rw[show gu (!((!true)||false)) (some (KJ a0 a1 a2 a3))=some (KJ a0 a1 a2 a3)from rfl,Ab];by_cases hz:KJ a0 a1 a2 a3=0
   ·obtain⟨leaf,more,rfl,P,ht⟩:=Ro hz;have d1:(((leaf::more).length:Int)==0)=false:=by rw[beq_eq_false_iff_ne]; simp only[List.length_cons]; omega
    rw[hz,d1,if_neg (by decide),else_any (by have:=(hF leaf List.mem_cons_self).nnames; omega),Ab,Ab,Pp,Ab,Pp,Ab];show Ae (some leaf) _=_;rw[Ab];have G:=pathV_gen P.len P.cc P.kin P.lnk P.rts P.rc;have key:=else_fin (KJ a0 (leaf::more) a4 a3) (KJ a0 (leaf::more) a2 a5) a5 leaf.From leaf.Until (leaf.Names.any fun x=>eqS x a4) (by
     rw[G a4 a3,if_neg (by have:=P.now0; have:=P.nowM; omega)];have es:(leaf.Names.any fun s=>eqS a4 s)=leaf.Names.any fun x=>eqS x a4:=by simp only[YH]
     rw[es];cases q:leaf.Names.any fun x=>eqS x a4 with
     |true=>
      obtain⟨s,h1,h2⟩:=List.any_eq_true.1 q;have hs:s=a4:=Iv.1 h2;subst hs;have hlate:((leaf::more).any fun c=> !timeB c a3)=false:=by
       rw[List.any_eq_false];intro c hc;rw[P.tim c hc]; decide
      rw[if_neg (nn0 (P.names s h1)),if_neg (by decide),hlate,if_neg (by decide),ht,if_pos rfl]
     |false=>
      rw[if_neg (show¬(false=true)from by decide)];rcases nameV_two a4 with z|z
      ·rw[if_neg (nn0 z),if_pos rfl]
      ·rw[if_pos (by rw[z]; decide),z]) (by
     rw[G a2 a5];by_cases ho:a5<0∨a5>1099511627776
     ·rw[if_pos ho,if_pos ho]
     ·rw[if_neg ho,if_neg ho,if_neg (nn0 P.nam),if_neg (by rw[P.has]; decide)];by_cases hl:a5<leaf.From∨a5≥leaf.Until
      ·have hlate:((leaf::more).any fun c=> !timeB c a5)=true:=by
        refine List.any_eq_true.2 ⟨leaf,List.mem_cons_self,?_⟩;have:timeB leaf a5=false:=by
         unfold timeB;rw[Bool.and_eq_false_iff,decide_eq_false_iff_not,decide_eq_false_iff_not]; omega
        rw[this]; rfl
       rw[if_pos hl,if_pos hlate]
      ·rw[if_neg hl])
    rw[show gu (!(decide (a5<leaf.From))) (idx (leaf::more) 0)=some (if a5<leaf.From then default else leaf)from by
     by_cases q:a5<leaf.From
     ·rw[decide_eq_true q,if_pos q]; rfl
     ·rw[decide_eq_false q,if_neg q]; rfl,Ab,B9,B9,B9]
    by_cases q:a5<leaf.From
    ·rw[if_pos q];rw[decide_eq_true q,Bool.true_or]at*;exact congrArg some key
    ·rw[if_neg q];exact congrArg some key
   ·rw[if_pos ?_];rw[Bool.or_eq_true];left;rw[Bool.or_eq_true];right;simpa using hz
end Go.Proofs.YtbajlmaijjcbmaaGreatDoor
end
section
namespace Go.Proofs.YtbajlmaijjcbmaaGreatDoor.lawPathElse
open Go Go.Gw Go.ChangeShapes Go.WideShapes Go.ChangeAt Go.RowKit
theorem own:ownKnob Tryz.prog.godebug=none:=by kernel_rfl
theorem tab_ir:Ir Tryz.prog 180 (.agg [.agg [.lit (.int .i64 1),.held [103,114,101,97,116,115,101,97,108,47,100,101,114,46,107,105,110,100,115,36,49]],.agg [.lit (.int .i64 2),.held [103,114,101,97,116,115,101,97,108,47,100,101,114,46,108,101,97,115,116]],.agg [.lit (.int .i64 4),.held [103,114,101,97,116,115,101,97,108,47,100,101,114,46,107,105,110,100,115,36,50]],.agg [.lit (.int .i64 12),.held [103,114,101,97,116,115,101,97,108,47,100,101,114,46,107,105,110,100,115,36,51]],.agg [.lit (.int .i64 48),.held [103,114,101,97,116,115,101,97,108,47,100,101,114,46,107,105,110,100,115,36,52]]]) [[.int .i64 1,.func (.func 252) #[] #[]],[.int .i64 2,.func (.func 157) #[] #[]],[.int .i64 4,.func (.func 253) #[] #[]],[.int .i64 12,.func (.func 254) #[] #[]],[.int .i64 48,.func (.func 257) #[] #[]]].flatten:=
 Ir.arr (n:=5) (k:=2) Tryz.underlying180 (by kernel_rfl) (by kernel_rfl) rfl rfl fun i d c h1 h2=>by
  match i,h1,h2 with
  |0,h1,h2=>cases h1; cases h2; exact Ir.pair Tryz.underlying146 rfl rfl rfl (by kernel_rfl) rfl rfl (by kernel_rfl) (by kernel_rfl) (Ir.int Tryz.underlying3) (Ir.fn Tryz.underlying144 Tryz.func252 (by kernel_rfl) (by kernel_rfl))
  |1,h1,h2=>cases h1; cases h2; exact Ir.pair Tryz.underlying146 rfl rfl rfl (by kernel_rfl) rfl rfl (by kernel_rfl) (by kernel_rfl) (Ir.int Tryz.underlying3) (Ir.fn Tryz.underlying144 Tryz.func157 (by kernel_rfl) (by kernel_rfl))
  |2,h1,h2=>cases h1; cases h2; exact Ir.pair Tryz.underlying146 rfl rfl rfl (by kernel_rfl) rfl rfl (by kernel_rfl) (by kernel_rfl) (Ir.int Tryz.underlying3) (Ir.fn Tryz.underlying144 Tryz.func253 (by kernel_rfl) (by kernel_rfl))
  |3,h1,h2=>cases h1; cases h2; exact Ir.pair Tryz.underlying146 rfl rfl rfl (by kernel_rfl) rfl rfl (by kernel_rfl) (by kernel_rfl) (Ir.int Tryz.underlying3) (Ir.fn Tryz.underlying144 Tryz.func254 (by kernel_rfl) (by kernel_rfl))
  |4,h1,h2=>cases h1; cases h2; exact Ir.pair Tryz.underlying146 rfl rfl rfl (by kernel_rfl) rfl rfl (by kernel_rfl) (by kernel_rfl) (Ir.int Tryz.underlying3) (Ir.fn Tryz.underlying144 Tryz.func257 (by kernel_rfl) (by kernel_rfl))
  |n+5,h1,h2=>cases h1
theorem gB {W:World}(h:laidMetH Tryz.prog Rows.pathElseRow.laid W):GB (memOf W):=fun p hp=>by
 obtain rfl:=List.mem_singleton.1 hp;exact gb_of (name:= "greatseal/der.kinds") (by kernel_rfl) (by kernel_rfl) (laidMetH.funcs h (d:= .agg [.agg [.lit (.int .i64 1),.iface "func" (.lit (.string [103,114,101,97,116,115,101,97,108,47,100,101,114,46,107,105,110,100,115,36,49]))],.agg [.lit (.int .i64 2),.iface "func" (.lit (.string [103,114,101,97,116,115,101,97,108,47,100,101,114,46,108,101,97,115,116]))],.agg [.lit (.int .i64 4),.iface "func" (.lit (.string [103,114,101,97,116,115,101,97,108,47,100,101,114,46,107,105,110,100,115,36,50]))],.agg [.lit (.int .i64 12),.iface "func" (.lit (.string [103,114,101,97,116,115,101,97,108,47,100,101,114,46,107,105,110,100,115,36,51]))],.agg [.lit (.int .i64 48),.iface "func" (.lit (.string [103,114,101,97,116,115,101,97,108,47,100,101,114,46,107,105,110,100,115,36,52]))]]) (List.Mem.tail _ (List.Mem.head _))) tab_ir
theorem rd3:Rd Tryz.prog 3 (Int):=Rd.int Tryz.underlying3
theorem rd9:Rd Tryz.prog 9 (ByteArray):=Rd.str Tryz.underlying9
theorem rd22:Rd Tryz.prog 22 (UInt64):=Rd.u64 Tryz.underlying22
theorem rd23:Rd Tryz.prog 23 (List ByteArray):=Rd.slice Tryz.underlying23 rd9 (by kernel_rfl) (by decide)
theorem rd4:Rd Tryz.prog 4 (Bool):=Rd.bool Tryz.underlying4
theorem rd84:Rd Tryz.prog 84 (UInt64×UInt64):=Rd.arr2 Tryz.underlying84 rd22 (by kernel_rfl) (by kernel_rfl)
theorem rd26:Rd Tryz.prog 26 (g_api_Sig):=Rd.struct Tryz.underlying26 (J9.more rfl rd22 (by kernel_rfl) (J9.last rfl rd22 (by kernel_rfl))) (by kernel_rfl) (fun b=>⟨b.1,b.2⟩) (fun h=>h)
theorem rd86:Rd Tryz.prog 86 (g_api_Promise):=Rd.struct Tryz.underlying86 (J9.more rfl rd3 (by kernel_rfl) (J9.more rfl rd3 (by kernel_rfl) (J9.more rfl rd84 (by kernel_rfl) (J9.last rfl rd26 (by kernel_rfl))))) (by kernel_rfl) (fun b=>⟨b.1,b.2.1,b.2.2.1,b.2.2.2⟩) (fun h=>h)
theorem rd24:Rd Tryz.prog 24 (List g_api_Promise):=Rd.slice Tryz.underlying24 rd86 (by kernel_rfl) (by decide)
theorem rd28:Rd Tryz.prog 28 (g_api_Cert):=Rd.struct Tryz.underlying28 (J9.more rfl rd3 (by kernel_rfl) (J9.more rfl rd9 (by kernel_rfl) (J9.more rfl rd9 (by kernel_rfl) (J9.more rfl rd22 (by kernel_rfl) (J9.more rfl rd23 (by kernel_rfl) (J9.more rfl rd3 (by kernel_rfl) (J9.more rfl rd3 (by kernel_rfl) (J9.more rfl rd4 (by kernel_rfl) (J9.more rfl rd3 (by kernel_rfl) (J9.more rfl rd23 (by kernel_rfl) (J9.more rfl rd24 (by kernel_rfl) (J9.last rfl rd26 (by kernel_rfl))))))))))))) (by kernel_rfl) (fun b=>⟨b.1,b.2.1,b.2.2.1,b.2.2.2.1,b.2.2.2.2.1,b.2.2.2.2.2.1,b.2.2.2.2.2.2.1,b.2.2.2.2.2.2.2.1,b.2.2.2.2.2.2.2.2.1,b.2.2.2.2.2.2.2.2.2.1,b.2.2.2.2.2.2.2.2.2.2.1,b.2.2.2.2.2.2.2.2.2.2.2⟩) (fun h=>h)
theorem rd31:Rd Tryz.prog 31 (List g_api_Cert):=Rd.slice Tryz.underlying31 rd28 (by kernel_rfl) (by decide)
theorem contract (H:Type)(enc:TypeId×Value→H)(W:World)(base:Nat)(args:Array Value)(ds gs:List (DataW H))(before:List MemPlace)
  (hval: ∀(j:Nat) t v,Tryz.f9.params[j]? =some t→args[j]? =some v→Value.okWide Tryz.prog W .any base t v)
  (hW:DataW.Whole enc Tryz.prog Tryz.f9.params.toList Rows.pathElseSpec.vars false W args.toList ds gs before) (hL:laidMetH Tryz.prog Rows.pathElseRow.laid W):
  Calls Tryz.prog 9 args W fun e W'=> ∃v,e= .returned v∧Rows.pathElseSpec.post enc Tryz.prog Tryz.f9 false true false false W args v W':=by
 have hW':=hW;obtain⟨p,q,hA0,hV,rfl,hfz,hnd⟩:=hW;obtain⟨rfl,rfl⟩:=trodVars_none hV;rw[List.append_nil]at hW';have hA:DataW.TrodAll enc Tryz.prog W 0 (fun _=>true) true Tryz.f9.params.toList args.toList ds p:=hA0;have hA1:=hA;have hpl:Tryz.f9.params.toList=[31,31,9,3,9,3]:=by rw[Tryz.params9]
 rw[hpl]at hA1;obtain⟨v0,w0,d0,e0,p0,q0,ha0,he0,hp0,h0,r0⟩:=trodAll_cons hA1;obtain⟨v1,w1,d1,e1,p1,q1,ha1,he1,hp1,h1,r1⟩:=trodAll_cons r0;obtain⟨v2,w2,d2,e2,p2,q2,ha2,he2,hp2,h2,r2⟩:=trodAll_cons r1;obtain⟨v3,w3,d3,e3,p3,q3,ha3,he3,hp3,h3,r3⟩:=trodAll_cons r2;obtain⟨v4,w4,d4,e4,p4,q4,ha4,he4,hp4,h4,r4⟩:=trodAll_cons r3;obtain⟨v5,w5,d5,e5,p5,q5,ha5,he5,hp5,h5,r5⟩:=trodAll_cons r4;obtain⟨z1,z2,z3⟩:=trodAll_nil r5;obtain rfl:args= #[v0,v1,v2,v3,v4,v5]:=by
  apply Array.ext'; rw[ha0,ha1,ha2,ha3,ha4,ha5,z1]
 obtain rfl:ds=[d0,d1,d2,d3,d4,d5]:=by rw[he0,he1,he2,he3,he4,he5,z2]
 rw[Tryz.params9]at hval;obtain⟨x0,l0,c0,rfl⟩:=okWide_slice Tryz.underlying31 (hval 0 31 v0 rfl rfl);obtain⟨a0,s0⟩:=rd31.openS h0;obtain⟨x1,l1,c1,rfl⟩:=okWide_slice Tryz.underlying31 (hval 1 31 v1 rfl rfl);obtain⟨a1,s1⟩:=rd31.openS h1;obtain⟨a2,rfl⟩:=okWide_string Tryz.underlying9 (hval 2 9 v2 rfl rfl);obtain⟨a3,rfl,_,_,_⟩:=open_int Tryz.underlying3 (hval 3 3 v3 rfl rfl) h3;obtain⟨a4,rfl⟩:=okWide_string Tryz.underlying9 (hval 4 9 v4 rfl rfl);obtain⟨a5,rfl,_,_,_⟩:=open_int Tryz.underlying3 (hval 5 3 v5 rfl rfl) h5;have hc:=JQ (St.of W (gB hL)) s0 s1 (else_true a0 a1 a2 a3 a4 a5);refine Calls.mono hc ?_;rintro e W' ⟨v,rfl,hk,M,hle,S,rfl⟩;refine⟨.bool true,rfl,SS (tb:=4) (by kernel_rfl) (by kernel_rfl) rfl (by kernel_rfl) Tryz.underlying4 hW' hA rfl rfl rfl hle S hk⟩
noncomputable def KW (os:Os):World:=
 {World.holding Tryz.prog os ⟨#[], #[],[]⟩with heap:=((((World.holding Tryz.prog os ⟨#[], #[],[]⟩).heap.modify 5 fun| .cells _ t fr=> .cells #[.int .u8 128,.int .u8 191,.int .u8 160,.int .u8 191,.int .u8 128,.int .u8 159,.int .u8 144,.int .u8 191,.int .u8 128,.int .u8 143,.int .u8 0,.int .u8 0,.int .u8 0,.int .u8 0,.int .u8 0,.int .u8 0,.int .u8 0,.int .u8 0,.int .u8 0,.int .u8 0,.int .u8 0,.int .u8 0,.int .u8 0,.int .u8 0,.int .u8 0,.int .u8 0,.int .u8 0,.int .u8 0,.int .u8 0,.int .u8 0,.int .u8 0,.int .u8 0] t fr|o=>o).modify 0 fun| .cells _ t fr=> .cells [[.int .i64 1,.func (.func 252) #[] #[]],[.int .i64 2,.func (.func 157) #[] #[]],[.int .i64 4,.func (.func 253) #[] #[]],[.int .i64 12,.func (.func 254) #[] #[]],[.int .i64 48,.func (.func 257) #[] #[]]].flatten.toArray t fr|o=>o).modify 4 fun| .cells _ t fr=> .cells ((List.replicate 128 240++List.replicate 66 241++List.replicate 30 2++[19]++List.replicate 12 3++[35,3,3,52,4,4,4,68]++List.replicate 11 241:List Int).map fun n=>Value.int .u8 n).toArray t fr|o=>o)}
theorem laid_met (os:Os):laidMetH Tryz.prog Rows.pathElseRow.laid ((KW os).forCall (fun _ _=>0) ⟨#[], #[(.slice none 0 0:Value),(.slice none 0 0:Value),(.string ⟨#[]⟩:Value),(.int .i64 0:Value),(.string ⟨#[]⟩:Value),(.int .i64 0:Value)],[]⟩).memory:=
 laidMetH_of_parts3 (fuel:=8) (laidMet_of_run' 8 (by kernel_rfl) (by kernel_rfl)) (by kernel_rfl) (by kernel_rfl)
theorem reads (os:Os){H:Type}(enc:TypeId×Value→H): ∃places,DataW.whole enc Tryz.prog ((KW os).forCall (fun _ _=>0) ⟨#[], #[(.slice none 0 0:Value),(.slice none 0 0:Value),(.string ⟨#[]⟩:Value),(.int .i64 0:Value),(.string ⟨#[]⟩:Value),(.int .i64 0:Value)],[]⟩).memory Tryz.f9.params.toList Rows.pathElseSpec.vars false #[(.slice none 0 0:Value),(.slice none 0 0:Value),(.string ⟨#[]⟩:Value),(.int .i64 0:Value),(.string ⟨#[]⟩:Value),(.int .i64 0:Value)].toList 8=some ([.nil,.nil,.lit (.string []),.lit (.int .i64 0),.lit (.string []),.lit (.int .i64 0)],[],places):=
 ⟨[],by kernel_rfl⟩
theorem lifted (os:Os)(started:os.Started)(H:Type)(enc:TypeId×Value→H)(F:Stop.Interp):
  ReturnsInHanded {} Tryz.checked os 9 .any ((OpenSpec.ofChange Rows.pathElseSpec).preRow enc Tryz.prog Tryz.f9 Rows.pathElseRow.domain false Rows.pathElseRow.laid) (((OpenSpec.ofChange Rows.pathElseSpec).at F).post enc Tryz.prog Tryz.f9 false true false false):=by
 obtain⟨places,hx⟩:=reads os enc;refine returnsInHanded_of_row (C:=Tryz.checked) (s:=OpenSpec.ofChange Rows.pathElseSpec) own started (by kernel_rfl) Tryz.func9
  (witness_row_at (enc:=enc) (C:=Tryz.checked) false (KW os) #[(.slice none 0 0:Value),(.slice none 0 0:Value),(.string ⟨#[]⟩:Value),(.int .i64 0:Value),(.string ⟨#[]⟩:Value),(.int .i64 0:Value)] rfl (by kernel_rfl) (by kernel_rfl) (by kernel_rfl)
   (OpenSpec.preRow_of_cond 8 hx (by kernel_rfl) (fun k hk=>by cases hk) (by kernel_rfl) (laid_met os))) ?_
 intro W base args ds gs before hval hW _ _ _ hL _ _;exact contract H enc W base args ds gs before hval hW hL
theorem j0:laidOutB Tryz.prog=true:=by kernel_rfl
theorem j1:mapsRowed Tryz.prog=true:=by kernel_rfl
theorem j2:(Rows.pathElseRow.inPlace==Tryz.prog.inPlace 9)=true:=by kernel_rfl
theorem j3:(Rows.pathElseRow.unfollowed==Tryz.prog.unfollowed 9)=true:=by kernel_rfl
theorem j4:(Rows.pathElseRow.recurses==Tryz.prog.recurses 9)=true:=by kernel_rfl
theorem j5:(Rows.pathElseRow.named==Tryz.prog.varsNamed 9)=true:=by kernel_rfl
theorem joined:joinedFacts Tryz.prog 9 Tryz.f9 (OpenSpec.ofChange Rows.pathElseSpec).bare Rows.pathElseRow=true:=by
 unfold joinedFacts;rw[j0,j1,j2,j3,j4,j5];kernel_rfl
theorem s1:Tryz.pinned.checked.prog.funcNamed Rows.pathElseRow.func=some 9:=by kernel_rfl
theorem s2:Tryz.f9.isInstance Tryz.pinned.checked.prog Rows.pathElseRow.origin Rows.pathElseRow.targs:=of_decide_eq_true (by kernel_rfl)
theorem s3:Tryz.f9.isWrapper Tryz.pinned.checked.prog Rows.pathElseRow.wrapper Rows.pathElseRow.mainSum:=by unfold Func.isWrapper; first|(rw[if_pos (by decide+kernel)]; kernel_rfl)|(rw[if_neg (by decide+kernel)]; exact⟨rfl,rfl⟩)
theorem s4:joinedFacts Tryz.pinned.checked.prog 9 Tryz.f9 (OpenSpec.ofChange Rows.pathElseSpec).bare Rows.pathElseRow=true:=joined
theorem s5 (os:Os)(started:os.Started)(H:Type)(enc:TypeId×Value→H)(F:Stop.Interp):ReturnsInHanded Rows.pathElseRow.assume Tryz.pinned.checked os 9 .any (Rows.pathElseRow.pre enc Tryz.pinned.checked.prog Tryz.f9 (OpenSpec.ofChange Rows.pathElseSpec)) (((OpenSpec.ofChange Rows.pathElseSpec).at F).post enc Tryz.pinned.checked.prog Tryz.f9 Rows.pathElseRow.apart Rows.pathElseRow.fresh Rows.pathElseRow.handsOn Rows.pathElseRow.again):=by rw[OpenClaim.pre_eq_preRow]; exact lifted os started H enc F
theorem said:Rows.PathElseSaid:=
 OpenClaim.holds_of_cond 9 Tryz.f9 rfl rfl rfl rfl rfl rfl rfl ⟨rfl,rfl,rfl,rfl,rfl⟩ rfl rfl rfl rfl rfl s1 Tryz.func9 s4 s2 s3 (fun os started H enc _ F=>s5 os started H enc F)
theorem plain (f:FuncId)(fn:Func)(hf:Tryz.pinned.checked.prog.funcNamed "greatseal/greatseallaw19.PathElse" =some f)(hfn:Tryz.pinned.checked.prog.funcs[f]? =some fn):
  false=Tryz.pinned.checked.prog.looks []∧∀(j:Nat) t,fn.params[j]? =some t→Tryz.pinned.checked.prog.wantsStandIn t=false:=by
 obtain rfl:f=9:=Option.some.inj ((show Tryz.prog.funcNamed "greatseal/greatseallaw19.PathElse" =some 9 by kernel_rfl).symm.trans hf)|>.symm;obtain rfl:fn=Tryz.f9:=(Option.some.inj (Tryz.func9.symm.trans hfn)).symm;refine⟨by kernel_rfl,fun j t ht=> ?_⟩;rw[Tryz.params9]at ht;have hm:t∈[31,31,9,3,9,3]:=by simpa using Array.mem_of_getElem? ht
 have hall:([31,31,9,3,9,3].all fun u=> !Tryz.prog.wantsStandIn u)=true:=by kernel_rfl
 exact(show Tryz.prog.wantsStandIn t=false by simpa using List.all_eq_true.1 hall t hm)
theorem card:Rows.PathElseCardSaid:=
 Claim7.holds_tied_plain_at .later [] _ _ _ _ said (fun _ h=>by cases h) (by kernel_rfl) (fun _ h=>by cases h) pathElse_row_tie rfl ⟨rfl,rfl⟩ (by kernel_rfl) rfl plain (by kernel_rfl)
end Go.Proofs.YtbajlmaijjcbmaaGreatDoor.lawPathElse
end
