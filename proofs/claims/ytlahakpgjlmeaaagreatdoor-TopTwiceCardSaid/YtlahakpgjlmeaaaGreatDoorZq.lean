/- The law TopTwice: it tells true of every input, and leaves its arguments as they were. Conditions: none. -/
import Derived.Test.YtlahakpgjlmeaaaGreatDoorZa
import Derived.Test.YtlahakpgjlmeaaaGreatDoorZb
import Derived.Test.YtlahakpgjlmeaaaGreatDoorZn
import Derived.Test.YtlahakpgjlmeaaaGreatDoorZp
import Derived.Test.YtlahakpgjlmeaaaGreatDoorCards
import Derived.Test.YtlahakpgjlmeaaaGreatDoorTie
import Derived.WalkKit
import Derived.ProofKit
import Derived.OpenShut
import Derived.Deep.DeepHandedRow
import Derived.Lib.LaidTab
import Derived.SevenTiedAt
import Derived.Stop.LaidErr
set_option linter.unusedSimpArgs false
set_option linter.unusedVariables false
set_option maxHeartbeats 2000000
set_option maxRecDepth 100000
namespace Go.Proofs.YtlahakpgjlmeaaaGreatDoor.lawTopTwice
open Go Go.Gw Go.ChangeShapes Go.WideShapes Go.ChangeAt Go.RowKit
theorem own:ownKnob Tryz.prog.godebug=none:=by kernel_rfl
theorem tab_ir:Ir Tryz.prog 334 (.agg [.agg [.lit (.int .i64 1),.held [103,114,101,97,116,115,101,97,108,47,100,101,114,46,107,105,110,100,115,36,49]],.agg [.lit (.int .i64 2),.held [103,114,101,97,116,115,101,97,108,47,100,101,114,46,108,101,97,115,116]],.agg [.lit (.int .i64 4),.held [103,114,101,97,116,115,101,97,108,47,100,101,114,46,107,105,110,100,115,36,50]],.agg [.lit (.int .i64 12),.held [103,114,101,97,116,115,101,97,108,47,100,101,114,46,107,105,110,100,115,36,51]],.agg [.lit (.int .i64 48),.held [103,114,101,97,116,115,101,97,108,47,100,101,114,46,107,105,110,100,115,36,52]]]) [[.int .i64 1,.func (.func 409) #[] #[]],[.int .i64 2,.func (.func 73) #[] #[]],[.int .i64 4,.func (.func 410) #[] #[]],[.int .i64 12,.func (.func 411) #[] #[]],[.int .i64 48,.func (.func 414) #[] #[]]].flatten:=
 Ir.arr (n:=5) (k:=2) Tryz.underlying334 (by kernel_rfl) (by kernel_rfl) rfl rfl fun i d c h1 h2=>by
  match i,h1,h2 with
  |0,h1,h2=>cases h1; cases h2; exact Ir.pair Tryz.underlying252 rfl rfl rfl (by kernel_rfl) rfl rfl (by kernel_rfl) (by kernel_rfl) (Ir.int Tryz.underlying3) (Ir.fn Tryz.underlying157 Tryz.func409 (by kernel_rfl) (by kernel_rfl))
  |1,h1,h2=>cases h1; cases h2; exact Ir.pair Tryz.underlying252 rfl rfl rfl (by kernel_rfl) rfl rfl (by kernel_rfl) (by kernel_rfl) (Ir.int Tryz.underlying3) (Ir.fn Tryz.underlying157 Tryz.func73 (by kernel_rfl) (by kernel_rfl))
  |2,h1,h2=>cases h1; cases h2; exact Ir.pair Tryz.underlying252 rfl rfl rfl (by kernel_rfl) rfl rfl (by kernel_rfl) (by kernel_rfl) (Ir.int Tryz.underlying3) (Ir.fn Tryz.underlying157 Tryz.func410 (by kernel_rfl) (by kernel_rfl))
  |3,h1,h2=>cases h1; cases h2; exact Ir.pair Tryz.underlying252 rfl rfl rfl (by kernel_rfl) rfl rfl (by kernel_rfl) (by kernel_rfl) (Ir.int Tryz.underlying3) (Ir.fn Tryz.underlying157 Tryz.func411 (by kernel_rfl) (by kernel_rfl))
  |4,h1,h2=>cases h1; cases h2; exact Ir.pair Tryz.underlying252 rfl rfl rfl (by kernel_rfl) rfl rfl (by kernel_rfl) (by kernel_rfl) (Ir.int Tryz.underlying3) (Ir.fn Tryz.underlying157 Tryz.func414 (by kernel_rfl) (by kernel_rfl))
  |n+5,h1,h2=>cases h1
theorem gB {W:World}(h:laidMetH Tryz.prog Rows.topTwiceRow.laid W):GB (memOf W):=by
 refine⟨fun p hp=> ?_,fun g hg=> ?_⟩
 ·rcases Ak1.1 hp with rfl|hp
  ·exact gb_of (name:= "greatseal/der.kinds") (by kernel_rfl) (by kernel_rfl) (laidMetH.funcs h (d:= .agg [.agg [.lit (.int .i64 1),.iface "func" (.lit (.string [103,114,101,97,116,115,101,97,108,47,100,101,114,46,107,105,110,100,115,36,49]))],.agg [.lit (.int .i64 2),.iface "func" (.lit (.string [103,114,101,97,116,115,101,97,108,47,100,101,114,46,108,101,97,115,116]))],.agg [.lit (.int .i64 4),.iface "func" (.lit (.string [103,114,101,97,116,115,101,97,108,47,100,101,114,46,107,105,110,100,115,36,50]))],.agg [.lit (.int .i64 12),.iface "func" (.lit (.string [103,114,101,97,116,115,101,97,108,47,100,101,114,46,107,105,110,100,115,36,51]))],.agg [.lit (.int .i64 48),.iface "func" (.lit (.string [103,114,101,97,116,115,101,97,108,47,100,101,114,46,107,105,110,100,115,36,52]))]]) (List.Mem.tail _ (List.Mem.tail _ (List.Mem.tail _ (List.Mem.tail _ (List.Mem.tail _ (List.Mem.tail _ (List.Mem.head _)))))))) tab_ir
  obtain rfl:=AlB.1 hp;exact gb_int (name:= "internal/strconv.uint64pow10") (k:= .u64) (zs:=[1,10,100,1000,10000,100000,1000000,10000000,100000000,1000000000,10000000000,100000000000,1000000000000,10000000000000,100000000000000,1000000000000000,10000000000000000,100000000000000000,1000000000000000000,10000000000000000000]) (i:=2) (by kernel_rfl) (by kernel_rfl) Tryz.underlying471 Tryz.underlying24 (by kernel_rfl) (by kernel_rfl) h rfl
 ·rcases Ak1.1 hg with rfl|hg
  ·exact gb_if (name:= "strconv.ErrSyntax") (i:=5) (by kernel_rfl) (by kernel_rfl) Tryz.underlying349 h rfl
  obtain rfl:=AlB.1 hg;exact gb_if (name:= "strconv.ErrRange") (i:=4) (by kernel_rfl) (by kernel_rfl) Tryz.underlying349 h rfl
theorem rd5:Rd Tryz.prog 5 (UInt8):=Rd.u8 Tryz.underlying5
theorem rd22:Rd Tryz.prog 22 (List UInt8):=Rd.slice Tryz.underlying22 rd5 (by kernel_rfl) (by decide)
theorem rd3:Rd Tryz.prog 3 (Int):=Rd.int Tryz.underlying3
theorem rd9:Rd Tryz.prog 9 (ByteArray):=Rd.str Tryz.underlying9
theorem rd23:Rd Tryz.prog 23 (List ByteArray):=Rd.slice Tryz.underlying23 rd9 (by kernel_rfl) (by decide)
theorem rd24:Rd Tryz.prog 24 (UInt64):=Rd.u64 Tryz.underlying24
theorem rd26:Rd Tryz.prog 26 (Ba):=Rd.struct Tryz.underlying26 (AeG.more rfl rd3 (by kernel_rfl) (AeG.more rfl rd23 (by kernel_rfl) (AeG.more rfl rd24 (by kernel_rfl) (AeG.last rfl rd3 (by kernel_rfl))))) (by kernel_rfl) (fun b=>⟨b.1,b.2.1,b.2.2.1,b.2.2.2⟩) (fun h=>h)
theorem UK {m:Mem}{cs:List Value}{x:Ba}(h:GoT.rep m cs x): ∃v1,cs=[vI x.Account,v1,vU x.Key,vI x.Life]∧SlR m v1 x.Names:=by
 obtain⟨_,_,rfl,rfl,⟨_,_,rfl,⟨v1,rfl,h1⟩,⟨_,_,rfl,rfl,rfl⟩⟩⟩:=h;exact⟨v1,rfl,h1⟩
theorem u64_wf {n:Int}(h:(Lit.int .u64 n).wf=true): ∃a:UInt64,n=(a.toNat:Int):=by
 have h:(decide ((0:Int)≤n)&&decide (n≤18446744073709551615))=true:=h;rw[Aks,AkH,AkH]at h;exact⟨UInt64.ofNat n.toNat,by rw[UInt64.toNat_ofNat']; omega⟩
theorem AgE (H:Type)(enc:TypeId×Value→H)(W:World)(base:Nat)(args:Array Value)(ds gs:List (DataW H))(before:List MemPlace)
  (hval: ∀(j:Nat) t v,Tryz.f3.params[j]? =some t→args[j]? =some v→Value.okWide Tryz.prog W .any base t v)
  (hW:DataW.Whole enc Tryz.prog Tryz.f3.params.toList Rows.topTwiceSpec.vars false W args.toList ds gs before) (hL:laidMetH Tryz.prog Rows.topTwiceRow.laid W):
  Calls Tryz.prog 3 args W fun e W'=> ∃v,e= .returned v∧Rows.topTwiceSpec.post enc Tryz.prog Tryz.f3 false true false false W args v W':=by
 have hW':=hW;obtain⟨p,q,hA0,hV,rfl,hfz,hnd⟩:=hW;obtain⟨rfl,rfl⟩:=trodVars_none hV;rw[AkX]at hW';have hA:DataW.TrodAll enc Tryz.prog W 0 (fun _=>true) true Tryz.f3.params.toList args.toList ds p:=hA0;have hA1:=hA;have hpl:Tryz.f3.params.toList=[22,26,24,3]:=by rw[Tryz.params3]
 rw[hpl]at hA1;obtain⟨v0,w0,d0,e0,p0,q0,ha0,he0,hp0,h0,r0⟩:=trodAll_cons hA1;obtain⟨v1,w1,d1,e1,p1,q1,ha1,he1,hp1,h1,r1⟩:=trodAll_cons r0;obtain⟨v2,w2,d2,e2,p2,q2,ha2,he2,hp2,h2,r2⟩:=trodAll_cons r1;obtain⟨v3,w3,d3,e3,p3,q3,ha3,he3,hp3,h3,r3⟩:=trodAll_cons r2;obtain⟨z1,z2,z3⟩:=trodAll_nil r3;obtain rfl:args= #[v0,v1,v2,v3]:=by
  apply Array.ext'; rw[ha0,ha1,ha2,ha3,z1]
 obtain rfl:ds=[d0,d1,d2,d3]:=by rw[he0,he1,he2,he3,z2]
 rw[Tryz.params3]at hval;obtain⟨x0,l0,c0,rfl⟩:=okWide_slice Tryz.underlying22 (hval 0 22 v0 rfl rfl);obtain⟨a0,s0⟩:=rd22.openS h0;obtain⟨c1,rfl,_⟩:=okWide_struct Tryz.underlying26 (hval 1 26 v1 rfl rfl);obtain⟨a1,s1⟩:=rd26.openA h1;obtain⟨z1_0,o1,y1_0⟩:=UK s1;obtain rfl:=arr_of o1;obtain⟨n2,rfl,_,_,g2⟩:=open_int Tryz.underlying24 (hval 2 24 v2 rfl rfl) h2;obtain⟨a2,rfl⟩:=u64_wf g2;obtain⟨a3,rfl,_,_,_⟩:=open_int Tryz.underlying3 (hval 3 3 v3 rfl rfl) h3;have hc:=SZ (St.of W (gB hL)) s0 y1_0 (Aan a0 a1 a2 a3);refine Calls.mono hc ?_;rintro e W' ⟨v,rfl,hk,M,hle,S,rfl⟩;refine⟨.bool true,rfl,Acy (tb:=4) (by kernel_rfl) (by kernel_rfl) rfl (by kernel_rfl) Tryz.underlying4 hW' hA rfl rfl rfl hle S hk⟩
noncomputable def Sh (os:Os):World:=
 {World.holding Tryz.prog os ⟨#[.cells #[.string ⟨#[118,97,108,117,101,32,111,117,116,32,111,102,32,114,97,110,103,101]⟩] 461,.cells #[.string ⟨#[105,110,118,97,108,105,100,32,115,121,110,116,97,120]⟩] 461], #[],[]⟩with heap:=(((((((((World.holding Tryz.prog os ⟨#[.cells #[.string ⟨#[118,97,108,117,101,32,111,117,116,32,111,102,32,114,97,110,103,101]⟩] 461,.cells #[.string ⟨#[105,110,118,97,108,105,100,32,115,121,110,116,97,120]⟩] 461], #[],[]⟩).heap.modify 9 fun| .cells _ t fr=> .cells #[.int .u8 0,.int .u8 1,.int .u8 28,.int .u8 2,.int .u8 29,.int .u8 14,.int .u8 24,.int .u8 3,.int .u8 30,.int .u8 22,.int .u8 20,.int .u8 15,.int .u8 25,.int .u8 17,.int .u8 4,.int .u8 8,.int .u8 31,.int .u8 27,.int .u8 13,.int .u8 23,.int .u8 21,.int .u8 19,.int .u8 16,.int .u8 7,.int .u8 26,.int .u8 12,.int .u8 18,.int .u8 6,.int .u8 11,.int .u8 5,.int .u8 10,.int .u8 9] t fr|o=>o).modify 10 fun| .cells _ t fr=> .cells #[.int .u8 0,.int .u8 1,.int .u8 56,.int .u8 2,.int .u8 57,.int .u8 49,.int .u8 28,.int .u8 3,.int .u8 61,.int .u8 58,.int .u8 42,.int .u8 50,.int .u8 38,.int .u8 29,.int .u8 17,.int .u8 4,.int .u8 62,.int .u8 47,.int .u8 59,.int .u8 36,.int .u8 45,.int .u8 43,.int .u8 51,.int .u8 22,.int .u8 53,.int .u8 39,.int .u8 33,.int .u8 30,.int .u8 24,.int .u8 18,.int .u8 12,.int .u8 5,.int .u8 63,.int .u8 55,.int .u8 48,.int .u8 27,.int .u8 60,.int .u8 41,.int .u8 37,.int .u8 16,.int .u8 46,.int .u8 35,.int .u8 44,.int .u8 21,.int .u8 52,.int .u8 32,.int .u8 23,.int .u8 11,.int .u8 54,.int .u8 26,.int .u8 40,.int .u8 15,.int .u8 34,.int .u8 20,.int .u8 31,.int .u8 10,.int .u8 25,.int .u8 14,.int .u8 19,.int .u8 9,.int .u8 13,.int .u8 8,.int .u8 7,.int .u8 6] t fr|o=>o).modify 8 fun| .cells _ t fr=> .cells #[.int .u64 1,.int .u64 10,.int .u64 100,.int .u64 1000,.int .u64 10000,.int .u64 100000,.int .u64 1000000,.int .u64 10000000,.int .u64 100000000,.int .u64 1000000000,.int .u64 10000000000,.int .u64 100000000000,.int .u64 1000000000000,.int .u64 10000000000000,.int .u64 100000000000000,.int .u64 1000000000000000,.int .u64 10000000000000000,.int .u64 100000000000000000,.int .u64 1000000000000000000,.int .u64 10000000000000000000] t fr|o=>o).modify 5 fun| .cells _ t fr=> .cells #[.int .u8 128,.int .u8 191,.int .u8 160,.int .u8 191,.int .u8 128,.int .u8 159,.int .u8 144,.int .u8 191,.int .u8 128,.int .u8 143,.int .u8 0,.int .u8 0,.int .u8 0,.int .u8 0,.int .u8 0,.int .u8 0,.int .u8 0,.int .u8 0,.int .u8 0,.int .u8 0,.int .u8 0,.int .u8 0,.int .u8 0,.int .u8 0,.int .u8 0,.int .u8 0,.int .u8 0,.int .u8 0,.int .u8 0,.int .u8 0,.int .u8 0,.int .u8 0] t fr|o=>o).modify 7 fun| .cells _ t fr=> .cells #[.iface 459 (.pointer (some ⟨16,0,none⟩))] t fr|o=>o).modify 6 fun| .cells _ t fr=> .cells #[.iface 459 (.pointer (some ⟨17,0,none⟩))] t fr|o=>o).modify 0 fun| .cells _ t fr=> .cells [[.int .i64 1,.func (.func 409) #[] #[]],[.int .i64 2,.func (.func 73) #[] #[]],[.int .i64 4,.func (.func 410) #[] #[]],[.int .i64 12,.func (.func 411) #[] #[]],[.int .i64 48,.func (.func 414) #[] #[]]].flatten.toArray t fr|o=>o).modify 4 fun| .cells _ t fr=> .cells ((List.replicate 128 240++List.replicate 66 241++List.replicate 30 2++[19]++List.replicate 12 3++[35,3,3,52,4,4,4,68]++List.replicate 11 241:List Int).map fun n=>Value.int .u8 n).toArray t fr|o=>o)}
theorem AfW (os:Os):laidMetH Tryz.prog Rows.topTwiceRow.laid ((Sh os).forCall (fun _ _=>0) ⟨#[], #[(.slice none 0 0:Value),(.agg #[.int .i64 0,.slice none 0 0,.int .u64 0,.int .i64 0]:Value),(.int .u64 0:Value),(.int .i64 0:Value)],[]⟩).memory:=
 laidMetH_of_parts3 (fuel:=8) (laidMet_of_run' 8 (by kernel_rfl) (by kernel_rfl)) (by kernel_rfl) (by kernel_rfl)
theorem reads (os:Os){H:Type}(enc:TypeId×Value→H): ∃places,DataW.whole enc Tryz.prog ((Sh os).forCall (fun _ _=>0) ⟨#[], #[(.slice none 0 0:Value),(.agg #[.int .i64 0,.slice none 0 0,.int .u64 0,.int .i64 0]:Value),(.int .u64 0:Value),(.int .i64 0:Value)],[]⟩).memory Tryz.f3.params.toList Rows.topTwiceSpec.vars false #[(.slice none 0 0:Value),(.agg #[.int .i64 0,.slice none 0 0,.int .u64 0,.int .i64 0]:Value),(.int .u64 0:Value),(.int .i64 0:Value)].toList 8=some ([.nil,.agg [.lit (.int .i64 0),.nil,.lit (.int .u64 0),.lit (.int .i64 0)],.lit (.int .u64 0),.lit (.int .i64 0)],[],places):=
 ⟨[],by kernel_rfl⟩
theorem lifted (os:Os)(started:os.Started)(H:Type)(enc:TypeId×Value→H)(F:Stop.Interp):
  ReturnsInHanded {} Tryz.checked os 3 .any ((OpenSpec.ofChange Rows.topTwiceSpec).preRow enc Tryz.prog Tryz.f3 Rows.topTwiceRow.domain false Rows.topTwiceRow.laid) (((OpenSpec.ofChange Rows.topTwiceSpec).at F).post enc Tryz.prog Tryz.f3 false true false false):=by
 obtain⟨places,hx⟩:=reads os enc;refine returnsInHanded_of_row (C:=Tryz.checked) (s:=OpenSpec.ofChange Rows.topTwiceSpec) own started (by kernel_rfl) Tryz.func3
  (witness_row_at (enc:=enc) (C:=Tryz.checked) false (Sh os) #[(.slice none 0 0:Value),(.agg #[.int .i64 0,.slice none 0 0,.int .u64 0,.int .i64 0]:Value),(.int .u64 0:Value),(.int .i64 0:Value)] rfl (by kernel_rfl) (by kernel_rfl) (by kernel_rfl)
   (OpenSpec.preRow_of_cond 8 hx (by kernel_rfl) (fun k hk=>by cases hk) (by kernel_rfl) (AfW os))) ?_
 intro W base args ds gs before hval hW _ _ _ hL _ _;exact AgE H enc W base args ds gs before hval hW hL
end Go.Proofs.YtlahakpgjlmeaaaGreatDoor.lawTopTwice
