/- The law ClientMakes: it tells true of every input, and leaves its arguments as they were. Conditions: none. -/
import Derived.Test.YtnhdojckpcbjeaaGreatDoorZb
import Derived.Test.YtnhdojckpcbjeaaGreatDoorZo
import Derived.Test.YtnhdojckpcbjeaaGreatDoorZq
import Derived.Test.YtnhdojckpcbjeaaGreatDoorCards
import Derived.Test.YtnhdojckpcbjeaaGreatDoorTie
import Derived.WalkKit
import Derived.ProofKit
import Derived.OpenShut
import Derived.Deep.DeepHandedRow
import Derived.Lib.LaidTab
import Derived.SevenTiedAt
import Derived.Stop.LaidErr
set_option linter.unusedSimpArgs false
set_option linter.unusedVariables false
set_option maxHeartbeats 2000000
set_option maxRecDepth 100000
namespace Go.Proofs.YtnhdojckpcbjeaaGreatDoor.lawClientMakes
open Go Go.Gw Go.ChangeShapes Go.WideShapes Go.ChangeAt Go.RowKit
theorem own:ownKnob Tryz.prog.godebug=none:=by kernel_rfl
theorem tab_ir:Ir Tryz.prog 379 (.agg [.agg [.lit (.int .i64 1),.held [103,114,101,97,116,115,101,97,108,47,100,101,114,46,107,105,110,100,115,36,49]],.agg [.lit (.int .i64 2),.held [103,114,101,97,116,115,101,97,108,47,100,101,114,46,108,101,97,115,116]],.agg [.lit (.int .i64 4),.held [103,114,101,97,116,115,101,97,108,47,100,101,114,46,107,105,110,100,115,36,50]],.agg [.lit (.int .i64 12),.held [103,114,101,97,116,115,101,97,108,47,100,101,114,46,107,105,110,100,115,36,51]],.agg [.lit (.int .i64 48),.held [103,114,101,97,116,115,101,97,108,47,100,101,114,46,107,105,110,100,115,36,52]]]) [[.int .i64 1,.func (.func 428) #[] #[]],[.int .i64 2,.func (.func 299) #[] #[]],[.int .i64 4,.func (.func 429) #[] #[]],[.int .i64 12,.func (.func 430) #[] #[]],[.int .i64 48,.func (.func 432) #[] #[]]].flatten:=
 Ir.arr (n:=5) (k:=2) Tryz.underlying379 (by kernel_rfl) (by kernel_rfl) rfl rfl λi d c h1 h2=>by
  match i,h1,h2 with
  |0,h1,h2=>cases h1; cases h2; exact Ir.pair Tryz.underlying345 rfl rfl rfl (by kernel_rfl) rfl rfl (by kernel_rfl) (by kernel_rfl) (Ir.int Tryz.underlying3) (Ir.fn Tryz.underlying218 Tryz.func428 (by kernel_rfl) (by kernel_rfl))
  |1,h1,h2=>cases h1; cases h2; exact Ir.pair Tryz.underlying345 rfl rfl rfl (by kernel_rfl) rfl rfl (by kernel_rfl) (by kernel_rfl) (Ir.int Tryz.underlying3) (Ir.fn Tryz.underlying218 Tryz.func299 (by kernel_rfl) (by kernel_rfl))
  |2,h1,h2=>cases h1; cases h2; exact Ir.pair Tryz.underlying345 rfl rfl rfl (by kernel_rfl) rfl rfl (by kernel_rfl) (by kernel_rfl) (Ir.int Tryz.underlying3) (Ir.fn Tryz.underlying218 Tryz.func429 (by kernel_rfl) (by kernel_rfl))
  |3,h1,h2=>cases h1; cases h2; exact Ir.pair Tryz.underlying345 rfl rfl rfl (by kernel_rfl) rfl rfl (by kernel_rfl) (by kernel_rfl) (Ir.int Tryz.underlying3) (Ir.fn Tryz.underlying218 Tryz.func430 (by kernel_rfl) (by kernel_rfl))
  |4,h1,h2=>cases h1; cases h2; exact Ir.pair Tryz.underlying345 rfl rfl rfl (by kernel_rfl) rfl rfl (by kernel_rfl) (by kernel_rfl) (Ir.int Tryz.underlying3) (Ir.fn Tryz.underlying218 Tryz.func432 (by kernel_rfl) (by kernel_rfl))
  |n+5,h1,h2=>cases h1
theorem gB {W:World}(h:laidMetH Tryz.prog Rows.clientMakesRow.laid W):GB (memOf W):=λp hp=>by
 obtain rfl:=List.mem_singleton.1 hp;exact gb_of (name:= "greatseal/der.kinds") (by kernel_rfl) (by kernel_rfl) (laidMetH.funcs h (d:= .agg [.agg [.lit (.int .i64 1),.iface "func" (.lit (.string [103,114,101,97,116,115,101,97,108,47,100,101,114,46,107,105,110,100,115,36,49]))],.agg [.lit (.int .i64 2),.iface "func" (.lit (.string [103,114,101,97,116,115,101,97,108,47,100,101,114,46,108,101,97,115,116]))],.agg [.lit (.int .i64 4),.iface "func" (.lit (.string [103,114,101,97,116,115,101,97,108,47,100,101,114,46,107,105,110,100,115,36,50]))],.agg [.lit (.int .i64 12),.iface "func" (.lit (.string [103,114,101,97,116,115,101,97,108,47,100,101,114,46,107,105,110,100,115,36,51]))],.agg [.lit (.int .i64 48),.iface "func" (.lit (.string [103,114,101,97,116,115,101,97,108,47,100,101,114,46,107,105,110,100,115,36,52]))]]) (List.Mem.tail _ (List.Mem.head _))) tab_ir
theorem rd9:Rd Tryz.prog 9 (ByteArray):=Rd.str Tryz.underlying9
theorem rd3:Rd Tryz.prog 3 (Int):=Rd.int Tryz.underlying3
theorem rd32:Rd Tryz.prog 32 (UInt64):=Rd.u64 Tryz.underlying32
theorem rd56:Rd Tryz.prog 56 (List ByteArray):=Rd.slice Tryz.underlying56 rd9 (by kernel_rfl) (by decide)
theorem rd4:Rd Tryz.prog 4 (Bool):=Rd.bool Tryz.underlying4
theorem rd34:Rd Tryz.prog 34 (UInt64×UInt64):=Rd.arr2 Tryz.underlying34 rd32 (by kernel_rfl) (by kernel_rfl)
theorem rd36:Rd Tryz.prog 36 (g_api_Sig):=Rd.struct Tryz.underlying36 (KW.more rfl rd32 (by kernel_rfl) (KW.last rfl rd32 (by kernel_rfl))) (by kernel_rfl) (λb=>⟨b.1,b.2⟩) (λh=>h)
theorem rd63:Rd Tryz.prog 63 (g_api_Promise):=Rd.struct Tryz.underlying63 (KW.more rfl rd3 (by kernel_rfl) (KW.more rfl rd3 (by kernel_rfl) (KW.more rfl rd34 (by kernel_rfl) (KW.last rfl rd36 (by kernel_rfl))))) (by kernel_rfl) (λb=>⟨b.1,b.2.1,b.2.2.1,b.2.2.2⟩) (λh=>h)
theorem rd57:Rd Tryz.prog 57 (List g_api_Promise):=Rd.slice Tryz.underlying57 rd63 (by kernel_rfl) (by decide)
theorem rd59:Rd Tryz.prog 59 (g_api_Cert):=Rd.struct Tryz.underlying59 (KW.more rfl rd3 (by kernel_rfl) (KW.more rfl rd9 (by kernel_rfl) (KW.more rfl rd9 (by kernel_rfl) (KW.more rfl rd32 (by kernel_rfl) (KW.more rfl rd56 (by kernel_rfl) (KW.more rfl rd3 (by kernel_rfl) (KW.more rfl rd3 (by kernel_rfl) (KW.more rfl rd4 (by kernel_rfl) (KW.more rfl rd3 (by kernel_rfl) (KW.more rfl rd56 (by kernel_rfl) (KW.more rfl rd57 (by kernel_rfl) (KW.last rfl rd36 (by kernel_rfl))))))))))))) (by kernel_rfl) (λb=>⟨b.1,b.2.1,b.2.2.1,b.2.2.2.1,b.2.2.2.2.1,b.2.2.2.2.2.1,b.2.2.2.2.2.2.1,b.2.2.2.2.2.2.2.1,b.2.2.2.2.2.2.2.2.1,b.2.2.2.2.2.2.2.2.2.1,b.2.2.2.2.2.2.2.2.2.2.1,b.2.2.2.2.2.2.2.2.2.2.2⟩) (λh=>h)
theorem rd22:Rd Tryz.prog 22 (List g_api_Cert):=Rd.slice Tryz.underlying22 rd59 (by kernel_rfl) (by decide)
theorem rd102:Rd Tryz.prog 102 (g_api_Key):=Rd.struct Tryz.underlying102 (KW.more rfl rd3 (by kernel_rfl) (KW.more rfl rd32 (by kernel_rfl) (KW.last rfl rd3 (by kernel_rfl)))) (by kernel_rfl) (λb=>⟨b.1,b.2.1,b.2.2⟩) (λh=>h)
theorem rd23:Rd Tryz.prog 23 (List g_api_Key):=Rd.slice Tryz.underlying23 rd102 (by kernel_rfl) (by decide)
theorem rd38:Rd Tryz.prog 38 (g_api_Head):=Rd.struct Tryz.underlying38 (KW.more rfl rd3 (by kernel_rfl) (KW.more rfl rd3 (by kernel_rfl) (KW.more rfl rd34 (by kernel_rfl) (KW.more rfl rd3 (by kernel_rfl) (KW.last rfl rd36 (by kernel_rfl)))))) (by kernel_rfl) (λb=>⟨b.1,b.2.1,b.2.2.1,b.2.2.2.1,b.2.2.2.2⟩) (λh=>h)
theorem rd24:Rd Tryz.prog 24 (List g_api_Head):=Rd.slice Tryz.underlying24 rd38 (by kernel_rfl) (by decide)
theorem rd26:Rd Tryz.prog 26 (g_api_Pool):=Rd.struct Tryz.underlying26 (KW.last rfl rd24 (by kernel_rfl)) (by kernel_rfl) (λb=>⟨b⟩) (λh=>h)
theorem rd5:Rd Tryz.prog 5 (UInt8):=Rd.u8 Tryz.underlying5
theorem rd96:Rd Tryz.prog 96 (List UInt8):=Rd.slice Tryz.underlying96 rd5 (by kernel_rfl) (by decide)
theorem rd98:Rd Tryz.prog 98 (g_api_Sieve):=Rd.struct Tryz.underlying98 (KW.more rfl rd3 (by kernel_rfl) (KW.more rfl rd3 (by kernel_rfl) (KW.more rfl rd3 (by kernel_rfl) (KW.last rfl rd96 (by kernel_rfl))))) (by kernel_rfl) (λb=>⟨b.1,b.2.1,b.2.2.1,b.2.2.2⟩) (λh=>h)
theorem rd27:Rd Tryz.prog 27 (List g_api_Sieve):=Rd.slice Tryz.underlying27 rd98 (by kernel_rfl) (by decide)
theorem rd29:Rd Tryz.prog 29 (g_api_Cascade):=Rd.struct Tryz.underlying29 (KW.more rfl rd3 (by kernel_rfl) (KW.last rfl rd27 (by kernel_rfl))) (by kernel_rfl) (λb=>⟨b.1,b.2⟩) (λh=>h)
theorem rd31:Rd Tryz.prog 31 (g_api_Client):=Rd.struct Tryz.underlying31 (KW.more rfl rd9 (by kernel_rfl) (KW.more rfl rd22 (by kernel_rfl) (KW.more rfl rd23 (by kernel_rfl) (KW.more rfl rd26 (by kernel_rfl) (KW.more rfl rd29 (by kernel_rfl) (KW.last rfl rd3 (by kernel_rfl))))))) (by kernel_rfl) (λb=>⟨b.1,b.2.1,b.2.2.1,b.2.2.2.1,b.2.2.2.2.1,b.2.2.2.2.2⟩) (λh=>h)
theorem Tk {m:Mem}{cs:List Value}{x:g_api_Cascade}(h:GoT.rep m cs x): ∃v1,cs=[vI x.Day,v1]/\SlR m v1 x.Levels:=by
 obtain⟨_,_,rfl,rfl,⟨v1,rfl,h1⟩⟩:=h;exact⟨v1,rfl,h1⟩
theorem XO {m:Mem}{cs:List Value}{x:g_api_Head}(h:GoT.rep m cs x):cs=[vI x.Log,vI x.Size,vU x.Root.1,vU x.Root.2,vI x.At,vU x.Sig.E,vU x.Sig.S]:=by
 obtain⟨_,_,rfl,rfl,⟨_,_,rfl,rfl,⟨_,_,rfl,⟨_,_,rfl,rfl,rfl⟩,⟨_,_,rfl,rfl,⟨_,_,rfl,rfl,rfl⟩⟩⟩⟩⟩:=h;exact rfl
theorem UA {m:Mem}{cs:List Value}{x:g_api_Client}(h:GoT.rep m cs x): ∃v1,∃v2,∃v3,∃v4,cs=[vS x.Who,v1,v2,v3,vI x.Cascade.Day,v4,vI x.View]/\SlR m v1 x.Roots/\SlR m v2 x.Logs/\SlR m v3 x.Pool.L/\SlR m v4 x.Cascade.Levels:=by
 obtain⟨_,_,rfl,rfl,⟨_,_,rfl,⟨v1,rfl,h1⟩,⟨_,_,rfl,⟨v2,rfl,h2⟩,⟨_,_,rfl,⟨v3,rfl,h3⟩,⟨_,_,rfl,⟨_,_,rfl,rfl,⟨v4,rfl,h4⟩⟩,rfl⟩⟩⟩⟩⟩:=h;exact⟨v1,v2,v3,v4,rfl,h1,h2,h3,h4⟩
theorem AjU (H:Type)(enc:TypeId×Value->H)(W:World)(base:Nat)(args:Array Value)(ds gs:List (DataW H))(before:List MemPlace)
  (hval: ∀(j:Nat) t v,Tryz.f3.params[j]? =some t->args[j]? =some v->Value.okWide Tryz.prog W .any base t v)
  (hW:DataW.Whole enc Tryz.prog Tryz.f3.params.toList Rows.clientMakesSpec.vars false W args.toList ds gs before) (hL:laidMetH Tryz.prog Rows.clientMakesRow.laid W):
  Calls Tryz.prog 3 args W λe W'=> ∃v,e= .returned v/\Rows.clientMakesSpec.post enc Tryz.prog Tryz.f3 false true false false W args v W':=by
 have hW':=hW;obtain⟨p,q,hA0,hV,rfl,hfz,hnd⟩:=hW;obtain⟨rfl,rfl⟩:=trodVars_none hV;rw[AoC]at hW';have hA:DataW.TrodAll enc Tryz.prog W 0 (λ_=>true) true Tryz.f3.params.toList args.toList ds p:=hA0;have hA1:=hA;have hpl:Tryz.f3.params.toList=[31,38,29,9,3]:=by rw[Tryz.params3]
 rw[hpl]at hA1;obtain⟨v0,w0,d0,e0,p0,q0,ha0,he0,hp0,h0,r0⟩:=trodAll_cons hA1;obtain⟨v1,w1,d1,e1,p1,q1,ha1,he1,hp1,h1,r1⟩:=trodAll_cons r0;obtain⟨v2,w2,d2,e2,p2,q2,ha2,he2,hp2,h2,r2⟩:=trodAll_cons r1;obtain⟨v3,w3,d3,e3,p3,q3,ha3,he3,hp3,h3,r3⟩:=trodAll_cons r2;obtain⟨v4,w4,d4,e4,p4,q4,ha4,he4,hp4,h4,r4⟩:=trodAll_cons r3;obtain⟨z1,z2,z3⟩:=trodAll_nil r4;obtain rfl:args= #[v0,v1,v2,v3,v4]:=by
  apply Array.ext'; rw[ha0,ha1,ha2,ha3,ha4,z1]
 obtain rfl:ds=[d0,d1,d2,d3,d4]:=by rw[he0,he1,he2,he3,he4,z2]
 rw[Tryz.params3]at hval;obtain⟨c0,rfl,_⟩:=okWide_struct Tryz.underlying31 (hval 0 31 v0 rfl rfl);obtain⟨a0,s0⟩:=rd31.openA h0;obtain⟨z0_0,z0_1,z0_2,z0_3,o0,y0_0,y0_1,y0_2,y0_3⟩:=UA s0;obtain rfl:=Ahu o0;obtain⟨c1,rfl,_⟩:=okWide_struct Tryz.underlying38 (hval 1 38 v1 rfl rfl);obtain⟨a1,s1⟩:=rd38.openA h1;obtain rfl:=Ahu (XO s1);obtain⟨c2,rfl,_⟩:=okWide_struct Tryz.underlying29 (hval 2 29 v2 rfl rfl);obtain⟨a2,s2⟩:=rd29.openA h2;obtain⟨z2_0,o2,y2_0⟩:=Tk s2;obtain rfl:=Ahu o2;obtain⟨a3,rfl⟩:=okWide_string Tryz.underlying9 (hval 3 9 v3 rfl rfl);obtain⟨a4,rfl,_,_,_⟩:=open_int Tryz.underlying3 (hval 4 3 v4 rfl rfl) h4;have hc:=PV (St.of W (gB hL)) y0_0 y0_1 y0_2 y0_3 y2_0 (AdU a0 a1 a2 a3 a4);refine Calls.mono hc ?_;rintro e W' ⟨v,rfl,hk,M,hle,S,rfl⟩;refine⟨.bool true,rfl,AfN (tb:=4) (by kernel_rfl) (by kernel_rfl) rfl (by kernel_rfl) Tryz.underlying4 hW' hA rfl rfl rfl hle S hk⟩
noncomputable def U1 (os:Os):World:=
 {World.holding Tryz.prog os ⟨#[], #[],[]⟩with heap:=((((World.holding Tryz.prog os ⟨#[], #[],[]⟩).heap.modify 5 λ| .cells _ t fr=> .cells #[.int .u8 128,.int .u8 191,.int .u8 160,.int .u8 191,.int .u8 128,.int .u8 159,.int .u8 144,.int .u8 191,.int .u8 128,.int .u8 143,.int .u8 0,.int .u8 0,.int .u8 0,.int .u8 0,.int .u8 0,.int .u8 0,.int .u8 0,.int .u8 0,.int .u8 0,.int .u8 0,.int .u8 0,.int .u8 0,.int .u8 0,.int .u8 0,.int .u8 0,.int .u8 0,.int .u8 0,.int .u8 0,.int .u8 0,.int .u8 0,.int .u8 0,.int .u8 0] t fr|o=>o).modify 2 λ| .cells _ t fr=> .cells [[.int .i64 1,.func (.func 428) #[] #[]],[.int .i64 2,.func (.func 299) #[] #[]],[.int .i64 4,.func (.func 429) #[] #[]],[.int .i64 12,.func (.func 430) #[] #[]],[.int .i64 48,.func (.func 432) #[] #[]]].flatten.toArray t fr|o=>o).modify 4 λ| .cells _ t fr=> .cells ((List.replicate 128 240++List.replicate 66 241++List.replicate 30 2++[19]++List.replicate 12 3++[35,3,3,52,4,4,4,68]++List.replicate 11 241:List Int).map λn=>Value.int .u8 n).toArray t fr|o=>o)}
theorem Ai5 (os:Os):laidMetH Tryz.prog Rows.clientMakesRow.laid ((U1 os).forCall (λ_ _=>0) ⟨#[], #[(.agg #[.string ⟨#[]⟩,.slice none 0 0,.slice none 0 0,.slice none 0 0,.int .i64 0,.slice none 0 0,.int .i64 0]:Value),(.agg #[.int .i64 0,.int .i64 0,.int .u64 0,.int .u64 0,.int .i64 0,.int .u64 0,.int .u64 0]:Value),(.agg #[.int .i64 0,.slice none 0 0]:Value),(.string ⟨#[]⟩:Value),(.int .i64 0:Value)],[]⟩).memory:=
 laidMetH_of_parts3 (fuel:=8) (laidMet_of_run' 8 (by kernel_rfl) (by kernel_rfl)) (by kernel_rfl) (by kernel_rfl)
theorem reads (os:Os){H:Type}(enc:TypeId×Value->H): ∃places,DataW.whole enc Tryz.prog ((U1 os).forCall (λ_ _=>0) ⟨#[], #[(.agg #[.string ⟨#[]⟩,.slice none 0 0,.slice none 0 0,.slice none 0 0,.int .i64 0,.slice none 0 0,.int .i64 0]:Value),(.agg #[.int .i64 0,.int .i64 0,.int .u64 0,.int .u64 0,.int .i64 0,.int .u64 0,.int .u64 0]:Value),(.agg #[.int .i64 0,.slice none 0 0]:Value),(.string ⟨#[]⟩:Value),(.int .i64 0:Value)],[]⟩).memory Tryz.f3.params.toList Rows.clientMakesSpec.vars false #[(.agg #[.string ⟨#[]⟩,.slice none 0 0,.slice none 0 0,.slice none 0 0,.int .i64 0,.slice none 0 0,.int .i64 0]:Value),(.agg #[.int .i64 0,.int .i64 0,.int .u64 0,.int .u64 0,.int .i64 0,.int .u64 0,.int .u64 0]:Value),(.agg #[.int .i64 0,.slice none 0 0]:Value),(.string ⟨#[]⟩:Value),(.int .i64 0:Value)].toList 8=some ([.agg [.lit (.string []),.nil,.nil,.agg [.nil],.agg [.lit (.int .i64 0),.nil],.lit (.int .i64 0)],.agg [.lit (.int .i64 0),.lit (.int .i64 0),.agg [.lit (.int .u64 0),.lit (.int .u64 0)],.lit (.int .i64 0),.agg [.lit (.int .u64 0),.lit (.int .u64 0)]],.agg [.lit (.int .i64 0),.nil],.lit (.string []),.lit (.int .i64 0)],[],places):=
 ⟨[],by kernel_rfl⟩
theorem lifted (os:Os)(started:os.Started)(H:Type)(enc:TypeId×Value->H)(F:Stop.Interp):
  ReturnsInHanded {} Tryz.checked os 3 .any ((OpenSpec.ofChange Rows.clientMakesSpec).preRow enc Tryz.prog Tryz.f3 Rows.clientMakesRow.domain false Rows.clientMakesRow.laid) (((OpenSpec.ofChange Rows.clientMakesSpec).at F).post enc Tryz.prog Tryz.f3 false true false false):=by
 obtain⟨places,hx⟩:=reads os enc;refine returnsInHanded_of_row (C:=Tryz.checked) (s:=OpenSpec.ofChange Rows.clientMakesSpec) own started (by kernel_rfl) Tryz.func3
  (witness_row_at (enc:=enc) (C:=Tryz.checked) false (U1 os) #[(.agg #[.string ⟨#[]⟩,.slice none 0 0,.slice none 0 0,.slice none 0 0,.int .i64 0,.slice none 0 0,.int .i64 0]:Value),(.agg #[.int .i64 0,.int .i64 0,.int .u64 0,.int .u64 0,.int .i64 0,.int .u64 0,.int .u64 0]:Value),(.agg #[.int .i64 0,.slice none 0 0]:Value),(.string ⟨#[]⟩:Value),(.int .i64 0:Value)] rfl (by kernel_rfl) (by kernel_rfl) (by kernel_rfl)
   (OpenSpec.preRow_of_cond 8 hx (by kernel_rfl) (λk hk=>by cases hk) (by kernel_rfl) (Ai5 os))) ?_
 intro W base args ds gs before hval hW _ _ _ hL _ _;exact AjU H enc W base args ds gs before hval hW hL
end Go.Proofs.YtnhdojckpcbjeaaGreatDoor.lawClientMakes
