/- Several texts, one behind the other. Conditions: none. -/
import Derived.Test.YtflnolcabkandaaGreatDoorZh
import Derived.Test.YtflnolcabkandaaGreatDoorZi
import Derived.Shelf.SlSortCmp.NoneTotal
import Derived.Shelf.Bytes.BufferK
import Derived.Shelf.Bytes.Bytes
import Derived.Shelf.Strings.OnBuilder
import Derived.Shelf.Strconv.Itoa3
import Derived.Lib.AppendIntMem
import Derived.Test.YtflnolcabkandaaGreatDoorZf
set_option linter.unusedSimpArgs false
set_option linter.unusedVariables false
set_option maxHeartbeats 20000000
set_option maxRecDepth 100000
section
namespace Go.Proofs.YtflnolcabkandaaGreatDoor
open Go Go.Gw Go.Ax Tryz Go.RowKit Go.Shelf
theorem nanI (x:Int)(w:World):Calls prog 153 #[.int .i64 x] w fun e w'=>e= .returned (.bool false)∧w'=w:=by
 go_enter func153,ntmps153;go_wp2;go_ret;simp
def Xi (x y:Int):Int:=if x<y then-1 else if y<x then 1 else 0
theorem Xj (x y:Int)(w:World):Calls prog 96 #[.int .i64 x,.int .i64 y] w fun e w'=>e= .returned (.int .i64 (Xi x y))∧w'=w:=by
 have h:=fun(x:Int) (W:World)=>nanI x W;go_enter func96,ntmps96;go_wp2_with (go_at_call 153; refine(h _ _).mono ?_; rintro e w2 ⟨rfl,rfl⟩)
 all_goals go_ret
 all_goals simp_all[Xi]
 all_goals (repeat' split)<;>omega
theorem cmp33a (b1 b2:Nat)(x0 _x1 y0 _y1 c:Int)(w:World)(hc:c≠0)(h: ∀W,Calls prog 96 #[.int .i64 x0,.int .i64 y0] W fun e w'=>e= .returned (.int .i64 c)∧w'=W)(h10:w.cell? ⟨b1,0,none⟩=some (.int .i64 x0))(h20:w.cell? ⟨b2,0,none⟩=some (.int .i64 y0)):
  Calls prog 33 #[.slice (some ⟨b1,0,none⟩) 2 2,.slice (some ⟨b2,0,none⟩) 2 2] w fun e w'=>e= .returned (.int .i64 c)∧w'=w:=by
 go_enter func33,ntmps33;go_wp2;refine wp_loop_rounds 3 ?_;rw[rounds_succ];go_wp2_with (go_at_call 96; refine(h _).mono ?_; rintro e w2 ⟨rfl,rfl⟩);go_ret;simp_all
theorem cmp33b (b1 b2:Nat)(x0 x1 y0 y1 c:Int)(w:World)(h: ∀W,Calls prog 96 #[.int .i64 x0,.int .i64 y0] W fun e w'=>e= .returned (.int .i64 0)∧w'=W)(h': ∀W,Calls prog 96 #[.int .i64 x1,.int .i64 y1] W fun e w'=>e= .returned (.int .i64 c)∧w'=W)(hc:c≠0)(h10:w.cell? ⟨b1,0,none⟩=some (.int .i64 x0))(h11:w.cell? ⟨b1,1,none⟩=some (.int .i64 x1))(h20:w.cell? ⟨b2,0,none⟩=some (.int .i64 y0))(h21:w.cell? ⟨b2,1,none⟩=some (.int .i64 y1)):
  Calls prog 33 #[.slice (some ⟨b1,0,none⟩) 2 2,.slice (some ⟨b2,0,none⟩) 2 2] w fun e w'=>e= .returned (.int .i64 c)∧w'=w:=by
 go_enter func33,ntmps33;go_wp2;refine wp_loop_rounds 3 ?_;rw[rounds_succ];go_wp2_with (go_at_call 96; refine(h _).mono ?_; rintro e w2 ⟨rfl,rfl⟩);rw[rounds_succ];go_wp2_with (go_at_call 96; refine(h' _).mono ?_; rintro e w2 ⟨rfl,rfl⟩);go_ret;simp_all
theorem cmp33c (b1 b2:Nat)(x0 x1 y0 y1:Int)(w:World)(h: ∀W,Calls prog 96 #[.int .i64 x0,.int .i64 y0] W fun e w'=>e= .returned (.int .i64 0)∧w'=W)(h': ∀W,Calls prog 96 #[.int .i64 x1,.int .i64 y1] W fun e w'=>e= .returned (.int .i64 0)∧w'=W)(h10:w.cell? ⟨b1,0,none⟩=some (.int .i64 x0))(h11:w.cell? ⟨b1,1,none⟩=some (.int .i64 x1))(h20:w.cell? ⟨b2,0,none⟩=some (.int .i64 y0))(h21:w.cell? ⟨b2,1,none⟩=some (.int .i64 y1)):
  Calls prog 33 #[.slice (some ⟨b1,0,none⟩) 2 2,.slice (some ⟨b2,0,none⟩) 2 2] w fun e w'=>e= .returned (.int .i64 0)∧w'=w:=by
 go_enter func33,ntmps33;go_wp2;refine wp_loop_rounds 3 ?_;rw[rounds_succ];go_wp2_with (go_at_call 96; refine(h _).mono ?_; rintro e w2 ⟨rfl,rfl⟩);rw[rounds_succ];go_wp2_with (go_at_call 96; refine(h' _).mono ?_; rintro e w2 ⟨rfl,rfl⟩);rw[rounds_succ];go_wp2;go_ret;simp_all
theorem cmp33 (b1 b2:Nat)(x0 x1 y0 y1:Int)(w:World)(h10:w.cell? ⟨b1,0,none⟩=some (.int .i64 x0))(h11:w.cell? ⟨b1,1,none⟩=some (.int .i64 x1))(h20:w.cell? ⟨b2,0,none⟩=some (.int .i64 y0))(h21:w.cell? ⟨b2,1,none⟩=some (.int .i64 y1)):
  Calls prog 33 #[.slice (some ⟨b1,0,none⟩) 2 2,.slice (some ⟨b2,0,none⟩) 2 2] w fun e w'=>e= .returned (.int .i64 (if Xi x0 y0=0 then Xi x1 y1 else Xi x0 y0))∧w'=w:=by
 by_cases c0:Xi x0 y0=0
 ·rw[AcZ c0];by_cases c1:Xi x1 y1=0
  ·rw[c1];exact cmp33c b1 b2 x0 x1 y0 y1 w (fun W=>by have:=Xj x0 y0 W; rwa [c0]at this) (fun W=>by have:=Xj x1 y1 W; rwa [c1]at this) h10 h11 h20 h21
  ·exact cmp33b b1 b2 x0 x1 y0 y1 _ w (fun W=>by have:=Xj x0 y0 W; rwa [c0]at this) (fun W=>Xj x1 y1 W) c1 h10 h11 h20 h21
 ·rw[Ac1 c0];exact cmp33a b1 b2 x0 x1 y0 y1 _ w c0 (fun W=>Xj x0 y0 W) h10 h20
def XN (a b:Int×Int):Int:=if Xi a.1 b.1=0 then Xi a.2 b.2 else Xi a.1 b.1
theorem grow2 (w:World)(a b:Obj):((w.alloc a).alloc b).drew=Go.Sort.grow (w.drewN 1) #[a,b]:=by
 have h:(w.heap.push a).push b=w.heap++ #[a,b]:=rfl;show({w with heap:=(w.heap.push a).push b,drawn:=w.drawn+1}:World)={w with heap:=w.heap++ #[a,b],drawn:=w.drawn+1};rw[h]
theorem cmp32 (a b:Int×Int)(w:World):Calls prog 32 #[.agg #[.int .i64 a.1,.int .i64 a.2],.agg #[.int .i64 b.1,.int .i64 b.2]] w fun e w'=>e= .returned (.int .i64 (XN a b))∧∃q os',w'=Go.Sort.grow (w.drewN q) os':=by
 obtain⟨x0,x1⟩:=a;obtain⟨y0,y1⟩:=b;have h33: ∀W:World,W.heap=((w.alloc (.cells #[.int .i64 x0,.int .i64 x1] 91)).alloc (.cells #[.int .i64 y0,.int .i64 y1] 91)).heap→
   Calls prog 33 #[.slice (some ⟨w.heap.size,0,none⟩) 2 2,.slice (some ⟨w.heap.size+1,0,none⟩) 2 2] W fun e w'=>e= .returned (.int .i64 (XN (x0,x1) (y0,y1)))∧w'=W:=fun W hW=>by
  have hc: ∀a,W.cell? a=((w.alloc (.cells #[.int .i64 x0,.int .i64 x1] 91)).alloc (.cells #[.int .i64 y0,.int .i64 y1] 91)).cell? a:=fun a=>by unfold World.cell?; rw[hW]
  exact cmp33 w.heap.size (w.heap.size+1) x0 x1 y0 y1 W (by rw[hc]; simp) (by rw[hc]; simp) (by rw[hc]; simp) (by rw[hc]; simp)
 go_enter func32,ntmps32;go_wp2;go_region_with (go_at_call 33; refine(h33 _ (by rfl)).mono ?_; rintro e w2 ⟨rfl,rfl⟩)
 all_goals go_wp2
 all_goals go_ret
 all_goals exact⟨rfl,1, #[_,_],grow2 w _ _⟩
open Go.Sort in
theorem Pb (a b:Int×Int):ltOf XN a b=decide (a.1<b.1∨(a.1=b.1∧a.2<b.2)):=by
 unfold ltOf;rw[AdR,Adt,Adt];unfold XN Xi;repeat' split
 all_goals omega
open Go.Sort in
theorem swoP:SWO (ltOf XN) where
 irrefl x:=by rw[Pb,decide_eq_false_iff_not]; omega
 trans x y z:=by simp only[Pb,Adt]; omega
 ntrans x y z:=by simp only[Pb,decide_eq_false_iff_not]; omega
open Go.Sort in
theorem totP (x y:Int×Int)(h:ltOf XN x y=false)(k:ltOf XN y x=false):x=y:=by
 rw[Pb,decide_eq_false_iff_not]at h k;exact Prod.ext (by omega) (by omega)
def eP (p:Int×Int):List D:=[.i p.1,.i p.2]
def Iy (p:Int×Int):List Value:=[.int .i64 p.1,.int .i64 p.2]
open Go.Sort in
def GU (xs:List (Int×Int)):List (Int×Int):=xs.mergeSort fun x y=> !(ltOf XN) y x
theorem frl_P {m:Mem}: ∀{xs:List (Int×Int)} {cs:List Value},FRL m (xs.flatMap eP) cs→cs=xs.flatMap Iy
 | [],cs,h=>h.nil_inv
 |x::xs,cs,h=>by
  have h:FRL m (.i x.1:: .i x.2::xs.flatMap eP) cs:=h;obtain⟨u,us,rfl,h1,h3⟩:=h.cons_inv;obtain⟨v,vs,rfl,h2,h4⟩:=h3.cons_inv;cases h1;cases h2;have e:=frl_P h4;subst e;rfl
theorem Vb {m:Mem}: ∀xs:List (Int×Int),FRL m (xs.flatMap eP) (xs.flatMap Iy)
 | []=> .nil
 |x::xs=> .cons (.i _) (.cons (.i _) (Vb xs))
theorem AbL: ∀xs:List (Int×Int),(xs.flatMap Iy).length=xs.length*2
 | []=>rfl
 |x::xs=>by rw[Adq,Ac5,AbL xs,AcY]; simp[Iy]; omega
theorem at_P: ∀(xs:List (Int×Int)) (t:Nat),t<xs.length*2→(xs.flatMap Iy)[t]? =some ((Iy (xs[t/2]!))[t%2]!)
 | [],t,h=>by simp at h
 |x::xs,0,h=>rfl
 |x::xs,1,h=>rfl
 |x::xs,t+2,h=>by
  have ih:=at_P xs t (by simp at h; omega);have e1:(t+2)/2=t/2+1:=by omega
  have e2:(t+2)%2=t%2:=by omega
  rw[e1,e2];show(Iy x++xs.flatMap Iy)[t+2]? =_;rw[AdF (by simp[Iy])];simpa[Iy]using ih
open Go.Sort in
theorem flat_P (xs:List (Int×Int)):(flatK Iy 2 xs.toArray).toList=xs.flatMap Iy:=by
 apply List.ext_getElem?;intro t;by_cases h:t<xs.length*2
 ·rw[at_P xs t h,Array.getElem?_toList,Array.getElem?_eq_getElem (by simpa using h)];have:=get_flatK Iy 2 xs.toArray t (by simpa using h);rw[getElem!_pos _ _ (by simpa using h)]at this;rw[this];simp
 ·rw[List.getElem?_eq_none (by simp; omega),List.getElem?_eq_none (by rw[AbL]; omega)]
open Go.Sort in
theorem put_P {l F:Array Value}(h:F.size≤l.size):(putCells id 0 F l).toList.take F.size=F.toList:=by
 apply List.ext_getElem?;intro t;rw[List.getElem?_take];by_cases ht:t<F.size
 ·rw[AcZ ht,Array.getElem?_toList,Array.getElem?_toList];unfold putCells;rw[Array.getElem?_mapIdx,Array.getElem?_eq_getElem (Nat.lt_of_lt_of_le ht h),Array.getElem?_eq_getElem ht];simp[ht]
 ·rw[Ac1 ht,Array.getElem?_toList,Array.getElem?_eq_none (by omega)]
def ED (xs:List (Int×Int)):Option (List (Int×Int)):=if xs.length≤1099511627776 then some (GU xs)else none
open Go.Sort in
theorem J5 {xs r:List (Int×Int)}(hm:ED xs=some r):Sp prog 31 [.ow 0,.fn (.func 32) [] []] [.row 0 2 (Int×Int) eP xs] 1 (is (.tup []) [.row 0 2 (Int×Int) eP r] 1):=by
 obtain⟨hbig,hm⟩:=AR hm;cases hm;refine⟨call31,fun η m As w vs hv hd S=> ?_⟩;obtain⟨v0,us,rfl,r0,hv⟩:=hv.cons_inv;obtain⟨v1,us,rfl,r1,hv⟩:=hv.cons_inv;obtain rfl:=hv.nil_inv;obtain⟨us,vs,rfl,q1,q2⟩:=r1.fn_inv;obtain rfl:=q1.nil_inv;obtain rfl:=q2.nil_inv;obtain⟨v,cs,h1,ho,hf,hE,S1⟩:=St.openRow (As:=As) S;obtain⟨ex,_⟩:=r0.ow_inv;rw[ex]at h1;cases h1;obtain rfl:=frl_P hf;have hlen:(GU xs).length=xs.length:=List.length_mergeSort _;obtain⟨x,⟨g1,g2,hrow,s2,d,e⟩,dm,gm,gx,nd⟩:=S1.own;rcases hrow with ⟨rfl,hcs,hn,rfl⟩|⟨b,cap,l,el,fr,rfl,rfl,hcl,htk,hls,hnc,hcm,hfr,hf2⟩
 ·have hx:xs=[]:=List.length_eq_zero_iff.1 hn;subst hx;refine(AnyF.slices_SortFunc_none Tryz.laysSort none 0 _ w).mono fun e' w' ⟨e1,e2⟩=> ?_;subst e2;have e0:GU []=[]:=List.length_eq_zero_iff.1 hlen;rw[e0];exact⟨_,e1,Kd.rfl' _,m,η,_,_,_,Mem.rfl' m,Env.le_refl,⟨rfl,rfl,rfl⟩,hd,.tup (vs:=[]) rfl RelL.nil.2,S⟩
 ·have S2:St m (Gw.blk b (.cells l el fr)::As) w:=⟨S1.os,S1.tape,S1.output,x,⟨_,g2,rfl,s2,d,e⟩,dm,gm,gx,nd⟩;have hb:=S2.blk (i:=0) rfl;have hblk:=(Ada.1 hb).1;have hl2:xs.length*2≤l.size:=by rw[hls]; exact Nat.mul_le_mul_right _ hnc
  have hno: ∀t,w.frozen? ⟨b,t,none⟩=false:=fun t=>by
   unfold World.frozen?;rw[hb];rcases hf2 with q|q
   ·simp only[q];cases h:(decide (fr.2≤t)&&decide (t<fr.2))
    ·rfl
    ·simp only[AcQ,Adt]at h; omega
   ·cases q
  have hH:HoldsK Iy 2 w b 0 xs.toArray:=fun j hj=>by
   rw[Adv];refine⟨?_,hno j⟩;have hj':j<xs.length*2:=by simpa using hj
   rw[get_flatK _ _ _ _ (by simpa using hj')];have e1:=at_P xs j hj';rw[←htk,List.getElem?_take,AcZ hj',Array.getElem?_toList]at e1;unfold World.cell?;rw[hb];simpa using e1
  have hcmp:CmpLays prog 32 #[] Iy 2 XN b 0 xs.toArray.size w:=fun n os dk _ x y=>by
   have:=cmp32 x y (sortWorldK Iy 2 w b 0 n dk os);simpa[Iy]using this
  have hn62:xs.toArray.size<4611686018427387904:=by
   simp; omega
  have hc:=AnyQ.slices_SortFunc_total Tryz.laysSort 2 isAgg91 sizeOf91 Iy (fun _=>rfl) (fun x v hv=>by simp[Iy]at hv; rcases hv with rfl|rfl<;>rfl) XN swoP 32 #[] b 0 cap xs.toArray w call32 hcmp hH hblk hn62 totP;refine hc.mono fun e' w' ⟨e1,n,os,e2⟩=> ?_;subst e2;have hF:(flatK Iy 2 (GU xs).toArray).size=xs.length*2:=by rw[size_flatK,List.size_toArray,hlen]
  have hl':(putCells id 0 (flatK Iy 2 (GU xs).toArray) l).size=l.size:=by simp[putCells]
  have hput:=put_P (l:=l) (F:=flatK Iy 2 (GU xs).toArray) (by rw[hF]; exact hl2);rw[hF,flat_P]at hput;have hheap:(putRowK Iy 2 (_root_.Go.Sort.ahead w n) b 0 (GU xs).toArray).heap=w.heap.setIfInBounds b (.cells (putCells id 0 (flatK Iy 2 (GU xs).toArray) l) el fr):=by
   show w.heap.modify b _=_;refine Array.ext_getElem? fun k=> ?_;rw[Array.getElem?_modify,Array.getElem?_setIfInBounds];split
   ·rename_i q; subst q;rw[hb];rfl
   ·rfl
  have S3:=S2.put (i:=0) rfl (.cells (putCells id 0 (flatK Iy 2 (GU xs).toArray) l) el fr) (putRowK Iy 2 (_root_.Go.Sort.ahead w n) b 0 (GU xs).toArray) hheap rfl rfl rfl Bw;have hB:Below (putRowK Iy 2 (_root_.Go.Sort.ahead w n) b 0 (GU xs).toArray).heap.size (putRowK Iy 2 (_root_.Go.Sort.ahead w n) b 0 (GU xs).toArray) (sortWorldK Iy 2 w b 0 n (GU xs).toArray os):=
   ⟨rfl,rfl,rfl,by show _≤(_++os).size; simp,fun k hk=>by
    show(_++os)[k]? =_;exact Array.getElem?_append_left hk⟩
  have S4:=St.below S3 hB;have S5:=St.blkRow (sz:=2) (n:=xs.length) (cap:=cap) (cs:=(GU xs).flatMap Iy) S4 (by rw[AbL,hlen]) hput (by rw[hl']; exact hls) hnc hcm (by rw[hl']; exact hfr) hf2;have S6:St m (Gw.row 2 (.slice (some ⟨b,0,none⟩) xs.length cap) ((GU xs).flatMap Iy) (GU xs).length::As) (sortWorldK Iy 2 w b 0 n (GU xs).toArray os):=by rw[hlen]; exact S5
  refine⟨_,e1,?_,m,η,_,_,_,Mem.rfl' m,Env.le_refl,⟨rfl,rfl,rfl⟩,hd,.tup (vs:=[]) rfl RelL.nil.2,?_⟩
  ·have k1:Kd w (putRowK Iy 2 (_root_.Go.Sort.ahead w n) b 0 (GU xs).toArray):=⟨by rw[hheap]; simp,fun k hk=>by
    rw[hheap,Array.getElem?_setIfInBounds];split
    ·rename_i q; subst q; rw[hb]at hk; cases hk
    ·exact hk⟩
   exact k1.tr (Kd.below hB)
  ·exact St.closeRow (n:=0) (E:=eP) ex rfl (Vb _) (fun _ _=>rfl) S6
end Go.Proofs.YtflnolcabkandaaGreatDoor
end
section
namespace Go.Proofs.YtflnolcabkandaaGreatDoor
open Go Go.Gw Go.Ax Tryz Go.RowKit Go.Shelf
theorem Ach (u:Nat)(h:u<100)(w:World):Calls prog 103 #[.int .u64 u,.int .i64 10] w fun e w'=>e= .returned (.string ⟨(Lib.decDigits u).toArray⟩)∧Below w.heap.size w w':=by
 have e160: ∀args w,(callFunc 160 args).run prog w= .ok (.enter 160 args) w:=call160;have hs:=fun W=>Any.internal_strconv_small (ρ:=lays171_ren) {lays171 with} u h W;go_enter func103,ntmps103;go_wp2_with (go_at_call 160; refine(hs _).mono ?_; rintro e w2 ⟨rfl,rfl⟩);go_ret;exact⟨rfl,Below.refl _ _⟩
theorem Aci (u:Nat)(h:100≤u)(hu64:u<18446744073709551616)(w:World)(htab:Lib.TabIs prog w "internal/strconv.uint64pow10" .u64 Lib.pow10Tab):Calls prog 103 #[.int .u64 u,.int .i64 10] w fun e w'=>e= .returned (.string ⟨(Lib.decDigits u).toArray⟩)∧Below w.heap.size w w':=by
 have hu1:1≤u:=by omega
 have hnd20:Lib.nDigits u≤20:=by have:=Lib.numDigits_eq u hu1 hu64; split at this<;>omega
 have hH0:=Lib.holds_zero0 w 220 (Lib.nDigits u) (by omega);have hfmt:=Any.internal_strconv_formatBase10 (ρ:=lays171_ren) {lays171 with} w.heap.size 0 24 u (Array.replicate (Lib.nDigits u) 0) (w.alloc (.cells Lib.zeros24 220)) hH0 (by rw[Array.size_replicate]; exact Lib.lt_pow_nDigits u) hu64 (by rw[Array.size_replicate]; omega);rw[Array.size_replicate]at hfmt;have hnd:=Any.internal_strconv_numDigits (ρ:=lays171_ren) {lays171 with} u hu1 hu64 (w.alloc (.cells Lib.zeros24 220)) (Lib.tabIs_alloc htab _);have hsl: ∀W,(Instr.sliceAt 220 (.pointer (some ⟨w.heap.size,0,none⟩)) none (some (.int .i64 (Lib.nDigits u:Int))) none).run prog W= .ok (.slice (some ⟨w.heap.size,0,none⟩) (Lib.nDigits u) 24) W:=fun W=>by
  rw[run_sliceAt_array_h W 220 ⟨w.heap.size,0,none⟩ (by simp[Program.arrayLen,Program.elem,underlying220]) .i64 (Lib.nDigits u:Int) (by omega) (by simp[Program.arrayLen,underlying220]; omega)];simp[Program.arrayLen,Program.elem,underlying220,sizeOf5,slicedAt,Lib.add_plain]
 have hu100: ¬(u:Int)<100:=by omega
 have HH0:=Lib.hid hH0;clear hH0;have zz:(zeroValue 220).run prog w= .ok (.agg Lib.zeros24) w:=zeroValue220 w;go_enter func103,ntmps103;go_wp2_with (go_at_call 161; refine hnd.mono ?_; rintro e w2 ⟨rfl,rfl⟩);go_at_call 162;refine hfmt.mono ?_;rintro e w2 ⟨rfl,k,v',dk,rfl,hF⟩;have hcv:(convert 22 9 (.slice (some ⟨w.heap.size,0,none⟩) (Lib.nDigits u) 24)).run prog ((Go.Sort.putRow (fun(b:UInt8)=>Value.int .u8 (b.toNat:Int)) (w.alloc (.cells Lib.zeros24 220)) w.heap.size 0 dk).drewN k)= .ok (.string ⟨(Lib.decDigits u).toArray⟩) ((Go.Sort.putRow (fun(b:UInt8)=>Value.int .u8 (b.toNat:Int)) (w.alloc (.cells Lib.zeros24 220)) w.heap.size 0 dk).drewN k):=by
  have h:=run_convert_bytes_back (P:=prog) ((Go.Sort.putRow (fun(b:UInt8)=>Value.int .u8 (b.toNat:Int)) (w.alloc (.cells Lib.zeros24 220)) w.heap.size 0 dk).drewN k) 22 9 5 ⟨w.heap.size,0,none⟩ 24 (Lib.decDigits u) underlying22 underlying5 underlying9 (fun j hj=>by
   rw[Lib.row_is_numeral hF j hj,Lib.add_plain,World.cell?_drewN];exact Go.Sort.cell?_putRow (fun(b:UInt8)=>Value.int .u8 (b.toNat:Int)) _ w.heap.size 0 _ dk HH0.out (by rw[hF.size,Array.size_replicate]) j (by rw[hF.size]; rw[Lib.decDigits_length]at hj; exact hj))
  rw[Lib.decDigits_length]at h;exact h
 go_wp2;go_ret;obtain⟨os,eo⟩:=Lib.fin_at w (.cells Lib.zeros24 220) dk k 0;refine⟨rfl,?_⟩;rw[eo];exact Lib.below_grow _ w (AcV _) k os
theorem fmt103 (u:Nat)(hu64:u<18446744073709551616)(w:World)(htab:Lib.TabIs prog w "internal/strconv.uint64pow10" .u64 Lib.pow10Tab):Calls prog 103 #[.int .u64 u,.int .i64 10] w fun e w'=>e= .returned (.string ⟨(Lib.decDigits u).toArray⟩)∧Below w.heap.size w w':=by
 by_cases h:u<100
 ·exact Ach u h w
 ·exact Aci u (by omega) hu64 w htab
theorem fmt37 (u:Nat)(hu64:u<18446744073709551616)(w:World)(htab:Lib.TabIs prog w "internal/strconv.uint64pow10" .u64 Lib.pow10Tab):Calls prog 37 #[.int .u64 u,.int .i64 10] w fun e w'=>e= .returned (.string ⟨(Lib.decDigits u).toArray⟩)∧Below w.heap.size w w':=by
 have h:=fmt103 u hu64 w htab;go_enter func37,ntmps37;go_wp2_with (go_at_call 103; refine h.mono ?_; rintro e w2 ⟨rfl,hb⟩);go_ret;exact⟨rfl,hb⟩
theorem WG (n:Int)(h0: -9223372036854775808≤n)(h1:n≤9223372036854775807)(w:World)(htab:Lib.TabIs prog w "internal/strconv.uint64pow10" .u64 Lib.pow10Tab):Calls prog 38 #[.int .i64 n] w fun e w'=>e= .returned (.string ⟨(Lib.itoa n).toArray⟩)∧Below w.heap.size w w':=by
 have h:=Any.strconv_Itoa (ρ:=lays171_ren) lays171 n h0 h1 w htab;refine Calls.mono h fun e w' ⟨e1,k,os,e2⟩=>⟨e1,?_⟩;rw[e2];exact Lib.below_grow _ w (AcV _) k os
theorem Qb {m:Mem}{As:List Ow}{w:World}(S:St m As w):Lib.TabIs prog w "internal/strconv.uint64pow10" .u64 Lib.pow10Tab:=by
 have hm:(3,Lib.pow10Tab.map fun z=>Value.int .u64 z)∈GT0:=by
  have e:GT0=GT0.take 1++(3,Lib.pow10Tab.map fun z=>Value.int .u64 z)::GT0.drop 2:=by kernel_rfl
  rw[e];exact List.mem_append_right _ (Adb ..)
 obtain⟨l,e,fr,hb,hc,hs⟩:=S.tape.2.1 _ hm;obtain⟨x,s,d,g,g',n⟩:=S.own;have hw:=g 3 _ hb;have hl:l=(Lib.pow10Tab.map fun z=>Value.int .u64 z).toArray:=by
  apply Array.ext
  ·rw[hs,List.size_toArray]
  ·intro i h1 h2;have h2':i<(Lib.pow10Tab.map fun z=>Value.int .u64 z).length:=by simpa using h2
   have:=hc i _ (Ac4 h2');rw[Array.getElem?_eq_getElem h1]at this;have:=AcO this;rw[this,List.getElem_toArray]
 show World.var? prog w _=_;unfold World.var?;have hg:prog.globalNamed "internal/strconv.uint64pow10" =some 3:=by kernel_rfl
 rw[hg];simp only[Option.bind_some,hw,hl]
theorem Xr {m:Mem}{As:List Ow}{w:World}{k:FuncId}{args:Array Value}{r:Value}(S:St m As w)(h:Calls prog k args w fun e w'=>e= .returned r∧Below w.heap.size w w'):A6 prog k args w fun v w'=>v=r∧St m As w':=
 Calls.mono h fun e w' ⟨e1,e2⟩=>⟨r,e1,Kd.below e2,rfl,St.below S e2⟩
theorem Tz:Builder.Extra prog lays156_ren where
 sizeBuilder:=by kernel_rfl
 liesBuilder:=by kernel_rfl
 t5:=underlying5
 a5:=isAgg5
 z5:=sizeOf5
 v5:=zeroValue5
 infoByte:=by kernel_rfl
 cellsByte:=by kernel_rfl
 sizeByte:=by kernel_rfl
 neB5:=by decide
theorem repS {m:Mem}: ∀{xs:List ByteArray} {cs:List Value},Bj m cs xs→cs=xs.map vS
 | [],cs,h=>h
 |y::ys,cs,⟨c1,c2,e1,h1,h2⟩=>by
  rw[e1,show c1=[vS y]from h1,repS h2];rfl
def CA (xs:List ByteArray):List UInt8:=Lib.join (xs.map (·.data.toList)) [44,32]
theorem join36 {m:Mem}{As:List Ow}{w:World}{v:Value}{xs:List ByteArray}(S:St m As w)(h:SlR m v xs)(hN:xs.length≤140737488355328)(hl:(CA xs).length≤140737488355328):
  Calls prog 36 #[v,.string ⟨#[44,32]⟩] w fun e w'=>e= .returned (.string ⟨(CA xs).toArray⟩)∧Below w.heap.size w w':=by
 obtain⟨cs,⟨q1,q2,⟨q3,a,c,rfl⟩|⟨b,off,cap,l,e,fr,rfl,hn,hb,hc⟩⟩,hr⟩:=h
 ·have:=List.length_eq_zero_iff.1 q3;subst this;have:=Any.strings_Join_none (ρ:=lays156_ren) lays156 Tz a c ⟨#[44,32]⟩ w;exact Calls.mono this fun e w' ⟨e1,e2⟩=>⟨e1,e2▸Below.refl _ _⟩
 ·obtain⟨x,s,d,g,g',n⟩:=S.own;have hw:=g b _ hb;have hbw:b<w.heap.size:=PH.lt_of_agree g hb;have hcells: ∀(j:Nat) x,xs[j]? =some x→w.cell? ⟨b,off+j,none⟩=some (.string x):=fun j x hx=>by
   rw[Lib.cell_of_heap hw];have hcs:cs=xs.map vS:=repS hr;subst hcs;exact hc j (vS x) (by rw[Ac9,hx]; rfl)
  exact Any.strings_Join (ρ:=lays156_ren) lays156 Tz b off cap xs ⟨#[44,32]⟩ w hcells hbw hN hn.1 hl
def Ra (b:Nat)(bs:List UInt8):Ow:=fun h=> ∃lr,(bs=[]∧h=PH.one b (.cells #[.slice none 0 0,.int .i64 0,.int .i8 lr] 98 (0,0)))∨∃g cap cur,h=(PH.one b (.cells #[.slice (some ⟨g,0,none⟩) bs.length cap,.int .i64 0,.int .i8 lr] 98 (0,0))).join (PH.one g (.cells cur 5 (0,0)))∧b≤g∧g≠b∧bs.length≤cap∧cap≤maxLen∧cur.size=cap∧cur.toList.take bs.length=Lib.byteCells bs
def ok5 (o:Obj):Prop:= ∀c fz,o≠ .cells c 5 fz
theorem ZV {a b:Nat}{o p:Obj}(h:a≠b):(PH.one a o).disj (PH.one b p):=fun k=>by
 by_cases e:k=a
 ·exact .inr (Ac1 (by omega))
 ·exact .inl (Ac1 e)
theorem Aaw {b:Nat}{bs:List UInt8}{h:PH}{w:World}(a:Ra b bs h)(g:h.agree w):Lib.IsBuffer 98 5 b b (Lib.byteCells bs) w:=by
 obtain⟨lr,⟨rfl,rfl⟩|⟨gg,cap,cur,rfl,h1,h2,h3,h4,h5,h6⟩⟩:=a
 ·exact⟨AcV _,_,lr,PH.agree_one.1 g,World.ownsRow_nil _ _ _ _,by simp[Value.ownBlock]⟩
 ·obtain⟨g1,g2⟩:=(PH.agree_join (ZV (Ne.symm h2))).1 g;refine⟨AcV _,_,lr,PH.agree_one.1 g1,⟨by simp,.inr ⟨gg,cap,cur,by rw[Lib.byteCells_length],h1,PH.agree_one.1 g2,by rw[Lib.byteCells_length]; exact h3,h4,by omega,by rw[Lib.byteCells_length,Nat.mul_one]; exact h6⟩⟩,by simp[Value.ownBlock]; exact h2⟩
theorem is_buf {b:Nat}{bs:List UInt8}{w:World}(I:Lib.IsBuffer 98 5 b b (Lib.byteCells bs) w): ∃h,Ra b bs h∧h.agree w∧∀k o,h k=some o→k=b∨(b≤k∧∃cur,o= .cells cur 5 (0,0)):=by
 obtain⟨_,lr,⟨e,hb⟩|⟨g,cap,cur,hb,h1,h2,h3,h4,h5,h6,h7⟩⟩:=I.cases
 ·have:bs=[]:=by
   have:=Adp List.length e;rw[Lib.byteCells_length]at this;exact List.length_eq_zero_iff.1 this
  subst this;refine⟨_,⟨lr,.inl ⟨rfl,rfl⟩⟩,PH.agree_one.2 hb,fun k o q=> .inl ?_⟩;unfold PH.one at q;split at q
  ·assumption
  ·cases q
 ·rw[Lib.byteCells_length]at hb h3 h6;refine⟨_,⟨lr,.inr ⟨g,cap,cur,rfl,h1,h7,h3,h4,h5,h6⟩⟩,(PH.agree_join (ZV (Ne.symm h7))).2 ⟨PH.agree_one.2 hb,PH.agree_one.2 h2⟩,fun k o q=> ?_⟩;unfold PH.join PH.one at q;by_cases e1:k=b
  ·exact .inl e1
  ·rw[Ac1 e1]at q;by_cases e2:k=g
   ·rw[AcZ e2]at q;simp at q;exact .inr ⟨by omega,cur,q.symm⟩
   ·rw[Ac1 e2]at q;simp at q
theorem buf_lt {b:Nat}{bs:List UInt8}{w:World}(I:Lib.IsBuffer 98 5 b b (Lib.byteCells bs) w):b<w.heap.size:=I.lt
theorem Ia {m:Mem}{As:List Ow}{w:World}{b:Nat}{bs:List UInt8}{s:ByteArray}(S:St m (Ra b bs::As) w)(hm: ∀k o,m.heap k=some o→k<b)(hA: ∀h,sepL As h→∀k o,h k=some o→k<b∨ok5 o)(hl:bs.length+s.size≤140737488355328):
  A6 prog 35 #[pt b 0,.string s] w fun v w'=>v= .tuple #[.int .i64 s.size,.nilIface]∧St m (Ra b (bs++s.data.toList)::As) w':=by
 obtain⟨x,⟨h1,h2,a1,s2,d,rfl⟩,dj,g,g',nd⟩:=S.own;obtain⟨g1,g2⟩:=(PH.agree_join d).1 g';obtain⟨dj1,dj2⟩:=PH.disj_join.1 dj;have I:=Aaw a1 g1;have hlt:=buf_lt I;have hb1: ∃o,h1 b=some o:=by
  obtain⟨lr,⟨_,rfl⟩|⟨gg,cap,cur,rfl,_⟩⟩:=a1
  ·exact⟨.cells #[.slice none 0 0,.int .i64 0,.int .i8 lr] 98 (0,0),by simp[PH.one]⟩
  ·exact⟨.cells #[.slice (some ⟨gg,0,none⟩) bs.length cap,.int .i64 0,.int .i8 lr] 98 (0,0),by simp[PH.join,PH.one]⟩
 obtain⟨ob,hb1⟩:=hb1;have hb2:h2 b=none:=(d b).resolve_left (by rw[hb1]; simp);refine Calls.mono (Any.Buffer_WriteString_k (ρ:=lays178_ren) lays178 b b (Lib.byteCells bs) s w I (Nat.le_of_lt hlt) (Lib.byteCells_one _) (by rw[Lib.byteCells_length]; exact hl)) fun e w' ⟨e1,I',bl,ok⟩=> ?_;rw[←Lib.byteCells_append]at I';obtain⟨h1',a1',g1',k1'⟩:=is_buf I';have km:m.heap.agree w':=fun k o q=>(bl.block k (hm k o q)).trans (g k o q);have k2:h2.agree w':=fun k o q=>by
  rcases hA h2 s2 k o q with q1|q1
  ·exact(bl.block k q1).trans (g2 k o q)
  ·exact ok k o (g2 k o q) (fun e=>by cases e; rw[hb2]at q; cases q) q1
 have dd:h1'.disj h2:=fun k=>by
  cases q:h1' k with
  |none=>exact .inl rfl
  |some o=>
   cases q2:h2 k with
   |none=>exact .inr rfl
   |some o2=>
    exfalso;rcases k1' k o q with e|⟨e,cur,rfl⟩
    ·subst e; rw[hb2]at q2; cases q2
    ·rcases hA h2 s2 k o2 q2 with q3|q3
     ·omega
     ·have:=k2 k o2 q2;rw[g1' k _ q]at this;cases this;exact q3 _ _ rfl
 have dm:m.heap.disj h1':=fun k=>by
  cases q:h1' k with
  |none=>exact .inr rfl
  |some o=>
   cases q2:m.heap k with
   |none=>exact .inl rfl
   |some o2=>
    exfalso;rcases k1' k o q with e|⟨e,cur,rfl⟩
    ·subst e; have:=hm _ _ q2; omega
    ·have:=hm _ _ q2; omega
 have nd1:Nd h1':=fun k q=>by
  rcases a1' with ⟨lr,⟨_,rfl⟩|⟨gg,cap,cur,rfl,_⟩⟩
  ·exact Nd.one Bw k q
  ·exact(Nd.one Bw).join (Nd.one Bw) k q
 have ndm:Nd m.heap:=nd.left;have nd2:Nd h2:=(nd.right dj).right d;refine⟨_,e1,⟨bl.size,fun k q=> ?_⟩,rfl,bl.os.trans S.os,⟨bl.tape.trans S.tape.1,S.tape.2⟩,bl.output.trans S.output,h1'.join h2,⟨h1',h2,a1',s2,dd,rfl⟩,PH.disj_join.2 ⟨dm,dj2⟩,km,(PH.agree_join dd).2 ⟨g1',k2⟩,ndm.join (nd1.join nd2)⟩;refine ok k _ q (fun e=> ?_) (fun c fz e=>by cases e);cases e;have:=g1 _ _ hb1;rw[q]at this;cases this;exact nd b (by simp[PH.join,hb1,(dj1 b).resolve_right (by rw[hb1]; simp)])
theorem Xs {m:Mem}{As:List Ow}{w:World}{b:Nat}{bs:List UInt8}(S:St m (Ra b bs::As) w)(hm: ∀k o,m.heap k=some o→k<b)(hA: ∀h,sepL As h→∀k o,h k=some o→k<b∨ok5 o):
  A6 prog 39 #[pt b 0] w fun v w'=> ∃m',m≤m'∧St m' As w'∧FR m' (.sl UInt8 eB bs) v:=by
 obtain⟨x,⟨h1,h2,a1,s2,d,rfl⟩,dj,g,g',nd⟩:=S.own;obtain⟨g1,g2⟩:=(PH.agree_join d).1 g';obtain⟨dj1,dj2⟩:=PH.disj_join.1 dj;have I:=Aaw a1 g1;refine Calls.mono (Any.Buffer_Bytes (ρ:=lays183_ren) lays183 b b (Lib.byteCells bs) w I) fun e w' ⟨v,e1,ow,n,e2⟩=> ?_;have hh:w'.heap=w.heap:=by rw[e2]; rfl
 have kd:Kd w w':=⟨by rw[hh]; exact AcV _,fun k q=>by rw[hh]; exact q⟩;have os':w'.os=w.os:=by rw[e2]; rfl
 have tp':w'.tape=w.tape:=by rw[e2]; rfl
 have ot':w'.output=w.output:=by rw[e2]; rfl
 have gm':m.heap.agree w':=fun k o q=>by rw[hh]; exact g k o q
 have g2':h2.agree w':=fun k o q=>by rw[hh]; exact g2 k o q
 obtain⟨oc,⟨rfl,on⟩|⟨gg,cap,cur,rfl,o1,o2,o3,o4,o5,o6⟩⟩:=ow
 ·have:bs=[]:=by
   rw[Lib.byteCells_length]at on;exact List.length_eq_zero_iff.1 on
  subst this;refine⟨_,e1,kd,m,Mem.rfl' m,⟨os'.trans S.os,⟨tp'.trans S.tape.1,S.tape.2⟩,ot'.trans S.output,h2,s2,dj2,gm',g2',nd.left.join ((nd.right dj).right d)⟩,?_⟩;exact Br.b.toS SlR.nil
 ·have q2:h2 gg=none:=by
   cases q:h2 gg with
   |none=>rfl
   |some o=>
    exfalso;rcases hA h2 s2 gg o q with q3|q3
    ·omega
    ·have:=g2' gg o q;rw[o2]at this;cases this;exact q3 _ _ rfl
  have qm:m.heap gg=none:=by
   cases q:m.heap gg with
   |none=>rfl
   |some o=>have:=hm _ _ q; omega
  have dm1:m.heap.disj (PH.one gg (.cells cur 5 (0,0))):=fun k=>by
   by_cases e:k=gg
   ·subst e; exact .inl qm
   ·exact .inr (Ac1 e)
  have d21:(PH.one gg (.cells cur 5 (0,0))).disj h2:=fun k=>by
   by_cases e:k=gg
   ·subst e; exact .inr q2
   ·exact .inl (Ac1 e)
  refine⟨_,e1,kd,{m with heap:=m.heap.join (PH.one gg (.cells cur 5 (0,0)))},Mem.le_join,⟨os'.trans S.os,⟨tp'.trans S.tape.1,GB.up Mem.le_join S.tape.2⟩,ot'.trans S.output,h2,s2,PH.join_disj.2 ⟨dj2,d21⟩,(PH.agree_join dm1).2 ⟨gm',PH.agree_one.2 o2⟩,g2',(nd.left.join (Nd.one Bw)).join ((nd.right dj).right d)⟩,?_⟩;rw[Lib.byteCells_length]at o3 o6⊢;have e6:cur.toList.take bs.length=Lib.byteCells bs:=by rw[Nat.mul_one]at o6; exact o6
  have:=Sx (η:=none0) (m:={m with heap:=m.heap.join (PH.one gg (.cells cur 5 (0,0)))}) (xs:=bs) (b:=gg) (off:=0) (cap:=cap) (l:=cur) (e:=5) (fr:=(0,0)) o3 (by simpa[maxLen]using o4) (by simp[PH.join,qm,PH.one]) (fun i x hx=> ?_)
  ·cases this with|d h=>exact h
  ·have hx2:(cur.toList.take bs.length)[i]? =some (.int .u8 (x.toNat:Int)):=by
    rw[e6];unfold Lib.byteCells;rw[Ac9,hx];rfl
   rw[List.getElem?_take]at hx2;split at hx2
   ·rw[Adv];simpa using hx2
   ·cases hx2
end Go.Proofs.YtflnolcabkandaaGreatDoor
end
section
namespace Go.Proofs.YtflnolcabkandaaGreatDoor
open Go Go.Gw Go.Ax Tryz Go.RowKit
def str_0:ByteArray:=⟨#[0,1,2,2,3,3,3,3,4,4,4,4,4,4,4,4,5,5,5,5,5,5,5,5,5,5,5,5,5,5,5,5,6,6,6,6,6,6,6,6,6,6,6,6,6,6,6,6,6,6,6,6,6,6,6,6,6,6,6,6,6,6,6,6,7,7,7,7,7,7,7,7,7,7,7,7,7,7,7,7,7,7,7,7,7,7,7,7,7,7,7,7,7,7,7,7,7,7,7,7,7,7,7,7,7,7,7,7,7,7,7,7,7,7,7,7,7,7,7,7,7,7,7,7,7,7,7,7,8,8,8,8,8,8,8,8,8,8,8,8,8,8,8,8,8,8,8,8,8,8,8,8,8,8,8,8,8,8,8,8,8,8,8,8,8,8,8,8,8,8,8,8,8,8,8,8,8,8,8,8,8,8,8,8,8,8,8,8,8,8,8,8,8,8,8,8,8,8,8,8,8,8,8,8,8,8,8,8,8,8,8,8,8,8,8,8,8,8,8,8,8,8,8,8,8,8,8,8,8,8,8,8,8,8,8,8,8,8,8,8,8,8,8,8,8,8,8,8,8,8,8,8,8,8,8,8]⟩
structure g_api_Rule where
 Name:ByteArray
 Allow:Bool
 Pats:List ByteArray
 KeyMin:UInt64
 LifeMax:Int
 Most:Int
 Window:Int
instance:GoT g_api_Rule where
 sz:=GoT.sz (ByteArray×Bool×(List ByteArray)×UInt64×Int×Int×Int)
 rep m cs x:=GoT.rep (α:=ByteArray×Bool×(List ByteArray)×UInt64×Int×Int×Int) m cs (x.Name,x.Allow,x.Pats,x.KeyMin,x.LifeMax,x.Most,x.Window)
 len h:=GoT.len (α:=ByteArray×Bool×(List ByteArray)×UInt64×Int×Int×Int) h
 up l h:=GoT.up (α:=ByteArray×Bool×(List ByteArray)×UInt64×Int×Int×Int) l h
 one h:=GoT.one (α:=ByteArray×Bool×(List ByteArray)×UInt64×Int×Int×Int) h
instance:Inhabited g_api_Rule:=⟨⟨default,default,default,default,default,default,default⟩⟩
structure Ae where
 b_:List UInt8
 at_:Int
 token_:ByteArray
instance:GoT Ae where
 sz:=GoT.sz ((List UInt8)×Int×ByteArray)
 rep m cs x:=GoT.rep (α:=(List UInt8)×Int×ByteArray) m cs (x.b_,x.at_,x.token_)
 len h:=GoT.len (α:=(List UInt8)×Int×ByteArray) h
 up l h:=GoT.up (α:=(List UInt8)×Int×ByteArray) l h
 one h:=GoT.one (α:=(List UInt8)×Int×ByteArray) h
instance:Inhabited Ae:=⟨⟨default,default,default⟩⟩
structure MB where
 at_:Int
 e_:Int
instance:GoT MB where
 sz:=GoT.sz (Int×Int)
 rep m cs x:=GoT.rep (α:=Int×Int) m cs (x.at_,x.e_)
 len h:=GoT.len (α:=Int×Int) h
 up l h:=GoT.up (α:=Int×Int) l h
 one h:=GoT.one (α:=Int×Int) h
instance:Inhabited MB:=⟨⟨default,default⟩⟩
structure C7 where
 E:UInt64
 S:UInt64
instance:GoT C7 where
 sz:=GoT.sz (UInt64×UInt64)
 rep m cs x:=GoT.rep (α:=UInt64×UInt64) m cs (x.E,x.S)
 len h:=GoT.len (α:=UInt64×UInt64) h
 up l h:=GoT.up (α:=UInt64×UInt64) l h
 one h:=GoT.one (α:=UInt64×UInt64) h
instance:Inhabited C7:=⟨⟨default,default⟩⟩
structure D1 where
 tag_:Int
 may_:Int
instance:Inhabited D1:=⟨⟨default,default⟩⟩
structure g_api_Item where
 Tag:Int
 B:List UInt8
 L:List g_api_Item
instance:Inhabited g_api_Item:=⟨⟨default,default,default⟩⟩
def A1 (a:g_api_Item):List D:=[.i a.Tag,.sl _ eB a.B,.rs _ (fun a=> [.i a.Tag,.sl _ eB a.B]) (fun a=> []) (fun a=>a.L) a.L]
instance:GoT g_api_Item:=MA A1 3
theorem XJ {m:Mem}{cs:List Value}{x:g_api_Item}(h:GoT.rep m cs x): ∃v1,∃v2,cs=[vI x.Tag,v1,v2]∧SlR m v1 x.B∧SlR m v2 x.L:=by
 obtain⟨h,_⟩:=h;obtain⟨u0,us0,rfl,a0,g0⟩:=FRL.cons_inv h;cases a0;obtain⟨u1,us1,rfl,a1,g1⟩:=FRL.cons_inv g0;obtain⟨u2,us2,rfl,a2,g2⟩:=FRL.cons_inv g1;obtain rfl:=FRL.nil_inv g2;exact⟨u1,u2,rfl,Br.ofS Br.b a1,RM (U3 a2) (fun _=>rfl)⟩
theorem O4 {m:Mem}{x:g_api_Item}{v1:Value}{v2:Value}(h1:SlR m v1 x.B)(h2:SlR m v2 x.L):GoT.rep m [vI x.Tag,v1,v2] x:=⟨(FRL.cons (.i _) (FRL.cons (Br.toS Br.b h1) (FRL.cons (.rs (Rr h2)) FRL.nil))),rfl⟩
theorem UE:Br g_api_Item A1:=⟨fun h=>h.1,fun h=>⟨h,rfl⟩,fun _=>rfl⟩
structure Am where
 size_:Int
 root_:UInt64×UInt64
instance:GoT Am where
 sz:=GoT.sz (Int×(UInt64×UInt64))
 rep m cs x:=GoT.rep (α:=Int×(UInt64×UInt64)) m cs (x.size_,x.root_)
 len h:=GoT.len (α:=Int×(UInt64×UInt64)) h
 up l h:=GoT.up (α:=Int×(UInt64×UInt64)) l h
 one h:=GoT.one (α:=Int×(UInt64×UInt64)) h
instance:Inhabited Am:=⟨⟨default,default⟩⟩
structure AG where
 Account:Int
 Names:List ByteArray
 Key:UInt64
 Life:Int
instance:GoT AG where
 sz:=GoT.sz (Int×(List ByteArray)×UInt64×Int)
 rep m cs x:=GoT.rep (α:=Int×(List ByteArray)×UInt64×Int) m cs (x.Account,x.Names,x.Key,x.Life)
 len h:=GoT.len (α:=Int×(List ByteArray)×UInt64×Int) h
 up l h:=GoT.up (α:=Int×(List ByteArray)×UInt64×Int) l h
 one h:=GoT.one (α:=Int×(List ByteArray)×UInt64×Int) h
instance:Inhabited AG:=⟨⟨default,default,default,default⟩⟩
structure g_api_Node where
 Label:ByteArray
 Here:Int
 Below:Int
 Kids:List Int
instance:GoT g_api_Node where
 sz:=GoT.sz (ByteArray×Int×Int×(List Int))
 rep m cs x:=GoT.rep (α:=ByteArray×Int×Int×(List Int)) m cs (x.Label,x.Here,x.Below,x.Kids)
 len h:=GoT.len (α:=ByteArray×Int×Int×(List Int)) h
 up l h:=GoT.up (α:=ByteArray×Int×Int×(List Int)) l h
 one h:=GoT.one (α:=ByteArray×Int×Int×(List Int)) h
instance:Inhabited g_api_Node:=⟨⟨default,default,default,default⟩⟩
structure AZ where
 Rules:List g_api_Rule
 Nodes:List g_api_Node
instance:GoT AZ where
 sz:=GoT.sz ((List g_api_Rule)×(List g_api_Node))
 rep m cs x:=GoT.rep (α:=(List g_api_Rule)×(List g_api_Node)) m cs (x.Rules,x.Nodes)
 len h:=GoT.len (α:=(List g_api_Rule)×(List g_api_Node)) h
 up l h:=GoT.up (α:=(List g_api_Rule)×(List g_api_Node)) l h
 one h:=GoT.one (α:=(List g_api_Rule)×(List g_api_Node)) h
instance:Inhabited AZ:=⟨⟨default,default⟩⟩
structure Ur where
 addr_:Unit
 buf_:List UInt8
structure AL where
 Allow:Bool
 At:Int
 By:List Int
instance:GoT AL where
 sz:=GoT.sz (Bool×Int×(List Int))
 rep m cs x:=GoT.rep (α:=Bool×Int×(List Int)) m cs (x.Allow,x.At,x.By)
 len h:=GoT.len (α:=Bool×Int×(List Int)) h
 up l h:=GoT.up (α:=Bool×Int×(List Int)) l h
 one h:=GoT.one (α:=Bool×Int×(List Int)) h
instance:Inhabited AL:=⟨⟨default,default,default⟩⟩
theorem HR {m:Mem}{cs:List Value}{x:UInt64×UInt64}(h:GoT.rep m cs x):cs=[vU x.1,vU x.2]:=by
 obtain⟨_,_,rfl,rfl,rfl⟩:=h;exact rfl
theorem Nb {m:Mem}{x:UInt64×UInt64}:GoT.rep m [vU x.1,vU x.2] x:=⟨[vU x.1],[vU x.2],rfl,rfl,rfl⟩
theorem IE {m:Mem}{cs:List Value}{x:g_api_Rule}(h:GoT.rep m cs x): ∃v1,cs=[vS x.Name,vb x.Allow,v1,vU x.KeyMin,vI x.LifeMax,vI x.Most,vI x.Window]∧SlR m v1 x.Pats:=by
 obtain⟨_,_,rfl,rfl,⟨_,_,rfl,rfl,⟨_,_,rfl,⟨v1,rfl,h1⟩,⟨_,_,rfl,rfl,⟨_,_,rfl,rfl,⟨_,_,rfl,rfl,rfl⟩⟩⟩⟩⟩⟩:=h;exact⟨v1,rfl,h1⟩
theorem Yr {m:Mem}{x:g_api_Rule}{v1:Value}(h1:SlR m v1 x.Pats):GoT.rep m [vS x.Name,vb x.Allow,v1,vU x.KeyMin,vI x.LifeMax,vI x.Most,vI x.Window] x:=⟨[vS x.Name],[vb x.Allow,v1,vU x.KeyMin,vI x.LifeMax,vI x.Most,vI x.Window],rfl,rfl,⟨[vb x.Allow],[v1,vU x.KeyMin,vI x.LifeMax,vI x.Most,vI x.Window],rfl,rfl,⟨[v1],[vU x.KeyMin,vI x.LifeMax,vI x.Most,vI x.Window],rfl,⟨_,rfl,h1⟩,⟨[vU x.KeyMin],[vI x.LifeMax,vI x.Most,vI x.Window],rfl,rfl,⟨[vI x.LifeMax],[vI x.Most,vI x.Window],rfl,rfl,⟨[vI x.Most],[vI x.Window],rfl,rfl,rfl⟩⟩⟩⟩⟩⟩
theorem Ug {m:Mem}{cs:List Value}{x:Am}(h:GoT.rep m cs x):cs=[vI x.size_,vU x.root_.1,vU x.root_.2]:=by
 obtain⟨_,_,rfl,rfl,⟨_,_,rfl,rfl,rfl⟩⟩:=h;exact rfl
theorem UK {m:Mem}{x:Am}:GoT.rep m [vI x.size_,vU x.root_.1,vU x.root_.2] x:=⟨[vI x.size_],[vU x.root_.1,vU x.root_.2],rfl,rfl,⟨[vU x.root_.1],[vU x.root_.2],rfl,rfl,rfl⟩⟩
theorem XI {m:Mem}{cs:List Value}{x:g_api_Node}(h:GoT.rep m cs x): ∃v1,cs=[vS x.Label,vI x.Here,vI x.Below,v1]∧SlR m v1 x.Kids:=by
 obtain⟨_,_,rfl,rfl,⟨_,_,rfl,rfl,⟨_,_,rfl,rfl,⟨v1,rfl,h1⟩⟩⟩⟩:=h;exact⟨v1,rfl,h1⟩
theorem Ys {m:Mem}{x:g_api_Node}{v1:Value}(h1:SlR m v1 x.Kids):GoT.rep m [vS x.Label,vI x.Here,vI x.Below,v1] x:=⟨[vS x.Label],[vI x.Here,vI x.Below,v1],rfl,rfl,⟨[vI x.Here],[vI x.Below,v1],rfl,rfl,⟨[vI x.Below],[v1],rfl,rfl,⟨_,rfl,h1⟩⟩⟩⟩
theorem OP {m:Mem}{cs:List Value}{x:C7}(h:GoT.rep m cs x):cs=[vU x.E,vU x.S]:=by
 obtain⟨_,_,rfl,rfl,rfl⟩:=h;exact rfl
theorem Qy {m:Mem}{x:C7}:GoT.rep m [vU x.E,vU x.S] x:=⟨[vU x.E],[vU x.S],rfl,rfl,rfl⟩
theorem XH {m:Mem}{cs:List Value}{x:AG}(h:GoT.rep m cs x): ∃v1,cs=[vI x.Account,v1,vU x.Key,vI x.Life]∧SlR m v1 x.Names:=by
 obtain⟨_,_,rfl,rfl,⟨_,_,rfl,⟨v1,rfl,h1⟩,⟨_,_,rfl,rfl,rfl⟩⟩⟩:=h;exact⟨v1,rfl,h1⟩
theorem O3 {m:Mem}{x:AG}{v1:Value}(h1:SlR m v1 x.Names):GoT.rep m [vI x.Account,v1,vU x.Key,vI x.Life] x:=⟨[vI x.Account],[v1,vU x.Key,vI x.Life],rfl,rfl,⟨[v1],[vU x.Key,vI x.Life],rfl,⟨_,rfl,h1⟩,⟨[vU x.Key],[vI x.Life],rfl,rfl,rfl⟩⟩⟩
def XW:List D1:=[⟨1,276⟩,⟨2,61⟩,⟨4,277⟩,⟨12,278⟩,⟨48,281⟩]
def Ac (a:g_api_Rule):List D:=[.s a.Name,.t a.Allow,.sl _ eS a.Pats,.u a.KeyMin,.i a.LifeMax,.i a.Most,.i a.Window]
def Xc (a:UInt64×UInt64×UInt64):List D:=[.u a.1,.u a.2.1,.u a.2.2]
def AO (a:UInt64×UInt64):List D:=[.u a.1,.u a.2]
def JW (a:C7):List D:=[.u a.E,.u a.S]
def D2 (a:D1):List D:=[.i a.tag_,.v (fnV a.may_)]
def Aq (a:Am):List D:=[.i a.size_,.u a.root_.1,.u a.root_.2]
def DB (a:AG):List D:=[.i a.Account,.sl _ eS a.Names,.u a.Key,.i a.Life]
def e_a2_eI (a:Int×Int):List D:=[.i a.1,.i a.2]
def Ao (a:g_api_Node):List D:=[.s a.Label,.i a.Here,.i a.Below,.sl _ eI a.Kids]
def Ha (a:AZ):List D:=[.sl _ Ac a.Rules,.sl _ Ao a.Nodes]
def FE (a:AL):List D:=[.t a.Allow,.i a.At,.sl _ eI a.By]
theorem Q6:Br C7 JW:=Br.mk' (Br.pair Br.u Br.u) JW (fun x=>(x.E,x.S)) (fun _ _ _=>rfl) (fun _=>rfl) rfl
theorem b_api_Rule:Br g_api_Rule Ac:=Br.mk' (Br.pair Br.s (Br.pair Br.t (Br.pair (Br.sl Br.s) (Br.pair Br.u (Br.pair Br.i (Br.pair Br.i Br.i)))))) Ac (fun x=>(x.Name,x.Allow,x.Pats,x.KeyMin,x.LifeMax,x.Most,x.Window)) (fun _ _ _=>rfl) (fun _=>rfl) rfl
theorem Se:Br (UInt64×UInt64) AO:=Br.mk' (Br.pair Br.u Br.u) AO (fun x=>x) (fun _ _ _=>rfl) (fun _=>rfl) rfl
theorem UD:Br AG DB:=Br.mk' (Br.pair Br.i (Br.pair (Br.sl Br.s) (Br.pair Br.u Br.i))) DB (fun x=>(x.Account,x.Names,x.Key,x.Life)) (fun _ _ _=>rfl) (fun _=>rfl) rfl
end Go.Proofs.YtflnolcabkandaaGreatDoor
end
