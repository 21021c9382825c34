/- Several texts, one behind the other. Conditions: none. -/
import Derived.Test.YtbajlmaijjcbmaaGreatDoorZj
import Derived.KernelRfl
import Derived.Test.YtbajlmaijjcbmaaGreatDoorZb
import Derived.Test.YtbajlmaijjcbmaaGreatDoorZi
import Derived.Test.YtbajlmaijjcbmaaGreatDoorCards
import Derived.Test.YtbajlmaijjcbmaaGreatDoorTie
import Derived.WalkKit
import Derived.ProofKit
import Derived.OpenShut
import Derived.Deep.DeepHandedRow
import Derived.Lib.LaidTab
import Derived.SevenTiedAt
import Derived.Stop.LaidErr
set_option linter.unusedSimpArgs false
set_option linter.unusedVariables false
set_option maxHeartbeats 4000000
set_option maxRecDepth 100000
section
namespace Go.Proofs.YtbajlmaijjcbmaaGreatDoor
open Go Go.Gw Go.Ax
theorem pathV_gen {leaf:g_api_Cert}{more roots:List g_api_Cert}(h1:more.length≤3)(h2: ∀c∈leaf::more,checkV c=0)(hk:caB 0 (leaf::more)=true)(hl:linksV (leaf::more)=0)
  (hr:roots.length≤16) (hc: ∀c∈roots,checkV c=0) (name:ByteArray) (now:Int):
  PE roots (leaf::more) name now=if now<0∨now>1099511627776 then 1 else if nameV name≠0 then nameV name else if(leaf.Names.any fun s=>eqS name s)=false then 110 else
   if((leaf::more).any fun c=> !timeB c now)=true then 190 else LU (leaf::more) now roots:=by
 have e1:P5 (leaf::more++roots)=0:=(OW _ _ _).2 fun k c hk=>by
  rcases List.mem_append.1 (List.mem_of_getElem? hk)with q|q
  ·exact h2 c q
  ·exact hc c q
 unfold PE;rw[e1,hl,if_neg (nn0 rfl)];by_cases hb:now<0∨now>1099511627776
 ·have:G3 roots (leaf::more) name now=1:=by
   unfold G3;rw[if_pos];rcases hb with q|q
   ·exact .inr (.inr (.inr (.inl q)))
   ·exact .inr (.inr (.inr (.inr q)))
  rw[this,if_pos (by decide),if_pos hb]
 ·have:G3 roots (leaf::more) name now=nameV name:=by
   unfold G3;rw[if_neg];rintro(q|q|q|q)
   ·simp at q
   ·simp only[List.length_cons]at q; omega
   ·omega
   ·exact hb q
  rw[this,if_neg hb];by_cases hn:nameV name=0
  ·rw[if_neg (nn0 hn),if_neg (nn0 hn)];have ek:JL (leaf::more) name now=if(leaf.Names.any fun s=>eqS name s)=false then 110 else if((leaf::more).any fun c=> !timeB c now)=true then 190 else 0:=by
    unfold JL;rw[hk,if_neg (by decide)]
   rw[ek];cases leaf.Names.any fun s=>eqS name s with
   |false=>rfl
   |true=>
    cases (leaf::more).any fun c=> !timeB c now<;>rfl
  ·rw[if_pos hn,if_pos hn]
theorem PathOk.rc {roots:List g_api_Cert}{leaf:g_api_Cert}{more:List g_api_Cert}{name:ByteArray}{now:Int}(P:PathOk roots leaf more name now): ∀c∈roots,checkV c=0:=fun c hc=>P.all c (List.mem_append_right _ hc)
theorem PathOk.cc {roots:List g_api_Cert}{leaf:g_api_Cert}{more:List g_api_Cert}{name:ByteArray}{now:Int}(P:PathOk roots leaf more name now): ∀c∈leaf::more,checkV c=0:=fun c hc=>P.all c (List.mem_append_left _ hc)
theorem PathOk.names {roots:List g_api_Cert}{leaf:g_api_Cert}{more:List g_api_Cert}{name:ByteArray}{now:Int}(P:PathOk roots leaf more name now): ∀s∈leaf.Names,nameV s=0:=by
 have hC:leaf.Ca=false:=by have:=UD P.kin (k:=0) (c:=leaf) rfl; simpa using this
 exact(K5 ((RP (P.cc leaf List.mem_cons_self)).leaf hC).2.1).2.2
end Go.Proofs.YtbajlmaijjcbmaaGreatDoor
end
section
namespace Go.Proofs.YtbajlmaijjcbmaaGreatDoor
open Go Go.Gw Go.Ax
end Go.Proofs.YtbajlmaijjcbmaaGreatDoor
end
section
namespace Go.Proofs.YtbajlmaijjcbmaaGreatDoor
open Go Go.Gw Go.Ax
def Ru (x:ByteArray):UInt64:=Wy (Wq (⟨#[115,101,99,114,101,116]⟩:ByteArray) [x.data.toList]) 1152921504606845788+1
theorem sec_eq {x:ByteArray}(h:x.size≤1000):DO x.data.toList=some (Ru x):=by
 have hz:=AW x;unfold DO;rw[Qr (by
  have:Tn [x.data.toList]≤10+x.data.toList.length:=by simp[Tn]
  have e:(⟨#[115,101,99,114,101,116]⟩:ByteArray).data.toList.length=6:=rfl;omega),Ab]
 rfl
theorem sec_nat (x:ByteArray):1≤(Ru x).toNat∧(Ru x).toNat<GR:=by
 have h:(Wy (Wq (⟨#[115,101,99,114,101,116]⟩:ByteArray) [x.data.toList]) 1152921504606845788).toNat<1152921504606845788:=by
  rw[QI dvR1]; exact Nat.mod_lt _ (by decide)
 unfold Ru;rw[UInt64.toNat_add];have e1:(1:UInt64).toNat=1:=rfl;rw[e1,Nat.mod_eq_of_lt (by omega)];simp only[GR];omega
theorem key_eq19 {x:ByteArray}(h:x.size≤1000):Eg x=some (Hn (Ru x)):=by
 have hz:=AW x;unfold Eg;rw[Iw 1 (by rw[List.length_nil,hz]; omega) (by rw[List.length_nil,hz]; omega),Ab,List.nil_append,sec_eq h,Ab,OG (sec_nat x).1 (sec_nat x).2,Ab]
def sgD (c:g_api_Cert)(g:g_api_Sig):g_api_Cert:=⟨c.Serial,c.Issuer,c.Subject,c.Key,c.Names,c.From,c.Until,c.Ca,c.Depth,c.Permit,c.Proms,g⟩
theorem body_sg (c:g_api_Cert)(g:g_api_Sig):E7 (sgD c g)=E7 c:=by
 unfold E7 Ju Vj sgD;dsimp only
def sgC (c:g_api_Cert)(x:ByteArray):g_api_Cert:=sgD c (JY (Ru x) (if checkV c=0 then E7 c else []))
theorem signed_eq19 (c:g_api_Cert){x:ByteArray}(h:x.size≤1000):Dh c x=some (sgC c x):=by
 have hz:=AW x;unfold Dh sgC sgD;by_cases hc:checkV c=0
 ·rw[Q3 (okc hc),Ab,Iw 1 (by rw[List.length_nil,hz]; omega) (by rw[List.length_nil,hz]; omega),Ab,List.nil_append,sec_eq h,Ab];dsimp only;rw[Sv (sec_nat x).1 (sec_nat x).2 (by have:=NW (okc hc); omega),Ab,if_pos hc]
 ·rw[UE hc,Ab,Iw 1 (by rw[List.length_nil,hz]; omega) (by rw[List.length_nil,hz]; omega),Ab,List.nil_append,sec_eq h,Ab];dsimp only;rw[Sv (sec_nat x).1 (sec_nat x).2 (by simp),Ab,if_neg hc]
theorem sig_okB (k:UInt64)(m:List UInt8):sigB (JY k m)=true:=by
 unfold sigB;refine decide_eq_true (TF (UA _ _ _) ?_);show(addM 1152921504606845789 _ _).toNat<_;rw[Rb dvR];exact Nat.mod_lt _ (by decide)
theorem may_int (d:Nat)(n:Int):mayB (d+1) (JO n)=true:=by
 show(JK (Sg (be8 n))&&true&&true)=true;rw[LV _ (by simp[be8])]; rfl
theorem may_text (d:Nat){s:ByteArray}(h:printB (toL s)=true):mayB (d+1) (G9 s)=true:=by
 show(printB (toL s)&&true&&true)=true;rw[h]; rfl
theorem may_bool (d:Nat)(v:Bool):mayB (d+1) (NV v)=true:=by cases v<;>rfl
theorem may_texts (d:Nat){l:List ByteArray}(h: ∀s∈l,printB (toL s)=true):mayB (d+2) (GL l)=true:=
 NA fun y hy=>by
  obtain⟨s,hs,rfl⟩:=List.mem_map.1 hy;exact may_text d (h s hs)
theorem putB_seq (d:Nat)(l:List g_api_Item):(putB (d+1) (LC l)).length≤4+(l.flatMap (putB d)).length:=by
 have:=KQ d (LC l);have e:(LC l).B.length=0:=rfl;have e2:(LC l).L=l:=rfl;rw[e,e2]at this; omega
structure YW (c:g_api_Cert):Prop where
 iss:c.Issuer.size≤64∧printB (toL c.Issuer)=true
 sub:c.Subject.size≤64∧printB (toL c.Subject)=true
 nam:c.Names.length≤1∧∀s∈c.Names,s.size≤64∧printB (toL s)=true
 per:c.Permit.length≤1∧∀s∈c.Permit,s.size≤64∧printB (toL s)=true
 pro:c.Proms=[]
theorem texts_len (d:Nat){l:List ByteArray}(h:l.length≤1∧∀s∈l,s.size≤64∧printB (toL s)=true):(putB (d+1) (GL l)).length≤72:=by
 match l,h with
 | [],_=>exact Nat.le_trans (putB_seq d []) (by simp)
 | [s],h=>
  refine Nat.le_trans (putB_seq d [G9 s]) ?_;have:=GM d (h.2 s (by simp)).1;simp; omega
 |_::_::_,h=>exact absurd h.1 (by simp)
theorem small_may {c:g_api_Cert}(S:YW c):mayB 8 (wholeI c)=true:=by
 have hp:mayB 6 (Vj c)=true:=NA fun y hy=>by
  simp only[List.mem_cons,List.not_mem_nil,or_false]at hy;rcases hy with rfl|rfl|rfl|rfl|rfl|rfl|rfl|rfl|rfl|rfl
  ·exact may_int _ _
  ·exact may_text _ S.iss.2
  ·exact may_text _ S.sub.2
  ·exact may_int _ _
  ·exact may_texts _ fun s hs=>(S.nam.2 s hs).2
  ·exact may_int _ _
  ·exact may_int _ _
  ·exact may_bool _ _
  ·exact may_int _ _
  ·exact may_texts _ fun s hs=>(S.per.2 s hs).2
 have hq:mayB 6 (LZ c.Proms)=true:=NA fun y hy=>by rw[S.pro]at hy; cases hy
 exact may2 (may2 hp hq) (may2 (may_int _ _) (may_int _ _))
theorem small_len {c:g_api_Cert}(S:YW c):(putB 8 (wholeI c)).length≤2048:=by
 have hp:(putB 6 (Vj c)).length≤400:=by
  refine Nat.le_trans (putB_seq 5 _) ?_;have h1:=GM 5 S.iss.1;have h2:=GM 5 S.sub.1;have h3:(putB 5 (GL c.Names)).length≤72:=texts_len 4 S.nam;have h4:(putB 5 (GL c.Permit)).length≤72:=texts_len 4 S.per;have i1:=Ek 5 c.Serial;have i2:=Ek 5 (w64 (c.Key.toNat:Int));have i3:=Ek 5 c.From;have i4:=Ek 5 c.Until;have i5:=Ek 5 c.Depth;have b1:=O9 5 c.Ca;show 4+([JO c.Serial,G9 c.Issuer,G9 c.Subject,JO (w64 (c.Key.toNat:Int)),GL c.Names,JO c.From,JO c.Until,NV c.Ca,JO c.Depth,GL c.Permit].flatMap (putB 5)).length≤400;simp only[List.flatMap_cons,List.flatMap_nil,List.length_append,List.length_nil];omega
 have hq:(putB 6 (LZ c.Proms)).length≤4:=by
  rw[S.pro]; exact Nat.le_trans (putB_seq 5 []) (by simp)
 have hb:(putB 7 (Ju c)).length≤408:=by
  refine Nat.le_trans (putB_seq 6 _) ?_;simp only[List.flatMap_cons,List.flatMap_nil,List.length_append,List.length_nil];omega
 have hs:(putB 7 (LC [My c.Sig.E,My c.Sig.S])).length≤28:=by
  refine Nat.le_trans (putB_seq 6 _) ?_;have i1:=Ek 6 (w64 (c.Sig.E.toNat:Int));have i2:=Ek 6 (w64 (c.Sig.S.toNat:Int));show 4+([JO (w64 (c.Sig.E.toNat:Int)),JO (w64 (c.Sig.S.toNat:Int))].flatMap (putB 6)).length≤28;simp only[List.flatMap_cons,List.flatMap_nil,List.length_append,List.length_nil];omega
 refine Nat.le_trans (putB_seq 7 _) ?_;simp only[List.flatMap_cons,List.flatMap_nil,List.length_append,List.length_nil];omega
theorem small_check {c:g_api_Cert}(S:YW c)(h:formB c=true):checkV c=0:=by
 unfold checkV;rw[if_pos h,if_pos ⟨small_may S,small_len S⟩]
def prB (c:UInt8):Bool:=decide (32≤c.toNat)&&decide (c.toNat≤126)
theorem edge_pr {c:UInt8}(h:FM c=true):prB c=true:=by
 unfold FM at h; unfold prB;simp only[Bool.or_eq_true,Bool.and_eq_true,decide_eq_true_eq]at*;omega
theorem inn_pr {c:UInt8}(h:RW c=true):prB c=true:=by
 unfold RW at h;rw[Bool.or_eq_true]at h;rcases h with h|h
 ·rw[beq_iff_eq]at h; unfold prB; rw[h]; rfl
 ·exact edge_pr h
theorem tail_pr: ∀{l:List UInt8},Nb l=true→∀c∈l,prB c=true
 | [],_,c,hc=>by cases hc
 | [a],h,c,hc=>by rw[List.mem_singleton.1 hc]; exact edge_pr h
 |a::b::l,h,c,hc=>by
  have h:(RW a&&Nb (b::l))=true:=h;rw[Bool.and_eq_true]at h;rcases List.mem_cons.1 hc with rfl|hc
  ·exact inn_pr h.1
  ·exact tail_pr h.2 c hc
theorem lab_pr {l:List UInt8}(h:Lx l=true): ∀c∈l,prB c=true:=by
 intro c hc;match l,h,hc with
 | [],h,hc=>cases hc
 | [a],h,hc=>rw[List.mem_singleton.1 hc]; exact edge_pr h
 |a::b::l,h,hc=>
  have h:((FM a||a.toNat==95)&&Nb (b::l)&&decide ((a::b::l).length≤16))=true:=h;simp only[Bool.and_eq_true,Bool.or_eq_true,beq_iff_eq]at h;rcases List.mem_cons.1 hc with rfl|hc
  ·rcases h.1.1 with q|q
   ·exact edge_pr q
   ·unfold prB; rw[q]; rfl
  ·exact tail_pr h.1.2 c hc
theorem split_pr: ∀(l:List UInt8),(∀x∈BQ l,∀c∈x,prB c=true)→∀c∈l,prB c=true
 | [],_,c,hc=>by cases hc
 |b::l,hx,c,hc=>by
  have ih:=split_pr l;rw[KJ]at hx;by_cases hb:b=46
  ·rw[if_pos hb]at hx;rcases List.mem_cons.1 hc with rfl|hc
   ·rw[hb]; rfl
   ·exact ih (fun x hx2=>hx x (List.mem_cons_of_mem _ hx2)) c hc
  ·rw[if_neg hb]at hx;cases hq:BQ l with
   |nil=>exact absurd hq (IL l)
   |cons u t=>
    rw[hq]at hx ih;rcases List.mem_cons.1 hc with rfl|hc
    ·exact hx (c::u) List.mem_cons_self c List.mem_cons_self
    ·refine ih (fun x hx2=> ?_) c hc;rcases List.mem_cons.1 hx2 with rfl|hx2
     ·exact fun e he=>hx (b::x) List.mem_cons_self e (List.mem_cons_of_mem _ he)
     ·exact hx x (List.mem_cons_of_mem _ hx2)
theorem name_pr {l:List UInt8}{n k:Nat}(h:isB l n k=true):printB l=true∧l.length≤k:=by
 unfold isB Qe at h;simp only[Bool.and_eq_true,decide_eq_true_eq]at h;exact⟨List.all_eq_true.2 (split_pr l fun x hx=>lab_pr (List.all_eq_true.1 h.2 x hx)),h.1.1⟩
theorem pat_pr {l:List UInt8}(h:LB l=true):printB l=true∧l.length≤64:=by
 match l,h with
 |a::b::r,h=>
  unfold LB at h;simp only[Bool.and_eq_true,beq_iff_eq]at h;obtain⟨⟨rfl,rfl⟩,h⟩:=h;obtain⟨h1,h2⟩:=name_pr h;refine⟨?_,by simp only[List.length_cons]; omega⟩;have h1:(r.all fun c=>decide (32≤c.toNat)&&decide (c.toNat≤126))=true:=h1;unfold printB;rw[List.all_cons,List.all_cons,h1]; rfl
theorem bel_small: ∀(n:Nat) {u o:ByteArray},u.size<o.size→YT n u o=false
 |0,_,_,_=>rfl
 |n+1,u,o,h=>by
  unfold YT;by_cases h1:eqS u ⟨#[]⟩=true
  ·rw[if_pos h1]
  ·rw[if_neg h1,if_neg (fun q=>by rw[Jt.1 q]at h; omega)];refine bel_small n ?_;rcases Xi u with q|q
   ·rw[q]; show 0<o.size; omega
   ·omega
theorem bel_self {s:ByteArray}(h:1≤s.size):belV s s=false:=by
 refine bel_small 100 ?_;rcases Xi s with q|q
 ·rw[q]; show 0<s.size; omega
 ·exact q
theorem nm_size {s:ByteArray}(h:isB (toL s) 8 64=true):1≤s.size∧s.size≤64:=by
 have hz:=AW s;refine⟨?_,by have:=(name_pr h).2; rw[←hz]; exact this⟩;rcases Nat.eq_zero_or_pos s.size with q|q
 ·have:toL s=[]:=List.eq_nil_of_length_eq_zero (by rw[show(toL s).length=s.size from hz]; exact q);rw[this,Yh]at h; cases h
 ·exact q
end Go.Proofs.YtbajlmaijjcbmaaGreatDoor
end
section
namespace Go.Proofs.YtbajlmaijjcbmaaGreatDoor
open Go Go.Gw Go.Ax
theorem form_ca {c:g_api_Cert}(h1:c.Proms=[])(h2:numB c.Serial=true)(h3:numB c.From=true)(h4:numB c.Until=true)(h5:c.From<c.Until)(h6:textV c.Issuer=true)(h7: ∃k,c.Key=Hn k)(h8:sigB c.Sig=true)(hc:c.Ca=true)
  (h9:textV c.Subject=true) (h10:c.Names=[]) (h11:0≤c.Depth∧c.Depth≤4):formB c=listV patV c.Permit 0 8:=by
 obtain⟨k,hk⟩:=h7;have p1:=PB k;have p2:=Tj k;simp only[GQ]at p2;unfold formB;rw[h1,h2,h3,h4,decide_eq_true h5,h6,hk,h8,if_pos hc,h9,h10,decide_eq_true h11.1,decide_eq_true h11.2,show(((Hn k).toNat:Int)==0)=false from by rw[beq_eq_false_iff_ne]; omega,decide_eq_true (show((Hn k).toNat:Int)<2305843009213691579 from by omega)];show(_&&listV patV c.Permit 0 8)=_;rfl
theorem form_le {c:g_api_Cert}(h1:c.Proms=[])(h2:numB c.Serial=true)(h3:numB c.From=true)(h4:numB c.Until=true)(h5:c.From<c.Until)(h6:textV c.Issuer=true)(h7: ∃k,c.Key=Hn k)(h8:sigB c.Sig=true)(hc:c.Ca=false)
  (h9:eqS c.Subject ⟨#[]⟩=true) (h10:listV nameV c.Names 1 8=true) (h11:c.Depth=0) (h12:c.Permit=[]):formB c=true:=by
 obtain⟨k,hk⟩:=h7;have p1:=PB k;have p2:=Tj k;simp only[GQ]at p2;unfold formB;rw[h1,h2,h3,h4,decide_eq_true h5,h6,hk,h8,if_neg (by rw[hc]; decide),h9,h10,h11,h12,show(((Hn k).toNat:Int)==0)=false from by rw[beq_eq_false_iff_ne]; omega,decide_eq_true (show((Hn k).toNat:Int)<2305843009213691579 from by omega)];rfl
def tR:ByteArray:=⟨#[114]⟩
def tM:ByteArray:=⟨#[109]⟩
def tL:ByteArray:=⟨#[108]⟩
theorem tR_ok:textV tR=true:=by kernel_rfl
theorem tM_ok:textV tM=true:=by kernel_rfl
theorem cat1 (x:UInt8){s:ByteArray}(h:s.size≤50):RX (⟨#[x]⟩:ByteArray) s=some (⟨#[x]⟩++s)∧((⟨#[x]⟩:ByteArray)++s).size≤1000:=by
 have e:(⟨#[x]⟩:ByteArray).size=1:=rfl;unfold RX;rw[if_pos (by rw[e]; omega),ByteArray.size_append,e];exact⟨rfl,by omega⟩
def GW (s:ByteArray)(d f u:Int):g_api_Cert:=⟨1,tR,tR,Hn (Ru (tR++s)),[],f,u,true,d,[],[],⟨0,0⟩⟩
def mid0 (s:ByteArray)(per:List ByteArray)(f u:Int):g_api_Cert:=⟨2,tR,tM,Hn (Ru (tM++s)),[],f,u,true,0,per,[],⟨0,0⟩⟩
def Ix (s:ByteArray)(per:List ByteArray)(f u:Int):g_api_Cert:=sgC (mid0 s per f u) (tR++s)
def VD (s n:ByteArray)(f u:Int):g_api_Cert:=⟨3,tM,ByteArray.empty,Hn (Ru (tL++s)),[n],f,u,false,0,[],[],⟨0,0⟩⟩
def Hq (s n:ByteArray)(f u:Int):g_api_Cert:=sgC (VD s n f u) (tM++s)
section
variable {s:ByteArray}(hs:s.size≤50){f u:Int}
include hs
theorem root_eq19 (d:Int):Eo s d f u=some (GW s d f u):=by
 unfold Eo;rw[(cat1 114 hs).1,Ab,key_eq19 (cat1 114 hs).2,Ab];rfl
theorem mid_eq (per:List ByteArray):CB s per f u=some (Ix s per f u):=by
 unfold CB;rw[(cat1 109 hs).1,Ab,key_eq19 (cat1 109 hs).2,Ab,(cat1 114 hs).1,Ab,signed_eq19 _ (cat1 114 hs).2,Ab];rfl
theorem leaf_eq19 (n:ByteArray):Ep s n f u=some (Hq s n f u):=by
 unfold Ep;rw[(cat1 108 hs).1,Ab,key_eq19 (cat1 108 hs).2,Ab,(cat1 109 hs).1,Ab,signed_eq19 _ (cat1 109 hs).2,Ab];rfl
end
theorem tR_sm:tR.size≤64∧printB (toL tR)=true:=⟨by decide,rfl⟩
theorem tM_sm:tM.size≤64∧printB (toL tM)=true:=⟨by decide,rfl⟩
theorem nil_sm:([]:List ByteArray).length≤1∧∀s∈([]:List ByteArray),s.size≤64∧printB (toL s)=true:=⟨Nat.zero_le _,fun s h=>by cases h⟩
theorem name_sm {n:ByteArray}(h:isB (toL n) 8 64=true):([n]:List ByteArray).length≤1∧∀s∈([n]:List ByteArray),s.size≤64∧printB (toL s)=true:=
 ⟨Nat.le_refl _,fun s hs=>by rw[List.mem_singleton.1 hs]; exact⟨(nm_size h).2,(name_pr h).1⟩⟩
theorem star_sm {n:ByteArray}(h:LB (toL n)=true):([n]:List ByteArray).length≤1∧∀s∈([n]:List ByteArray),s.size≤64∧printB (toL s)=true:=
 ⟨Nat.le_refl _,fun s hs=>by rw[List.mem_singleton.1 hs]; exact⟨by rw[←AW]; exact(pat_pr h).2,(pat_pr h).1⟩⟩
theorem sig0:sigB ⟨0,0⟩=true:=by decide
theorem list_one (r:ByteArray→Int)(a:Int)(n:ByteArray)(h:a≤1):listV r [n] a 8=(r n==0):=by
 show((!false&&r n==0&&true)&&decide ((1:Int)≥a)&&decide ((1:Int)≤8))=_;rw[decide_eq_true (show(1:Int)≥a from h)];cases r n==0<;>rfl
section
variable {s n:ByteArray}{f u:Int}(hf:0≤f)(hfu:f<u)(hu:u≤1099511627776)
include hf hfu hu
theorem num_f:numB f=true∧numB u=true:=by
 unfold numB;rw[decide_eq_true (show f≥0 from hf),decide_eq_true (show f≤1099511627776 from by omega),decide_eq_true (show u≥0 from by omega),decide_eq_true hu];exact⟨rfl,rfl⟩
theorem root_ok {d:Int}(hd:0≤d∧d≤4):checkV (GW s d f u)=0:=by
 obtain⟨a,b⟩:=num_f hf hfu hu;refine small_check ⟨tR_sm,tR_sm,nil_sm,nil_sm,rfl⟩ ?_;rw[form_ca (c:=GW s d f u) rfl rfl a b hfu tR_ok ⟨_,rfl⟩ sig0 rfl tR_ok rfl hd];rfl
theorem mid_form (per:List ByteArray)(g:g_api_Sig)(hg:sigB g=true):formB {mid0 s per f u with Sig:=g}=listV patV per 0 8:=by
 obtain⟨a,b⟩:=num_f hf hfu hu;exact form_ca (c:={mid0 s per f u with Sig:=g}) rfl rfl a b hfu tR_ok ⟨_,rfl⟩ hg rfl tM_ok rfl ⟨Int.le_refl _,by show(0:Int)≤4; decide⟩
theorem mid_ok {per:List ByteArray}(hp:per.length≤1∧∀s∈per,s.size≤64∧printB (toL s)=true)(hl:listV patV per 0 8=true)(g:g_api_Sig)(hg:sigB g=true):checkV {mid0 s per f u with Sig:=g}=0:=
 small_check ⟨tR_sm,tM_sm,nil_sm,hp,rfl⟩ ((mid_form hf hfu hu per g hg).trans hl)
theorem leaf_ok (hn:isB (toL n) 8 64=true)(g:g_api_Sig)(hg:sigB g=true):checkV {VD s n f u with Sig:=g}=0:=by
 obtain⟨a,b⟩:=num_f hf hfu hu;refine small_check ⟨tM_sm,⟨Nat.zero_le _,rfl⟩,name_sm hn,nil_sm,rfl⟩ ?_;refine form_le (c:={VD s n f u with Sig:=g}) rfl rfl a b hfu tM_ok ⟨_,rfl⟩ hg rfl rfl ?_ rfl rfl;show listV nameV [n] 1 8=true;rw[list_one nameV 1 n (Int.le_refl _),Ka,show isB n.data.toList 8 64=true from hn];rfl
end
theorem linkV_of {a b:g_api_Cert}(h1:checkV a=0)(h2:checkV b=0)(h3:b.Ca=true)(h4:eqS a.Issuer b.Subject=true)(h5:Sw b.Key (E7 a) a.Sig=0):Ii a b=0:=by
 unfold Ii;rw[if_neg (nn0 h1),if_neg (nn0 h2),h3,h4,if_neg (by decide),if_neg (nn0 h5)]
theorem sgn_ok {c:g_api_Cert}(x:ByteArray)(h:checkV c=0):Sw (Hn (Ru x)) (E7 (sgC c x)) (sgC c x).Sig=0:=by
 have k:=RO (k:=Ru x) (msg:=E7 c) (sec_nat x).1 (sec_nat x).2 (by have:=NW (okc h); omega);have key: ∀g:g_api_Sig,g=JY (Ru x) (E7 c)→Sw (Hn (Ru x)) (E7 (sgD c g)) (sgD c g).Sig=0:=fun g hg=>by
  unfold Sw;rw[body_sg,show(sgD c g).Sig=g from rfl,hg,k];rfl
 unfold sgC;exact key _ (by rw[if_pos h])
theorem star_no (r:List UInt8):isB (42::46::r) 8 64=false:=by
 unfold isB Qe;have:BQ (42::46::r)=[42]::BQ r:=KH [42] r (by decide);rw[this,List.all_cons,show Lx [42]=false from by decide,Bool.false_and,Bool.and_false]
theorem eqS_self (x:ByteArray):eqS x x=true:=Jt.2 rfl
theorem made_path {s n:ByteArray}{d f u now:Int}{per:List ByteArray}(hf:0≤f)(hfu:f<u)(hu:u≤1099511627776)(hd:0≤d∧d≤4)(h0:0≤now)(hM:now≤1099511627776)(hn:isB (toL n) 8 64=true)
  (hp:per.length≤1∧∀s∈per,s.size≤64∧printB (toL s)=true) (hl:listV patV per 0 8=true):
  PE [GW s d f u] [Hq s n f u,Ix s per f u] n now=if now<f∨now≥u then 190 else if Hp [n] 0 (Ix s per f u)≠0 then Hp [n] 0 (Ix s per f u)else if d<1 then 191 else 0:=by
 have cR:=root_ok (s:=s) hf hfu hu hd;have cM0:checkV (mid0 s per f u)=0:=mid_ok hf hfu hu hp hl ⟨0,0⟩ sig0;have cL0:checkV (VD s n f u)=0:=leaf_ok hf hfu hu hn ⟨0,0⟩ sig0;have cM:checkV (Ix s per f u)=0:=mid_ok hf hfu hu hp hl _ (sig_okB _ _);have cL:checkV (Hq s n f u)=0:=leaf_ok hf hfu hu hn _ (sig_okB _ _);have l1:Ii (Hq s n f u) (Ix s per f u)=0:=linkV_of cL cM rfl (eqS_self tM) (sgn_ok (tM++s) cL0);have l2:Ii (Ix s per f u) (GW s d f u)=0:=linkV_of cM cR rfl (eqS_self tR) (sgn_ok (tR++s) cM0);have hnm:nameV n=0:=by rw[Ka,show isB n.data.toList 8 64=true from hn]; rfl
 rw[pathV_gen (leaf:=Hq s n f u) (more:=[Ix s per f u]) (roots:=[GW s d f u]) (by simp) (fun c hc=>by
  simp only[List.mem_cons,List.not_mem_nil,or_false]at hc;rcases hc with rfl|rfl
  ·exact cL
  ·exact cM) rfl (by unfold linksV; rw[if_neg (nn0 l1)]; rfl) (by simp) (fun c hc=>by rw[List.mem_singleton.1 hc]; exact cR) n now,if_neg (by omega),if_neg (nn0 hnm)]
 have hh:((Hq s n f u).Names.any fun x=>eqS n x)=true:=by
  show([n].any fun x=>eqS n x)=true;rw[List.any_cons,eqS_self]; rfl
 rw[hh,if_neg (show¬(true=false)from by decide)];have ht:([Hq s n f u,Ix s per f u].any fun c=> !timeB c now)= !(decide (f≤now)&&decide (u>now)):=by
  show(!(decide (f≤now)&&decide (u>now))||(!(decide (f≤now)&&decide (u>now))||false))=_;cases (decide (f≤now)&&decide (u>now))<;>rfl
 rw[ht];by_cases hl:now<f∨now≥u
 ·have:(decide (f≤now)&&decide (u>now))=false:=by rw[Bool.and_eq_false_iff,decide_eq_false_iff_not,decide_eq_false_iff_not]; omega
  rw[this,if_pos hl]; rfl
 ·have hT:(decide (f≤now)&&decide (u>now))=true:=by rw[Bool.and_eq_true,decide_eq_true_eq,decide_eq_true_eq]; omega
  rw[hT,if_neg hl,if_neg (by decide)];have hb:byV [Hq s n f u,Ix s per f u] now (GW s d f u)=if Hp [n] 0 (Ix s per f u)≠0 then Hp [n] 0 (Ix s per f u)else if d<1 then 191 else 0:=by
   unfold byV;dsimp only;rw[if_neg (nn0 (show Ii ([Hq s n f u,Ix s per f u].getLast (by simp)) (GW s d f u)=0 from l2)),show timeB (GW s d f u) now=true from hT,if_neg (show¬(true=false)from by decide)];show(if Hp [n] 0 (Ix s per f u)=0 then(if Hp [n] 1 (GW s d f u)=0 then 0 else Hp [n] 1 (GW s d f u))else Hp [n] 0 (Ix s per f u))=_;have ov:Hp [n] 1 (GW s d f u)=if d<1 then 191 else 0:=by
    unfold Hp;by_cases h:d<1
    ·rw[if_pos h,if_pos (show(GW s d f u).Depth<((1:Nat):Int)from h)]
    ·rw[if_neg h,if_neg (show¬((GW s d f u).Depth<((1:Nat):Int))from h),if_neg (fun q=>absurd q.1 (Nat.lt_irrefl 0))]
   rw[ov];by_cases h:Hp [n] 0 (Ix s per f u)=0
   ·rw[if_pos h,if_neg (nn0 h)];by_cases h:d<1
    ·rw[if_pos h]; rfl
    ·rw[if_neg h]; rfl
   ·rw[if_neg h,if_pos h]
  show(if([GW s d f u].any fun r=>byV [Hq s n f u,Ix s per f u] now r==0)=true then 0 else byV [Hq s n f u,Ix s per f u] now (GW s d f u))=_;rw[hb];show(if((byV [Hq s n f u,Ix s per f u] now (GW s d f u)==0)||false)=true then 0 else _)=_;rw[hb,Bool.or_false];generalize (if Hp [n] 0 (Ix s per f u)≠0 then Hp [n] 0 (Ix s per f u)else if d<1 then 191 else 0)=z;by_cases hz:z=0
  ·rw[hz]; rfl
  ·rw[if_neg (by simpa using hz)]
theorem over_mid {s p n:ByteArray}{f u:Int}:Hp [n] 0 (Ix s [p] f u)=if QM p n=true then 0 else 110:=by
 unfold Hp;rw[if_neg (show¬((Ix s [p] f u).Depth<((0:Nat):Int))from by show¬((0:Int)<0); decide)];have:([n].any fun n=> !UX (Ix s [p] f u) n)= !QM p n:=by
  show(!(QM p n||false)||false)=_;rw[Bool.or_false,Bool.or_false]
 rw[this];cases QM p n with
 |true=>rw[if_neg (by rintro⟨_,q⟩; cases q)]; rfl
 |false=>rw[if_pos ⟨by show 0<1; decide,rfl⟩]; rfl
theorem made_bad {s n x:ByteArray}{d f u now:Int}(hf:0≤f)(hfu:f<u)(hu:u≤1099511627776)(h0:0≤now)(hM:now≤1099511627776)(hn:isB (toL n) 8 64=true)(hx:patV x≠0):
  PE [GW s d f u] [Hq s n f u,Ix s [x] f u] n now=1:=by
 have cL:checkV (Hq s n f u)=0:=leaf_ok hf hfu hu hn _ (sig_okB _ _);have cM:checkV (Ix s [x] f u)=1:=Uy ((mid_form hf hfu hu [x] _ (sig_okB _ _)).trans (by rw[list_one patV 0 x (by decide)]; simpa using hx));have hnm:nameV n=0:=by rw[Ka,show isB n.data.toList 8 64=true from hn]; rfl
 have e1:G3 [GW s d f u] [Hq s n f u,Ix s [x] f u] n now=0:=by
  unfold G3;rw[if_neg,hnm];rintro(q|q|q|q|q)
  ·cases q
  ·exact absurd (show 4<2 from q) (by decide)
  ·exact absurd (show 16<1 from q) (by decide)
  ·omega
  ·omega
 have e2:P5 ([Hq s n f u,Ix s [x] f u]++[GW s d f u])=1:=by
  show(if checkV (Hq s n f u)=0 then(if checkV (Ix s [x] f u)=0 then _ else checkV (Ix s [x] f u))else _)=1;rw[if_pos cL,cM]; rfl
 unfold PE;rw[e1,if_neg (nn0 rfl),e2,if_pos (by decide)]
theorem made_fin (e g d now f u:Int)(he:e=if now<f∨now≥u then 190 else if d<1 then 191 else 0)(hg:g=1∨g=if now<f∨now≥u then 190 else 110):
  (if((decide (now<f))||(decide (now≥u)))=true then(bnd (((true&&(e==190))&&((g==190)||(g==1)))) fun x11=>some x11)else if(decide (d<1))=true then(bnd (((true&&(e==191))&&(g !=0))) fun x12=>some x12)else bnd (((true&&(e==0))&&((g==110)||(g==1)))) fun x13=>some x13)=some true:=by
 by_cases h:now<f∨now≥u
 ·rw[if_pos h]at he hg;rw[if_pos (by rw[Bool.or_eq_true,decide_eq_true_eq,decide_eq_true_eq]; exact h),he];rcases hg with rfl|rfl<;>rfl
 ·rw[if_neg h]at he hg;rw[if_neg (by rw[Bool.or_eq_true,decide_eq_true_eq,decide_eq_true_eq]; exact h)];by_cases hd:d<1
  ·rw[if_pos hd]at he;rw[if_pos (decide_eq_true hd),he];rcases hg with rfl|rfl<;>rfl
  ·rw[if_neg hd]at he;rw[if_neg (fun q=>hd (of_decide_eq_true q)),he];rcases hg with rfl|rfl<;>rfl
theorem made_true (a0:ByteArray)(a1:Int)(a2:ByteArray)(a3 a4 a5:Int):C9 a0 a1 a2 a3 a4 a5=some true:=by
 unfold C9;rw[PT,Ab,if_neg (by decide),IX];cases hg:(((((((decide ((a0.size:Int)>50))||(decide (a1<0)))||(decide (a1>4)))||(decide (a3<0)))||(decide (a4≤a3)))||(decide (a4>1099511627776)))||(decide (a5<0)))||(decide (a5>1099511627776))with
 |true=>rfl
 |false=>
  rw[show gu (!false) (some (nameV a2))=some (nameV a2)from rfl,Ab,Bool.false_or];simp only[Bool.or_eq_false_iff,decide_eq_false_iff_not]at hg;obtain⟨⟨⟨⟨⟨⟨⟨g1,g2⟩,g3⟩,g4⟩,g5⟩,g6⟩,g7⟩,g8⟩:=hg;by_cases hn:nameV a2=0
  ·rw[hn,if_neg (by decide)];have hs:a0.size≤50:=by omega
   have hN:isB (toL a2) 8 64=true:=by
    rw[Ka]at hn;cases q:isB (toL a2) 8 64 with
    |true=>rfl
    |false=>rw[show isB a2.data.toList 8 64=false from q]at hn; cases hn
   have hz:=nm_size hN;have hcat:RX (⟨#[42,46]⟩:ByteArray) a2=some (⟨#[42,46]⟩++a2):=by
    have e:(⟨#[42,46]⟩:ByteArray).size=2:=rfl;unfold RX;rw[if_pos (by rw[e]; omega)]
   rw[root_eq19 hs,Ab,mid_eq hs,Ab,leaf_eq19 hs,Ab];show Ad (some (Hq a0 a2 a3 a4)) _=_;rw[Ab,hcat,Ab,mid_eq hs,Ab,Tt,Ab,Tt,Ab];have hpN:patV a2=0:=by rw[PF,hN]; rfl
   have hmm:QM a2 a2=true:=by unfold QM; rw[hN,if_pos rfl,eqS_self]; rfl
   have e1:=made_path (s:=a0) (d:=a1) (now:=a5) (per:=[a2]) (show 0≤a3 by omega) (show a3<a4 by omega) (by omega) ⟨by omega,by omega⟩ (show 0≤a5 by omega) (by omega) hN (name_sm hN) (by rw[list_one patV 0 a2 (by decide),hpN]; rfl);rw[over_mid,if_pos hmm,if_neg (nn0 rfl)]at e1;have hx:toL ((⟨#[42,46]⟩:ByteArray)++a2)=42::46::toL a2:=by
    unfold toL;rw[ByteArray.data_append,Array.toList_append]; rfl
   generalize (⟨#[42,46]⟩:ByteArray)++a2=x at*;refine made_fin _ _ a1 a5 a3 a4 e1 ?_;have hxi:isB (toL x) 8 64=false:=by rw[hx]; exact star_no _
   cases hst:LB (toL x)with
   |false=>
    left;exact made_bad (show 0≤a3 by omega) (show a3<a4 by omega) (by omega) (show 0≤a5 by omega) (by omega) hN (by rw[PF,hxi,hst]; decide)
   |true=>
    right;have hpx:patV x=0:=by rw[PF,hxi,hst]; rfl
    have hne:QM x a2=false:=by
     have hxe:x.extract 2 x.size=a2:=by
      have hl:toL (x.extract 2 x.size)=toL a2:=by
       rw[show toL (x.extract 2 x.size)=((toL x).take x.size).drop 2 from Gv x 2 x.size,List.take_of_length_le (by rw[←AW]; exact Nat.le_refl _),hx]; rfl
      exact ByteArray.ext (Array.ext' hl)
     unfold QM;rw[hN,hxi,if_neg (by decide),hst,hxe,bel_self hz.1]; rfl
    have e2:=made_path (s:=a0) (d:=a1) (now:=a5) (per:=[x]) (show 0≤a3 by omega) (show a3<a4 by omega) (by omega) ⟨by omega,by omega⟩ (show 0≤a5 by omega) (by omega) hN (star_sm hst) (by rw[list_one patV 0 x (by decide),hpx]; rfl);rw[over_mid,hne,if_neg (show¬(false=true)from by decide),if_pos (show(110:Int)≠0 from by decide)]at e2;exact e2
  ·rw[if_pos (by simpa using hn)]
end Go.Proofs.YtbajlmaijjcbmaaGreatDoor
end
section
namespace Go.Proofs.YtbajlmaijjcbmaaGreatDoor.lawPathMade
open Go Go.Gw Go.ChangeShapes Go.WideShapes Go.ChangeAt Go.RowKit
theorem own:ownKnob Tryz.prog.godebug=none:=by kernel_rfl
theorem tab_ir:Ir Tryz.prog 180 (.agg [.agg [.lit (.int .i64 1),.held [103,114,101,97,116,115,101,97,108,47,100,101,114,46,107,105,110,100,115,36,49]],.agg [.lit (.int .i64 2),.held [103,114,101,97,116,115,101,97,108,47,100,101,114,46,108,101,97,115,116]],.agg [.lit (.int .i64 4),.held [103,114,101,97,116,115,101,97,108,47,100,101,114,46,107,105,110,100,115,36,50]],.agg [.lit (.int .i64 12),.held [103,114,101,97,116,115,101,97,108,47,100,101,114,46,107,105,110,100,115,36,51]],.agg [.lit (.int .i64 48),.held [103,114,101,97,116,115,101,97,108,47,100,101,114,46,107,105,110,100,115,36,52]]]) [[.int .i64 1,.func (.func 252) #[] #[]],[.int .i64 2,.func (.func 157) #[] #[]],[.int .i64 4,.func (.func 253) #[] #[]],[.int .i64 12,.func (.func 254) #[] #[]],[.int .i64 48,.func (.func 257) #[] #[]]].flatten:=
 Ir.arr (n:=5) (k:=2) Tryz.underlying180 (by kernel_rfl) (by kernel_rfl) rfl rfl fun i d c h1 h2=>by
  match i,h1,h2 with
  |0,h1,h2=>cases h1; cases h2; exact Ir.pair Tryz.underlying146 rfl rfl rfl (by kernel_rfl) rfl rfl (by kernel_rfl) (by kernel_rfl) (Ir.int Tryz.underlying3) (Ir.fn Tryz.underlying144 Tryz.func252 (by kernel_rfl) (by kernel_rfl))
  |1,h1,h2=>cases h1; cases h2; exact Ir.pair Tryz.underlying146 rfl rfl rfl (by kernel_rfl) rfl rfl (by kernel_rfl) (by kernel_rfl) (Ir.int Tryz.underlying3) (Ir.fn Tryz.underlying144 Tryz.func157 (by kernel_rfl) (by kernel_rfl))
  |2,h1,h2=>cases h1; cases h2; exact Ir.pair Tryz.underlying146 rfl rfl rfl (by kernel_rfl) rfl rfl (by kernel_rfl) (by kernel_rfl) (Ir.int Tryz.underlying3) (Ir.fn Tryz.underlying144 Tryz.func253 (by kernel_rfl) (by kernel_rfl))
  |3,h1,h2=>cases h1; cases h2; exact Ir.pair Tryz.underlying146 rfl rfl rfl (by kernel_rfl) rfl rfl (by kernel_rfl) (by kernel_rfl) (Ir.int Tryz.underlying3) (Ir.fn Tryz.underlying144 Tryz.func254 (by kernel_rfl) (by kernel_rfl))
  |4,h1,h2=>cases h1; cases h2; exact Ir.pair Tryz.underlying146 rfl rfl rfl (by kernel_rfl) rfl rfl (by kernel_rfl) (by kernel_rfl) (Ir.int Tryz.underlying3) (Ir.fn Tryz.underlying144 Tryz.func257 (by kernel_rfl) (by kernel_rfl))
  |n+5,h1,h2=>cases h1
theorem gB {W:World}(h:laidMetH Tryz.prog Rows.pathMadeRow.laid W):GB (memOf W):=fun p hp=>by
 obtain rfl:=List.mem_singleton.1 hp;exact gb_of (name:= "greatseal/der.kinds") (by kernel_rfl) (by kernel_rfl) (laidMetH.funcs h (d:= .agg [.agg [.lit (.int .i64 1),.iface "func" (.lit (.string [103,114,101,97,116,115,101,97,108,47,100,101,114,46,107,105,110,100,115,36,49]))],.agg [.lit (.int .i64 2),.iface "func" (.lit (.string [103,114,101,97,116,115,101,97,108,47,100,101,114,46,108,101,97,115,116]))],.agg [.lit (.int .i64 4),.iface "func" (.lit (.string [103,114,101,97,116,115,101,97,108,47,100,101,114,46,107,105,110,100,115,36,50]))],.agg [.lit (.int .i64 12),.iface "func" (.lit (.string [103,114,101,97,116,115,101,97,108,47,100,101,114,46,107,105,110,100,115,36,51]))],.agg [.lit (.int .i64 48),.iface "func" (.lit (.string [103,114,101,97,116,115,101,97,108,47,100,101,114,46,107,105,110,100,115,36,52]))]]) (List.Mem.tail _ (List.Mem.head _))) tab_ir
theorem rd9:Rd Tryz.prog 9 (ByteArray):=Rd.str Tryz.underlying9
theorem rd3:Rd Tryz.prog 3 (Int):=Rd.int Tryz.underlying3
theorem contract (H:Type)(enc:TypeId×Value→H)(W:World)(base:Nat)(args:Array Value)(ds gs:List (DataW H))(before:List MemPlace)
  (hval: ∀(j:Nat) t v,Tryz.f6.params[j]? =some t→args[j]? =some v→Value.okWide Tryz.prog W .any base t v)
  (hW:DataW.Whole enc Tryz.prog Tryz.f6.params.toList Rows.pathMadeSpec.vars false W args.toList ds gs before) (hL:laidMetH Tryz.prog Rows.pathMadeRow.laid W):
  Calls Tryz.prog 6 args W fun e W'=> ∃v,e= .returned v∧Rows.pathMadeSpec.post enc Tryz.prog Tryz.f6 false true false false W args v W':=by
 have hW':=hW;obtain⟨p,q,hA0,hV,rfl,hfz,hnd⟩:=hW;obtain⟨rfl,rfl⟩:=trodVars_none hV;rw[List.append_nil]at hW';have hA:DataW.TrodAll enc Tryz.prog W 0 (fun _=>true) true Tryz.f6.params.toList args.toList ds p:=hA0;have hA1:=hA;have hpl:Tryz.f6.params.toList=[9,3,9,3,3,3]:=by rw[Tryz.params6]
 rw[hpl]at hA1;obtain⟨v0,w0,d0,e0,p0,q0,ha0,he0,hp0,h0,r0⟩:=trodAll_cons hA1;obtain⟨v1,w1,d1,e1,p1,q1,ha1,he1,hp1,h1,r1⟩:=trodAll_cons r0;obtain⟨v2,w2,d2,e2,p2,q2,ha2,he2,hp2,h2,r2⟩:=trodAll_cons r1;obtain⟨v3,w3,d3,e3,p3,q3,ha3,he3,hp3,h3,r3⟩:=trodAll_cons r2;obtain⟨v4,w4,d4,e4,p4,q4,ha4,he4,hp4,h4,r4⟩:=trodAll_cons r3;obtain⟨v5,w5,d5,e5,p5,q5,ha5,he5,hp5,h5,r5⟩:=trodAll_cons r4;obtain⟨z1,z2,z3⟩:=trodAll_nil r5;obtain rfl:args= #[v0,v1,v2,v3,v4,v5]:=by
  apply Array.ext'; rw[ha0,ha1,ha2,ha3,ha4,ha5,z1]
 obtain rfl:ds=[d0,d1,d2,d3,d4,d5]:=by rw[he0,he1,he2,he3,he4,he5,z2]
 rw[Tryz.params6]at hval;obtain⟨a0,rfl⟩:=okWide_string Tryz.underlying9 (hval 0 9 v0 rfl rfl);obtain⟨a1,rfl,_,_,_⟩:=open_int Tryz.underlying3 (hval 1 3 v1 rfl rfl) h1;obtain⟨a2,rfl⟩:=okWide_string Tryz.underlying9 (hval 2 9 v2 rfl rfl);obtain⟨a3,rfl,_,_,_⟩:=open_int Tryz.underlying3 (hval 3 3 v3 rfl rfl) h3;obtain⟨a4,rfl,_,_,_⟩:=open_int Tryz.underlying3 (hval 4 3 v4 rfl rfl) h4;obtain⟨a5,rfl,_,_,_⟩:=open_int Tryz.underlying3 (hval 5 3 v5 rfl rfl) h5;have hc:=JW (St.of W (gB hL)) (made_true a0 a1 a2 a3 a4 a5);refine Calls.mono hc ?_;rintro e W' ⟨v,rfl,hk,M,hle,S,rfl⟩;refine⟨.bool true,rfl,Tm (tb:=4) (by kernel_rfl) (by kernel_rfl) rfl (by kernel_rfl) Tryz.underlying4 hW' hA rfl rfl rfl hle S hk⟩
noncomputable def K8 (os:Os):World:=
 {World.holding Tryz.prog os ⟨#[], #[],[]⟩with heap:=((((World.holding Tryz.prog os ⟨#[], #[],[]⟩).heap.modify 5 fun| .cells _ t fr=> .cells #[.int .u8 128,.int .u8 191,.int .u8 160,.int .u8 191,.int .u8 128,.int .u8 159,.int .u8 144,.int .u8 191,.int .u8 128,.int .u8 143,.int .u8 0,.int .u8 0,.int .u8 0,.int .u8 0,.int .u8 0,.int .u8 0,.int .u8 0,.int .u8 0,.int .u8 0,.int .u8 0,.int .u8 0,.int .u8 0,.int .u8 0,.int .u8 0,.int .u8 0,.int .u8 0,.int .u8 0,.int .u8 0,.int .u8 0,.int .u8 0,.int .u8 0,.int .u8 0] t fr|o=>o).modify 0 fun| .cells _ t fr=> .cells [[.int .i64 1,.func (.func 252) #[] #[]],[.int .i64 2,.func (.func 157) #[] #[]],[.int .i64 4,.func (.func 253) #[] #[]],[.int .i64 12,.func (.func 254) #[] #[]],[.int .i64 48,.func (.func 257) #[] #[]]].flatten.toArray t fr|o=>o).modify 4 fun| .cells _ t fr=> .cells ((List.replicate 128 240++List.replicate 66 241++List.replicate 30 2++[19]++List.replicate 12 3++[35,3,3,52,4,4,4,68]++List.replicate 11 241:List Int).map fun n=>Value.int .u8 n).toArray t fr|o=>o)}
theorem laid_met (os:Os):laidMetH Tryz.prog Rows.pathMadeRow.laid ((K8 os).forCall (fun _ _=>0) ⟨#[], #[(.string ⟨#[]⟩:Value),(.int .i64 0:Value),(.string ⟨#[]⟩:Value),(.int .i64 0:Value),(.int .i64 0:Value),(.int .i64 0:Value)],[]⟩).memory:=
 laidMetH_of_parts3 (fuel:=8) (laidMet_of_run' 8 (by kernel_rfl) (by kernel_rfl)) (by kernel_rfl) (by kernel_rfl)
theorem reads (os:Os){H:Type}(enc:TypeId×Value→H): ∃places,DataW.whole enc Tryz.prog ((K8 os).forCall (fun _ _=>0) ⟨#[], #[(.string ⟨#[]⟩:Value),(.int .i64 0:Value),(.string ⟨#[]⟩:Value),(.int .i64 0:Value),(.int .i64 0:Value),(.int .i64 0:Value)],[]⟩).memory Tryz.f6.params.toList Rows.pathMadeSpec.vars false #[(.string ⟨#[]⟩:Value),(.int .i64 0:Value),(.string ⟨#[]⟩:Value),(.int .i64 0:Value),(.int .i64 0:Value),(.int .i64 0:Value)].toList 8=some ([.lit (.string []),.lit (.int .i64 0),.lit (.string []),.lit (.int .i64 0),.lit (.int .i64 0),.lit (.int .i64 0)],[],places):=
 ⟨[],by kernel_rfl⟩
theorem lifted (os:Os)(started:os.Started)(H:Type)(enc:TypeId×Value→H)(F:Stop.Interp):
  ReturnsInHanded {} Tryz.checked os 6 .any ((OpenSpec.ofChange Rows.pathMadeSpec).preRow enc Tryz.prog Tryz.f6 Rows.pathMadeRow.domain false Rows.pathMadeRow.laid) (((OpenSpec.ofChange Rows.pathMadeSpec).at F).post enc Tryz.prog Tryz.f6 false true false false):=by
 obtain⟨places,hx⟩:=reads os enc;refine returnsInHanded_of_row (C:=Tryz.checked) (s:=OpenSpec.ofChange Rows.pathMadeSpec) own started (by kernel_rfl) Tryz.func6
  (witness_row_at (enc:=enc) (C:=Tryz.checked) false (K8 os) #[(.string ⟨#[]⟩:Value),(.int .i64 0:Value),(.string ⟨#[]⟩:Value),(.int .i64 0:Value),(.int .i64 0:Value),(.int .i64 0:Value)] rfl (by kernel_rfl) (by kernel_rfl) (by kernel_rfl)
   (OpenSpec.preRow_of_cond 8 hx (by kernel_rfl) (fun k hk=>by cases hk) (by kernel_rfl) (laid_met os))) ?_
 intro W base args ds gs before hval hW _ _ _ hL _ _;exact contract H enc W base args ds gs before hval hW hL
theorem j0:laidOutB Tryz.prog=true:=by kernel_rfl
theorem j1:mapsRowed Tryz.prog=true:=by kernel_rfl
theorem j2:(Rows.pathMadeRow.inPlace==Tryz.prog.inPlace 6)=true:=by kernel_rfl
theorem j3:(Rows.pathMadeRow.unfollowed==Tryz.prog.unfollowed 6)=true:=by kernel_rfl
theorem j4:(Rows.pathMadeRow.recurses==Tryz.prog.recurses 6)=true:=by kernel_rfl
theorem j5:(Rows.pathMadeRow.named==Tryz.prog.varsNamed 6)=true:=by kernel_rfl
theorem joined:joinedFacts Tryz.prog 6 Tryz.f6 (OpenSpec.ofChange Rows.pathMadeSpec).bare Rows.pathMadeRow=true:=by
 unfold joinedFacts;rw[j0,j1,j2,j3,j4,j5];kernel_rfl
theorem s1:Tryz.pinned.checked.prog.funcNamed Rows.pathMadeRow.func=some 6:=by kernel_rfl
theorem s2:Tryz.f6.isInstance Tryz.pinned.checked.prog Rows.pathMadeRow.origin Rows.pathMadeRow.targs:=of_decide_eq_true (by kernel_rfl)
theorem s3:Tryz.f6.isWrapper Tryz.pinned.checked.prog Rows.pathMadeRow.wrapper Rows.pathMadeRow.mainSum:=by unfold Func.isWrapper; first|(rw[if_pos (by decide+kernel)]; kernel_rfl)|(rw[if_neg (by decide+kernel)]; exact⟨rfl,rfl⟩)
theorem s4:joinedFacts Tryz.pinned.checked.prog 6 Tryz.f6 (OpenSpec.ofChange Rows.pathMadeSpec).bare Rows.pathMadeRow=true:=joined
theorem s5 (os:Os)(started:os.Started)(H:Type)(enc:TypeId×Value→H)(F:Stop.Interp):ReturnsInHanded Rows.pathMadeRow.assume Tryz.pinned.checked os 6 .any (Rows.pathMadeRow.pre enc Tryz.pinned.checked.prog Tryz.f6 (OpenSpec.ofChange Rows.pathMadeSpec)) (((OpenSpec.ofChange Rows.pathMadeSpec).at F).post enc Tryz.pinned.checked.prog Tryz.f6 Rows.pathMadeRow.apart Rows.pathMadeRow.fresh Rows.pathMadeRow.handsOn Rows.pathMadeRow.again):=by rw[OpenClaim.pre_eq_preRow]; exact lifted os started H enc F
theorem said:Rows.PathMadeSaid:=
 OpenClaim.holds_of_cond 6 Tryz.f6 rfl rfl rfl rfl rfl rfl rfl ⟨rfl,rfl,rfl,rfl,rfl⟩ rfl rfl rfl rfl rfl s1 Tryz.func6 s4 s2 s3 (fun os started H enc _ F=>s5 os started H enc F)
theorem plain (f:FuncId)(fn:Func)(hf:Tryz.pinned.checked.prog.funcNamed "greatseal/greatseallaw19.PathMade" =some f)(hfn:Tryz.pinned.checked.prog.funcs[f]? =some fn):
  false=Tryz.pinned.checked.prog.looks []∧∀(j:Nat) t,fn.params[j]? =some t→Tryz.pinned.checked.prog.wantsStandIn t=false:=by
 obtain rfl:f=6:=Option.some.inj ((show Tryz.prog.funcNamed "greatseal/greatseallaw19.PathMade" =some 6 by kernel_rfl).symm.trans hf)|>.symm;obtain rfl:fn=Tryz.f6:=(Option.some.inj (Tryz.func6.symm.trans hfn)).symm;refine⟨by kernel_rfl,fun j t ht=> ?_⟩;rw[Tryz.params6]at ht;have hm:t∈[9,3,9,3,3,3]:=by simpa using Array.mem_of_getElem? ht
 have hall:([9,3,9,3,3,3].all fun u=> !Tryz.prog.wantsStandIn u)=true:=by kernel_rfl
 exact(show Tryz.prog.wantsStandIn t=false by simpa using List.all_eq_true.1 hall t hm)
theorem card:Rows.PathMadeCardSaid:=
 Claim7.holds_tied_plain_at .later [] _ _ _ _ said (fun _ h=>by cases h) (by kernel_rfl) (fun _ h=>by cases h) pathMade_row_tie rfl ⟨rfl,rfl⟩ (by kernel_rfl) rfl plain (by kernel_rfl)
end Go.Proofs.YtbajlmaijjcbmaaGreatDoor.lawPathMade
end
