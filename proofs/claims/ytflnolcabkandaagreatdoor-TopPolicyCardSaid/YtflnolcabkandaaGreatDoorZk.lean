/- The walks of some functions, by the executor, written by program. Conditions: none. -/
import Derived.Test.YtflnolcabkandaaGreatDoorZj
set_option linter.unusedSimpArgs false
set_option linter.unusedVariables false
set_option maxHeartbeats 20000000
set_option maxRecDepth 100000
namespace Go.Proofs.YtflnolcabkandaaGreatDoor
open Go Go.Gw Go.Ax Tryz Go.RowKit
attribute [local irreducible] Go.Ax.Go
def JK (a0:List UInt8):Option Bool:=Ab (gu ((a0.length:Int)==1) (idx a0 0)) fun x1=>Ab (gu (((a0.length:Int)==1)&&(!((x1.toNat:Int)==0))) (idx a0 0)) fun x2=>bnd ((((a0.length:Int)==1)&&(((x1.toNat:Int)==0)||((x2.toNat:Int)==255)))) fun x3=>some x3
theorem Om {a0 r}(hm:JK a0=some r):Sf prog 276 [sl eB a0] (.d (.t r)):=by
 refine sq ?_;intros;refine oB hm fun _ q1 hm=>gxG eB 1 q1<|oB hm fun _ q2 hm=>gxG eB 1 q2<|bE hm ?_;intro _ hm;exact AcO hm▸gE
def G5 (a0:List UInt8):Option Bool:=if((a0.length:Int)==0)=true then some false else if((a0.length:Int)==1)=true then some true else Ab (idx a0 1) fun x1=>Ab (gu (decide ((a0.length:Int)≤8)) (idx a0 0)) fun x2=>bnd (((decide ((a0.length:Int)≤8))&&((x2.toNat:Int) !=((toB (-((shrB x1 7).toNat:Int))).toNat:Int)))) fun x3=>some x3
theorem LN {a0 r}(hm:G5 a0=some r):Sf prog 61 [sl eB a0] (.d (.t r)):=by
 refine sq ?_;intros;refine gi hm ?_ ?_<;>intro _ hm
 ·exact AcO hm▸gE
 refine gi hm ?_ ?_<;>intro _ hm
 ·exact AcO hm▸gE
 refine oB hm fun _ q1 hm=>gx eB 1 q1<|oB hm fun _ q2 hm=>gxG eB 1 q2<|bE hm ?_;intro _ hm;exact AcO hm▸gE
theorem Ro {m:Mem}{As:List Ow}{w:World}{a0:List UInt8}{a0v0:Value}{r:Bool}(S:St m As w)(a0h0:SlR m a0v0 a0)(hm:G5 a0=some r):
  A6 prog 61 #[a0v0] w fun v w'=> ∃(M:Mem),m≤M∧St M (As) w'∧v=vb r:=by
 refine A6.mono ((LN hm).2 none0 m As w [a0v0] (.cons (.d (Br.toS Br.b a0h0)) .nil) (fun n h=>absurd rfl h) S) ?_;rintro v w' ⟨M,η',r',obs',n1,hle,_,⟨rfl,rfl,rfl⟩,hdom,hR,S'⟩;obtain rfl:=hR.t_inv;exact⟨M,hle,S',rfl⟩
def JJ (a0:List UInt8):Option Bool:=some true
theorem Ol {a0 r}(hm:JJ a0=some r):Sf prog 277 [sl eB a0] (.d (.t r)):=by
 refine sq ?_;intros;exact AcO hm▸gE
def H2 (a0:UInt8):Option Bool:=bnd (((decide ((a0.toNat:Int)<32))||(decide ((a0.toNat:Int)>126)))) fun x1=>some x1
theorem LO {a0 r}(hm:H2 a0=some r):Sf prog 280 [.d (.b a0)] (.d (.t r)):=by
 refine sq ?_;intros;refine bE hm ?_;intro _ hm;exact AcO hm▸gE
def DJ (a0:List UInt8)(i1:Int)(s1:Unit):Option ((Unit)⊕Int):=Ab (idx a0 (i1:Int)) fun x3=>Ab (H2 x3) fun x4=>if x4=true then some (.inr (i1:Int))else some (.inl ())
def Cv (a0:List UInt8):Option Int:=Ab (E6 (DJ a0) a0.length 0 ()) fun x1=>match x1 with| .inr r=>some r| .inl y1=>some (-1)
theorem D7 {a0 r}(hm:Cv a0=some r):Sf prog 282 [sl eB a0,.fn (.func 280) [] []] (.d (.i r)):=by
 refine sq ?_;intros;refine oB hm fun _ q1 hm=>JR 0 (E:=eB) (xs:=a0) 6 fun hle1=>gF (EN _ _ _) q1 (fun p0 _=>⟨[(0,sl eB a0),(1,.fn (.func 280) [] []),(7,.d (.i (a0.length:Int))),(8,.d (.i p0))],[],[],0⟩) fun i1 s1 Jl bl1=>cN bl1 (a0.length:Int) (fun _ q4 bl1=> ?_) fun e=> ?_
 ·refine oB q4 fun _ q6 q4=>gx eB 1 q6<|gA q4 LO fun _ q7 q4=>gi q4 ?_ ?_<;>intro _ q4
  ·obtain rfl:=nT bl1 q4;exact AcO hm▸gE
  exact gT bl1 hle1 q4
 subst e;exact AcO hm▸gE
def Cg (a0:List UInt8):Option Bool:=Ab (Cv a0) fun x1=>some (decide (x1≥0))
theorem DH {a0 r}(hm:Cg a0=some r):Sf prog 279 [sl eB a0,.fn (.func 280) [] []] (.d (.t r)):=by
 refine sq ?_;intros;refine gA hm D7 fun _ q1 hm=> ?_;exact AcO hm▸gE
def JI (a0:List UInt8):Option Bool:=Ab (Cg a0) fun x1=>some (!x1)
theorem Oj {a0 r}(hm:JI a0=some r):Sf prog 278 [sl eB a0] (.d (.t r)):=by
 refine sq ?_;intros;refine gA hm DH fun _ q1 hm=> ?_;exact AcO hm▸gE
def JH (a0:List UInt8):Option Bool:=some ((a0.length:Int)==0)
theorem Oi {a0 r}(hm:JH a0=some r):Sf prog 281 [sl eB a0] (.d (.t r)):=by
 refine sq ?_;intros;exact AcO hm▸gE
def DA (a0:List UInt8)(a1:UInt8):Option Int:=if a0.isEmpty=true then none else some (Go.Lib.indexByte a0 a1)
theorem J9 {a0 a1 r}(hm:DA a0 a1=some r):Sf prog 75 [sl eB a0,.d (.b a1)] (.d (.i r)):=by
 unfold DA at hm;split at hm
 ·cases hm
 rename_i hne;cases hm;refine OF call75 fun η m As w vs hv S=> ?_;obtain⟨v,us,rfl,r0,hv⟩:=hv.cons_inv;obtain⟨v',us',rfl,r1,hv⟩:=hv.cons_inv;obtain rfl:=hv.nil_inv;obtain rfl:=rel_b r1;have hid: ∀l:List UInt8,Go.Lib.bytesOf (l.map fun x=>(x.toNat:Int))=l:=fun l=>by
  simp[Go.Lib.bytesOf,Function.comp_def]
 have hc1:((a1.toNat:Int)).toNat.toUInt8=a1:=by simp
 rcases TQ r0 with ⟨rfl,a,c,rfl⟩|⟨b,off,cap,l,e,fr,rfl,hn,hc,hb,hx⟩
 ·exact absurd rfl hne
 ·obtain⟨x,s,d,g,g',n⟩:=S.own;have:=Go.Proofs.Any.bytes_IndexByte_at Go.Proofs.Tryz.lays187 ⟨b,off,none⟩ a0.length cap (a0.map fun x=>(x.toNat:Int)) (a1.toNat:Int) w (by simp) (fun i hi=>by
   rw[show(⟨b,off,none⟩:Addr).add i=⟨b,off+i,none⟩ by simp[CH],Kw (g _ _ hb) (hx i a0[i] (by simp[hi]))];simp[List.getD,hi])
  rw[hid,hc1]at this;exact Calls.mono this fun e w' ⟨e1,e2⟩=>⟨_,e1,.d (.i _),e2▸Below.refl _ _⟩
def C5 (a0:List UInt8)(a1:ByteArray):Option (List UInt8):=if Y8 a1=true then some (Go.Lib.trimLeftS a0 a1.data.toList)else none
theorem K4 {a0 a1 r}(hm:C5 a0 a1=some r):Sf prog 76 [sl eB a0,.d (.s a1)] (sl eB r):=by
 obtain⟨h1,e⟩:=AR hm;cases e;obtain⟨h3,h4⟩:=QX h1;have nilR: ∀{η:Env} {m:Mem} {a:Option Addr} {c:Nat},Rel η m (sl eB ([]:List UInt8)) (.slice a 0 c):=fun {_ m a c}=> .d (.sl (sz:=1) (cs:=[]) ⟨rfl,by decide,.inl ⟨rfl,_,_,rfl⟩⟩ (fun _ h=>by cases h) rfl fun k d u h=>by simp at h);refine OF call76 fun η m As w vs hv S=> ?_;obtain⟨v,us,rfl,r0,hv⟩:=hv.cons_inv;obtain⟨v',us',rfl,r1,hv⟩:=hv.cons_inv;obtain rfl:=hv.nil_inv;obtain rfl:=Qm r1;rcases TQ r0 with ⟨rfl,a,c,rfl⟩|⟨b,off,cap,l,e,fr,rfl,hn,hc,hb,hx⟩
 ·refine Calls.mono (Go.Proofs.Any.bytes_TrimLeft_none Go.Proofs.Tryz.laysV8 a c a1 w) fun e w' ⟨e1,e2⟩=>⟨_,e1,?_,e2▸Below.refl _ _⟩;exact nilR
 ·obtain⟨x,s,d,g,g',n⟩:=S.own;have hat:Go.Lib.BytesAt w (some ⟨b,off,none⟩) a0.length a0:=fun _=>⟨b,off,rfl,fun i hi=>by
   have:=Kw (g _ _ hb) (hx i a0[i] (by simp[hi]));rw[this]; simp[List.getD,hi]⟩
  have h27:(prog.info? (Go.Proofs.Tryz.laysV8_ren.t 27)).map (fun i=>(i.zero,i.size))=some (some (.agg (Array.replicate 256 (.bool false))),256):=by kernel_rfl
  refine Calls.mono (Go.Proofs.Any.bytes_TrimLeft_ascii Go.Proofs.Tryz.laysV8 (Go.zero_of_info h27).1 (Go.zero_of_info h27).2 _ _ cap a0 a1 w rfl hn hc hat h3 h4) fun e w' ⟨e1,e2⟩=>⟨_,e1,?_,e2⟩;have hd:Go.Lib.trimLeftS a0 a1.data.toList=a0.drop (a0.length-(Go.Lib.trimLeftS a0 a1.data.toList).length):=by
   have:Go.Lib.trimLeftS a0 a1.data.toList<:+a0:=List.dropWhile_suffix _;exact(List.suffix_iff_eq_drop.1 this)
  generalize Go.Lib.trimLeftS a0 a1.data.toList=q at hd⊢;have hq:q.length≤a0.length:=by rw[hd]; simp
  unfold Go.Lib.leftV;by_cases h0:a0.length-q.length=a0.length
  ·rw[AcZ h0];have:q=[]:=by rw[hd,h0]; simp
   subst this;exact nilR
  ·rw[Ac1 h0];unfold Go.Lib.fromV;rw[Ac1 (by omega)];have e0:a0.length-(a0.length-q.length)=q.length:=by omega
   rw[e0];rw[Ade,CH];refine Sx (by omega) (by omega) hb fun i x hi=> ?_;rw[hd,List.getElem?_drop]at hi;rw[Nat.add_assoc];exact hx _ x hi
def Be (a0:Ae)(s1:Int):Option ((Int)⊕(Int)):=if(decide (s1<(a0.b_.length:Int)))=true then Ab (idx a0.b_ s1) fun x4=>Ab (if((x4.toNat:Int)==32)=true then some ((x4.toNat:Int)==32)else some ((x4.toNat:Int)==10)) fun x5=>if x5=true then some (.inl (w64 (s1+1)))else if((x4.toNat:Int)==35)=true then Ab (cut a0.b_ s1 (a0.b_.length:Int)) fun x6=>Ab (DA x6 10) fun x7=>Ab (if(decide (x7<0))=true then bnd ((w64 ((a0.b_.length:Int)-s1))) fun x9=>some x9 else some x7) fun x8=>some (.inl (w64 (s1+x8)))else some (.inr s1)else some (.inr s1)
def Af (a0:Ae):Option Ae:=Ab (Ab (iter (Be a0) ET (w64 (a0.at_+(a0.token_.size:Int)))) fun x2=>some x2) fun x1=>Ab (cut a0.b_ x1 (a0.b_.length:Int)) fun x10=>Ab (C5 x10 (⟨#[97,98,99,100,101,102,103,104,105,106,107,108,109,110,111,112,113,114,115,116,117,118,119,120,121,122,48,49,50,51,52,53,54,55,56,57,45,42,46,95]⟩:ByteArray)) fun x11=>bnd ((w64 ((x10.length:Int)-(x11.length:Int)))) fun x12=>Ab (if(x12==0)=true then some (Tc 1 (x10.length:Int))else some x12) fun x13=>Ab (cut x10 0 x13) fun x14=>some (⟨a0.b_,x1,(bs x14)⟩:Ae)
theorem A3 {a0 r}(hm:Af a0=some r):Sp prog 24 [.pb 0 0] [.box 0 [sl eB a0.b_,.d (.i a0.at_),.d (.s a0.token_)] 76] 1 (is (.tup []) [.box 0 [.d (.sl _ eB r.b_),.d (.i r.at_),.d (.s r.token_)] 76] 1):=by
 refine sq fun D0 As η0 m0 hd=> ?_;unfold Af at hm;obtain⟨x1,q1,hm⟩:=Ad hm;refine oB q1 fun x2 q2 q1=>gjU 0 (fun(_:Unit)=>⟨[(0,.pb 0 0)],[(0,.box 0 [sl eB a0.b_,.d (.i x2),.d (.s a0.token_)] 76)],[],1⟩) (fun _=>True) (fun Jp bk2=> ?_) fun _ _=> ?_
 ·refine gI q2 (fun p=>⟨[(0,.pb 0 0)],[(0,.box 0 [sl eB a0.b_,.d (.i p),.d (.s a0.token_)] 76)],[],1⟩) fun s1 _ Jl q5 bl1=>gi q5 ?_ ?_<;>intro _ q5
  ·refine oB q5 fun x4 q7 q5=>gx eB 1 q7<|oB q5 fun x5 q8 q5=>gj (fun(_:Unit)=>⟨[(0,.pb 0 0),(36,.d (.b x4)),(37,.d (.t x5))],[(0,.box 0 [sl eB a0.b_,.d (.i s1),.d (.s a0.token_)] 76)],[],1⟩) (fun _=>True) (fun Jp bk3=> ?_) fun _ _=> ?_
   ·refine gi q8 ?_ ?_<;>intro _ q8
    ·obtain rfl:=AcO q8;exact gb bk3 hd () trivial
    obtain rfl:=AcO q8;exact gb bk3 hd () trivial
   refine gi q5 ?_ ?_<;>intro _ q5
   ·exact gN bl1 q5
   refine gi q5 ?_ ?_<;>intro _ q5
   ·refine oB q5 fun _ q9 q5=>gk eB 1 q9<|gA q5 J9 fun _ q10 q5=>oB q5 fun x8 q11 q5=>gj (fun(_:Unit)=>⟨[(0,.pb 0 0),(2,.d (.i x8))],[(0,.box 0 [sl eB a0.b_,.d (.i s1),.d (.s a0.token_)] 76)],[],1⟩) (fun _=>True) (fun Jp bk4=> ?_) fun _ _=> ?_
    ·refine gi q11 ?_ ?_<;>intro _ q11
     ·refine bE q11 ?_;intro _ q11;obtain rfl:=AcO q11;exact gb bk4 hd () trivial
     obtain rfl:=AcO q11;exact gb bk4 hd () trivial
    exact gN bl1 q5
   obtain rfl:=nR bl1 q5;exact gb bk2 hd () trivial
  obtain rfl:=nR bl1 q5;exact gb bk2 hd () trivial
 obtain rfl:=AcO q1;let x1:=x2;refine oB hm fun x10 q13 hm=>gk eB 1 q13<|gA hm K4 fun _ q14 hm=>bE hm ?_;intro _ hm;refine oB hm fun x13 q16 hm=>gj (fun(_:Unit)=>⟨[(0,.pb 0 0),(3,sl eB x10),(4,.d (.i x13))],[(0,.box 0 [sl eB a0.b_,.d (.i x1),.d (.s a0.token_)] 76)],[],1⟩) (fun _=>True) (fun Jp bk5=> ?_) fun _ _=> ?_
 ·refine gi q16 ?_ ?_<;>intro _ q16
  ·obtain rfl:=AcO q16;exact gb bk5 hd () trivial
  obtain rfl:=AcO q16;exact gb bk5 hd () trivial
 refine oB hm fun x14 q17 hm=>gk eB 1 q17<|gbs (xs:=x14) ?_;exact AcO hm▸gE
def Bd (a0:Ae):Option (Except (Int×Int) Ae):=some (.error (a0.at_,71))
theorem AT {a0 r}(hm:Bd a0=some r):Sb prog 77 [.pb 0 0] [.box 0 [sl eB a0.b_,.d (.i a0.at_),.d (.s a0.token_)] 76] 1 (thV 73 r) (Pos (exo r) (fun r=> .tup []) (fun r=> [.box 0 [.d (.sl _ eB r.b_),.d (.i r.at_),.d (.s r.token_)] 76]) 1) (exo r=none):=
 sb call77 func77 rfl ntmps77 rfl fun D0 As η0 m0 hd=>by
  unfold Bd at hm;obtain rfl:=AcO hm;exact WQ (by kernel_rfl)
def A9 (a0:ByteArray)(a1:UInt8):Option Int:=some (UL a0 a1)
theorem Ep {a0 a1 r}(hm:A9 a0 a1=some r):Sf prog 247 [.d (.s a0),.d (.b a1)] (.d (.i r)):=by
 refine sq ?_;intros;refine gext (F:=UL) (p:=a0) (q:=a1) func253 (extIxb (by kernel_rfl) (by kernel_rfl) (by kernel_rfl) (by kernel_rfl)) ?_;exact AcO hm▸gE
def DI (a0:ByteArray)(a1:ByteArray):Option ByteArray:=if Y8 a1=true∧a0.size≤9223372036854775807 then some ⟨(Go.Lib.trimS a0.data.toList a1.data.toList).toArray⟩else none
theorem MX {a0 a1 r}(hm:DI a0 a1=some r):Sf prog 135 [.d (.s a0),.d (.s a1)] (.d (.s r)):=by
 obtain⟨⟨h1,h2⟩,e⟩:=AR hm;cases e;obtain⟨h3,h4⟩:=QX h1;refine OF call135 fun η m As w vs hv S=> ?_;obtain⟨v,us,rfl,r0,hv⟩:=hv.cons_inv;obtain⟨v',us',rfl,r1,hv⟩:=hv.cons_inv;obtain rfl:=hv.nil_inv;obtain rfl:=Qm r0;obtain rfl:=Qm r1;exact Calls.mono (Go.Proofs.Any.strings_Trim_laid Go.Proofs.Tryz.lays160 (by kernel_rfl) a0 a1 w h2 h3 h4) fun e w' ⟨e1,e2⟩=>⟨_,e1,.d (.s _),e2⟩
def Dp (a0:ByteArray):Option Bool:=Ab (gu ((!eqS a0 (⟨#[]⟩:ByteArray))&&(decide ((a0.size:Int)≤16))) (DI a0 (⟨#[97,98,99,100,101,102,103,104,105,106,107,108,109,110,111,112,113,114,115,116,117,118,119,120,121,122,48,49,50,51,52,53,54,55,56,57,45]⟩:ByteArray))) fun x1=>bnd ((((!eqS a0 (⟨#[]⟩:ByteArray))&&(decide ((a0.size:Int)≤16)))&&(eqS x1 (⟨#[]⟩:ByteArray)))) fun x2=>some x2
theorem KC {a0 r}(hm:Dp a0=some r):Sf prog 80 [.d (.s a0)] (.d (.t r)):=by
 refine sq ?_;intros;refine oB hm fun _ q1 hm=>gcH q1 MX<|bE hm ?_;intro _ hm;exact AcO hm▸gE
def Df (a0:g_api_Rule)(k0:ByteArray):Option (Bool×ByteArray):=some ((eqS a0.Name k0),k0)
theorem Hl {a0 k0 r}(hm:Df a0 k0=some r):Sp prog 82 [ag (Ac a0),.pb 0 0] [.box 0 [.d (.s k0)] 9] 1 (is (.d (.t r.1)) [.box 0 [.d (.s r.2)] 9] 1):=by
 refine sq ?_;intros;exact AcO hm▸gE
def BK (a0:List g_api_Rule)(i1:Int)(s1:ByteArray):Option ((ByteArray)⊕(Int×ByteArray)):=Ab (idx a0 (i1:Int)) fun x3=>Ab (Df x3 s1) fun x4=>if x4.1=true then some (.inr ((i1:Int),x4.2))else some (.inl x4.2)
def A7 (a0:List g_api_Rule)(k0:ByteArray):Option (Int×ByteArray):=Ab (E6 (BK a0) a0.length 0 k0) fun x1=>match x1 with| .inr r=>some r| .inl y1=>some ((-1),y1)
theorem Dk {a0 k0 r}(hm:A7 a0 k0=some r):Sp prog 136 [sl Ac a0,.fn (.func 82) [] [.pb 0 0]] [.box 0 [.d (.s k0)] 9] 1 (is (.d (.i r.1)) [.box 0 [.d (.s r.2)] 9] 1):=by
 refine sq ?_;intros;refine oB hm fun _ q1 hm=>JR 0 (E:=Ac) (xs:=a0) 6 fun hle1=>gF (EN _ _ _) q1 (fun p0 p=>⟨[(0,sl Ac a0),(1,.fn (.func 82) [] [.pb 0 0]),(7,.d (.i (a0.length:Int))),(8,.d (.i p0))],[(0,.box 0 [.d (.s p)] 9)],[],1⟩) fun i1 s1 Jl bl1=>cN bl1 (a0.length:Int) (fun _ q4 bl1=> ?_) fun e=> ?_
 ·refine oB q4 fun _ q6 q4=>gx Ac 7 q6<|gD q4 Hl fun _ q7 q4=>gi q4 ?_ ?_<;>intro _ q4
  ·obtain rfl:=nT bl1 q4;exact AcO hm▸gE
  exact gT bl1 hle1 q4
 subst e;let y1:=s1;exact AcO hm▸gE
def AH (a0:List g_api_Rule)(k0:ByteArray):Option (Bool×ByteArray):=Ab (A7 a0 k0) fun x1=>some ((decide (x1.1≥0)),x1.2)
theorem C2 {a0 k0 r}(hm:AH a0 k0=some r):Sp prog 81 [sl Ac a0,.fn (.func 82) [] [.pb 0 0]] [.box 0 [.d (.s k0)] 9] 1 (is (.d (.t r.1)) [.box 0 [.d (.s r.2)] 9] 1):=by
 refine sq ?_;intros;refine gD hm Dk fun _ q1 hm=> ?_;exact AcO hm▸gE
def Ai (a0:Ae)(a1:ByteArray):Option (Except (Int×Int) Ae):=
 Ab ((
   if(!eqS a0.token_ a1)=true then
    Ab (Bd a0) fun y2=>match y2 with
    | .error z1=>some (.inr (.error z1))
    | .ok x2=>
    some (.inl (x2.b_,x2.at_,x2.token_))
   else
   some (.inl (a0.b_,a0.at_,a0.token_))
  :Option (((List UInt8)×Int×ByteArray)⊕(Except (Int×Int) Ae)))) fun x1=>match x1 with
 | .inr r=>some r
 | .inl y1=>
 Ab (Af (⟨y1.1,y1.2.1,y1.2.2⟩:Ae)) fun x3=>
 some (.ok x3)
theorem Au {a0 a1 r}(hm:Ai a0 a1=some r):Sb prog 83 [.pb 0 0,.d (.s a1)] [.box 0 [sl eB a0.b_,.d (.i a0.at_),.d (.s a0.token_)] 76] 1 (thV 73 r) (Pos (exo r) (fun r=> .tup []) (fun r=> [.box 0 [.d (.sl _ eB r.b_),.d (.i r.at_),.d (.s r.token_)] 76]) 1) (exo r=none):=
 sb call83 func83 rfl ntmps83 rfl fun D0 As η0 m0 hd=>by
  unfold Ai at hm;refine oB hm fun x1 q1 hm=>gj (fun(y1:(List UInt8)×Int×ByteArray)=>let (y_0,y_1,y_2):=y1; ⟨[(0,.pb 0 0)],[(0,.box 0 [sl eB y_0,.d (.i y_1),.d (.s y_2)] 76)],[],1⟩) (fun y1=>x1= .inl y1) (fun Jp bk1=> ?_) fun y1 hy=> ?_
  ·refine gi q1 ?_ ?_<;>intro hc1 q1
   ·obtain⟨y2,q2,q1⟩:=Ad q1;rcases y2 with z1|x2
    ·dsimp only at q1;obtain rfl:=AcO q1;dsimp only at hm;obtain rfl:=AcO hm;exact G7 (AT q2)
    dsimp only at q1;refine gco (AT q2).spE ?_;obtain rfl:=AcO q1;exact gb bk1 hd _ rfl
   obtain rfl:=AcO q1;exact gb bk1 hd _ rfl
  subst hy;dsimp only at hm;refine gD hm A3 fun x3 q3 hm=> ?_;obtain rfl:=AcO hm;exact Uq hd
def Ba (a0:ByteArray)(a1:ByteArray):Option Bool:=Ab (gu (decide ((a0.size:Int)≥(a1.size:Int))) (ML a0 0 (a1.size:Int))) fun x1=>bnd (((decide ((a0.size:Int)≥(a1.size:Int)))&&(eqS x1 a1))) fun x2=>some x2
theorem Er {a0 a1 r}(hm:Ba a0 a1=some r):Sf prog 140 [.d (.s a0),.d (.s a1)] (.d (.t r)):=by
 refine sq ?_;intros;refine oB hm fun _ q1 hm=>gcutSG (fun h=>YM h q1)<|bE hm ?_;intro _ hm;exact AcO hm▸gE
def Bb (a0:ByteArray)(a1:ByteArray):Option (ByteArray×Bool):=Ab (Ba a0 a1) fun x1=>if(!x1)=true then some (a0,false)else Ab (ML a0 (a1.size:Int) (a0.size:Int)) fun x2=>some (x2,true)
theorem Es {a0 a1 r}(hm:Bb a0 a1=some r):Sf prog 88 [.d (.s a0),.d (.s a1)] (.tup [.d (.s r.1),.d (.t r.2)]):=by
 refine sq ?_;intros;refine gA hm Er fun _ q1 hm=>gi hm ?_ ?_<;>intro _ hm
 ·exact AcO hm▸gE
 refine oB hm fun _ q2 hm=>QP (fun _=>q2) ?_;exact AcO hm▸gE
def BU (a0:ByteArray)(a1:ByteArray):Option (ByteArray×Bool):=Ab (Bb a0 a1) fun x1=>some (x1.1,x1.2)
theorem FK {a0 a1 r}(hm:BU a0 a1=some r):Sf prog 27 [.d (.s a0),.d (.s a1)] (.tup [.d (.s r.1),.d (.t r.2)]):=by
 refine sq ?_;intros;refine gA hm Es fun _ q1 hm=> ?_;exact AcO hm▸gE
def AI (a0:ByteArray)(a1:ByteArray):Option Int:=bnd ((((a1.size:Int)==0)||(eqS a1 a0))) fun x1=>if x1=true then some 0 else if((a1.size:Int)==1)=true then Ab (idx a1.data.toList 0) fun x2=>Ab (A9 a0 x2) fun x3=>some x3 else bnd ((decide ((a1.size:Int)≥(a0.size:Int)))) fun x4=>if x4=true then some (-1)else none
theorem Dh {a0 a1 r}(hm:AI a0 a1=some r):Sf prog 237 [.d (.s a0),.d (.s a1)] (.d (.i r)):=by
 refine sq ?_;intros;refine bE hm ?_;intro _ hm;refine gi hm ?_ ?_<;>intro _ hm
 ·exact AcO hm▸gE
 refine gi hm ?_ ?_<;>intro _ hm
 ·refine oB hm fun _ q2 hm=>Aca (fun _=>q2)<|gA hm Ep fun _ q3 hm=> ?_;exact AcO hm▸gE
 refine bE hm ?_;intro _ hm;refine gi hm ?_ ?_<;>intro _ hm
 ·exact AcO hm▸gE
 cases hm
def Bc (a0:ByteArray)(a1:ByteArray):Option Int:=Ab (AI a0 a1) fun x1=>some x1
theorem Hu {a0 a1 r}(hm:Bc a0 a1=some r):Sf prog 218 [.d (.s a0),.d (.s a1)] (.d (.i r)):=by
 refine sq ?_;intros;refine gA hm Dh fun _ q1 hm=> ?_;exact AcO hm▸gE
def Cl (a0:ByteArray)(a1:ByteArray):Option Int:=if((a1.size:Int)==0)=true then none else if((a1.size:Int)==1)=true then Ab (idx a1.data.toList 0) fun x1=>some (cntS a0 x1)else none
theorem Hv {a0 a1 r}(hm:Cl a0 a1=some r):Sf prog 178 [.d (.s a0),.d (.s a1)] (.d (.i r)):=by
 refine sq ?_;intros;refine gi hm ?_ ?_<;>intro _ hm
 ·cases hm
 refine gi hm ?_ ?_<;>intro _ hm
 ·refine oB hm fun x1 q1 hm=>Aca (fun _=>q1)<|gext (F:=cntS) (p:=a0) (q:=x1) func217 (extCnt (by kernel_rfl) (by kernel_rfl) (by kernel_rfl) (by kernel_rfl)) ?_;exact AcO hm▸gE
 cases hm
def GZ {σ:Type}(k1:ByteArray)(s1:Unit):Option ((Unit)⊕((Unit)⊕(ByteArray×ByteArray×Int×σ))):=if(decide ((k1.size:Int)>0))=true then none else some (.inr (.inl ()))
def AE {σ:Type}(p0:σ→ByteArray→Option (Bool×σ))(k0:ByteArray)(k2:Int)(s2:ByteArray×σ):Option ((ByteArray×σ)⊕((ByteArray×σ)⊕(ByteArray×ByteArray×Int×σ))):=Ab (Bc s2.1 k0) fun x5=>if(decide (x5<0))=true then some (.inr (.inl (s2.1,s2.2)))else Ab (ML s2.1 0 (w64 (x5+k2))) fun x6=>Ab (p0 s2.2 x6) fun x7=>if(!x7.1)=true then some (.inr (.inr (k0,s2.1,k2,x7.2)))else Ab (ML s2.1 (w64 (x5+(k0.size:Int))) (s2.1.size:Int)) fun x8=>some (.inl (x8,x7.2))
def AX {σ:Type}(p0:σ→ByteArray→Option (Bool×σ))(k0:ByteArray)(k1:ByteArray)(k2:Int)(s0:σ):Option (ByteArray×ByteArray×Int×σ):=
 if((k0.size:Int)==0)=true then
  Ab (iter (GZ k1) ET ()) fun x1=>match x1 with
  | .inr r=>some r
  | .inl y1=>
  some (k0,k1,k2,s0)
 else
 Ab (iter (AE p0 k0 k2) ET (k1,s0)) fun x3=>match x3 with
 | .inr r=>some r
 | .inl y3=>
 Ab (p0 y3.2 y3.1) fun x9=>
 some (k0,y3.1,k2,x9.2)
theorem Iu {σ:Type}{p0:σ→ByteArray→Option (Bool×σ)}{k0 k1 k2 s0 r}(hm:AX p0 k0 k1 k2 s0=some r)(g:Value)(R:σ→Mem→Ow)(hcb:UH prog g (fun x=> [.d (.s x)]) R p0):Sp prog 241 [.ow 0,.pb 1 0,.pb 2 0,.pb 3 0] [.hp 0 (.cb g σ R s0),.box 1 [.d (.s k0)] 9,.box 2 [.d (.s k1)] 9,.box 3 [.d (.i k2)] 3] 4 (is (.tup []) [.hp 0 (.cb g σ R r.2.2.2),.box 1 [.d (.s r.1)] 9,.box 2 [.d (.s r.2.1)] 9,.box 3 [.d (.i r.2.2.1)] 3] 4):=by
 refine sq ?_;intros;refine gi hm ?_ ?_<;>intro _ hm
 ·refine oB hm fun _ q1 hm=>gI q1 (fun _=>⟨[(0,.ow 0),(2,.pb 2 0)],[(0,.box 1 [.d (.s k0)] 9),(1,.box 2 [.d (.s k1)] 9),(2,.box 3 [.d (.i k2)] 3),(3,.hp 0 (.cb g σ R s0))],[],4⟩) fun s1 _ Jl q4 bl1=>gi q4 ?_ ?_<;>intro _ q4
  ·cases q4
  obtain rfl:=nR bl1 q4;exact AcO hm▸gE
 refine oB hm fun _ q6 hm=>gI q6 (fun(p_0,p_1)=>⟨[(0,.ow 0),(1,.pb 1 0),(2,.pb 2 0),(3,.pb 3 0)],[(0,.box 1 [.d (.s k0)] 9),(1,.box 2 [.d (.s p_0)] 9),(2,.box 3 [.d (.i k2)] 3),(3,.hp 0 (.cb g σ R p_1))],[],4⟩) fun s2 _ Jl q9 bl2=>gA q9 Hu fun _ q11 q9=>gi q9 ?_ ?_<;>intro _ q9
 ·obtain rfl:=nR bl2 q9;let y3:=(s2.1,s2.2);refine oB hm fun _ q15 hm=>gcb y3.1 hcb q15 ?_;exact AcO hm▸gE
 refine oB q9 fun x6 q12 q9=>QP (fun _=>q12)<|oB q9 fun _ q13 q9=>gcb x6 hcb q13<|gi q9 ?_ ?_<;>intro _ q9
 ·obtain rfl:=nR bl2 q9;exact AcO hm▸gE
 exact oB q9 fun _ q14 q9=>QP (fun _=>q14)<|gN bl2 q9
def Gg (a0:ByteArray)(a1:ByteArray)(a2:Int):Option (ByteArray×ByteArray×Int):=some (a1,a0,a2)
theorem Jf {a0 a1 a2 r}(hm:Gg a0 a1 a2=some r):Sp prog 219 [.d (.s a0),.d (.s a1),.d (.i a2)] [] 0 (is (.fn (.func 241) [] [.pb 0 0,.pb 1 0,.pb 2 0]) [.box 0 [.d (.s r.1)] 9,.box 1 [.d (.s r.2.1)] 9,.box 2 [.d (.i r.2.2)] 3] 3):=by
 refine sq ?_;intros;exact AcO hm▸gE
def Eg (a0:ByteArray)(a1:ByteArray):Option (ByteArray×ByteArray×Int):=Ab (Gg a0 a1 0) fun x1=>some (x1.1,x1.2.1,x1.2.2)
theorem Jh {a0 a1 r}(hm:Eg a0 a1=some r):Sp prog 179 [.d (.s a0),.d (.s a1)] [] 0 (is (.fn (.func 241) [] [.pb 0 0,.pb 1 0,.pb 2 0]) [.box 0 [.d (.s r.1)] 9,.box 1 [.d (.s r.2.1)] 9,.box 2 [.d (.i r.2.2)] 3] 3):=by
 refine sq ?_;intros;refine gD hm Jf fun _ q1 hm=> ?_;exact AcO hm▸gE
def Ch (a0:Int):Option Bool:=bnd ((((decide ((97:Int)≤a0))&&(decide (a0≤122)))||((decide ((48:Int)≤a0))&&(decide (a0≤57))))) fun x1=>some x1
theorem HD {a0 r}(hm:Ch a0=some r):Sf prog 220 [.d (.r a0)] (.d (.t r)):=by
 refine sq ?_;intros;refine bE hm ?_;intro _ hm;exact AcO hm▸gE
def Ce (a0:Int):Option Bool:=Ab (gu (!(a0==45)) (Ch a0)) fun x1=>some ((a0==45)||x1)
theorem Ob {a0 r}(hm:Ce a0=some r):Sf prog 221 [.d (.r a0)] (.d (.t r)):=by
 refine sq ?_;intros;refine oB hm fun _ q1 hm=>gcH q1 HD ?_;exact AcO hm▸gE
def AP (a0:ByteArray)(s1:Nat):Option ((Nat)⊕((Nat)⊕Bool)):=if s1<a0.size then bnd (((Utf8.decode a0 s1).1:Int)) fun x3=>Ab (gu ((s1:Int)==(w64 ((a0.size:Int)-1))) (Ch x3)) fun x4=>bnd ((((s1:Int)==(w64 ((a0.size:Int)-1)))&&x4)) fun x5=>if x5=true then some (.inl (s1+(Utf8.decode a0 s1).2))else bnd (((s1:Int)==(w64 ((a0.size:Int)-1)))) fun x6=>if x6=true then some (.inr (.inr false))else Ab (gu ((s1:Int)==0) (Ch x3)) fun x7=>bnd ((((s1:Int)==0)&&(x7||(x3==95)))) fun x8=>if x8=true then some (.inl (s1+(Utf8.decode a0 s1).2))else Ab (gu (!((s1:Int)==0)) (Ce x3)) fun x9=>if(((s1:Int)==0)||(!x9))=true then some (.inr (.inr false))else some (.inl (s1+(Utf8.decode a0 s1).2))else some (.inr (.inl s1))
def Dy (a0:ByteArray):Option Bool:=if((eqS a0 (⟨#[]⟩:ByteArray))||(decide ((a0.size:Int)>16)))=true then some false else Ab (iter (AP a0) ET 0) fun x1=>match x1 with| .inr r=>some r| .inl y1=>some true
theorem Oa {a0 r}(hm:Dy a0=some r):Sf prog 180 [.d (.s a0)] (.d (.t r)):=by
 refine sq ?_;intros;refine gi hm ?_ ?_<;>intro _ hm
 ·exact AcO hm▸gE
 refine grng a0<|oB hm fun _ q1 hm=>gI q1 (fun p=>⟨[(0,.d (.s a0)),(13,.ow 0)],[(0,.hp 0 (.it a0 p))],[],1⟩) fun s1 _ Jl q4 bl1=>gnx q4 (fun hc2 q4=> ?_) fun hc2 q4=> ?_
 ·refine gi' (b:=true) (fun _=> ?_) (fun h=>by cases h);refine bE q4 ?_;intro _ q4;refine oB q4 fun _ q7 q4=>gcH q7 HD<|bE q4 ?_;intro _ q4;refine gi q4 ?_ ?_<;>intro _ q4
  ·exact gN bl1 q4
  refine bE q4 ?_;intro _ q4;refine gi q4 ?_ ?_<;>intro _ q4
  ·obtain rfl:=nR bl1 q4;exact AcO hm▸gE
  refine oB q4 fun _ q10 q4=>gcH q10 HD<|bE q4 ?_;intro _ q4;refine gi q4 ?_ ?_<;>intro _ q4
  ·exact gN bl1 q4
  refine oB q4 fun _ q12 q4=>gcH q12 Ob<|gi q4 ?_ ?_<;>intro _ q4
  ·obtain rfl:=nR bl1 q4;exact AcO hm▸gE
  exact gN bl1 q4
 refine gi' (b:=false) (fun h=>by cases h) (fun _=> ?_);obtain rfl:=nR bl1 q4;let y1:=s1;exact AcO hm▸gE
def A0 (b6:ByteArray)(s1:(Unit)×Nat):Option ((Unit)×Nat):=Ab (Dy b6) fun x4=>if(!x4)=true then some ((),1)else some ((),0)
def BD (a0:ByteArray)(a1:Int)(a2:Int):Option Bool:=Ab (gu (!(decide ((a0.size:Int)>a2))) (Cl a0 (⟨#[46]⟩:ByteArray))) fun x1=>if((decide ((a0.size:Int)>a2))||(decide (x1≥a1)))=true then some false else Ab (Eg a0 (⟨#[46]⟩:ByteArray)) fun x2=>Ab (AX (fun(s:(Unit)×Nat) (b0:ByteArray)=>if s.2=0 then Ab (A0 b0 s) fun y=>some (y.2==0,y)else none) x2.1 x2.2.1 x2.2.2 ((),0)) fun x3=>if(x3.2.2.2).2=0 then some true else some false
theorem KH {a0 a1 a2 r}(hm:BD a0 a1 a2=some r):Sf prog 128 [.d (.s a0),.d (.i a1),.d (.i a2)] (.d (.t r)):=
 spR call128 func128 rfl ntmps128 rfl fun D0 As η0 m0 hD hd=>by
  unfold BD at hm;refine oB hm fun _ q1 hm=>gcH q1 Hv<|gi hm ?_ ?_<;>intro _ hm
  ·exact AcO hm▸gE
  refine gD hm Jh fun x2 q2 hm=>oB hm fun x3 q3 hm=>H8 hD (n0:=0) 4 4 [⟨1,1,9,[.d (.s x2.1)],[.d (.s x3.1)]⟩,⟨2,2,9,[.d (.s x2.2.1)],[.d (.s x3.2.1)]⟩,⟨3,3,3,[.d (.i x2.2.2)],[.d (.i x3.2.2.1)]⟩] (gt:=19) (ps:=[20]) [(6,.pb 0 0),(19,.fn (.func 241) [] [.pb 1 0,.pb 2 0,.pb 3 0])] (fun(y1:Unit)=> [(0,.box 0 [.d (.t false)] 4)]) (fun(y1:(Unit)×Nat)=> [(0,.box 0 [.d (.t false)] 4)]) (fun x=> [.d (.s x)]) (fun(s1:Unit) (b6:ByteArray)=>⟨[(6,.pb 0 0),(7,.d (.s b6)),(19,.fn (.func 241) [] [.pb 1 0,.pb 2 0,.pb 3 0])],[(0,.box 0 [.d (.t false)] 4)],[],4⟩) (pJ fun x s=>A0 x s) () hd (via fJ hyJ rfl fun g R h=>Iu q3 g R h) rfl (fun _=>rfl) (fun _=>rfl) (fun _=>rfl) (fun _=>rfl) ?_ ?_ ?_ ?_
  ·intro s1 b6 s' hp l D0 As η0 m0 hd Ja ba;exact gb ba hd () trivial
  ·intro s1 b6 s' hp l D0 As η0 m0 hd Jb bb Jr br;obtain⟨z1,q4,hp⟩:=AcU.1 hp;subst hp;unfold A0 at q4;dsimp only at q4;refine gA q4 Oa fun _ q5 q4=>gi q4 ?_ ?_<;>intro _ q4
   ·obtain rfl:=AcO q4;exact YP br hd ((),1) rfl
   obtain rfl:=AcO q4;exact gb bb hd () rfl
  ·intro x hx;obtain⟨hj1,rfl⟩:=Ty hx;rw[AcZ hj1]at hm;exact AcO hm▸gE
  intro y hy;obtain⟨hj1,rfl⟩:=Tx hy;rw[Ac1 hj1]at hm;exact AcO hm▸gE
def Ck (a0:ByteArray):Option Bool:=Ab (BD a0 8 64) fun x1=>some x1
theorem GC {a0 r}(hm:Ck a0=some r):Sf prog 73 [.d (.s a0)] (.d (.t r)):=by
 refine sq ?_;intros;refine gA hm KH fun _ q1 hm=> ?_;exact AcO hm▸gE
def Ej (a0:ByteArray):Option (ByteArray×Bool×Bool):=Ab (Ck a0) fun x1=>if x1=true then some (a0,false,true)else Ab (BU a0 (⟨#[42,46]⟩:ByteArray)) fun x2=>Ab (gu x2.2 (BD x2.1 7 62)) fun x3=>some (x2.1,x2.2,(x2.2&&x3))
theorem HC {a0 r}(hm:Ej a0=some r):Sf prog 72 [.d (.s a0)] (.tup [.d (.s r.1),.d (.t r.2.1),.d (.t r.2.2)]):=by
 refine sq ?_;intros;refine gA hm GC fun _ q1 hm=>gi hm ?_ ?_<;>intro _ hm
 ·exact AcO hm▸gE
 refine gA hm FK fun _ q2 hm=>oB hm fun _ q3 hm=>gcH q3 KH ?_;exact AcO hm▸gE
def E3 (a0:Bool):Option Int:=if a0=true then some 0 else some 110
theorem KG {a0 r}(hm:E3 a0=some r):Sf prog 112 [.d (.t a0)] (.d (.i r)):=by
 refine sq ?_;intros;refine gi hm ?_ ?_<;>intro _ hm
 ·exact AcO hm▸gE
 exact AcO hm▸gE
def B7 (a0:ByteArray):Option Int:=Ab (Ej a0) fun x1=>Ab (E3 x1.2.2) fun x2=>some x2
theorem FM {a0 r}(hm:B7 a0=some r):Sf prog 85 [.d (.s a0)] (.d (.i r)):=by
 refine sq ?_;intros;refine gA hm HC fun _ q1 hm=>gA hm KG fun _ q2 hm=> ?_;exact AcO hm▸gE
def CM (a0:List ByteArray)(a1:ByteArray)(i1:Int)(s1:Unit):Option ((Unit)⊕Int):=Ab (idx a0 (i1:Int)) fun x3=>if(eqS a1 x3)=true then some (.inr (i1:Int))else some (.inl ())
def Cc (a0:List ByteArray)(a1:ByteArray):Option Int:=Ab (E6 (CM a0 a1) a0.length 0 ()) fun x1=>match x1 with| .inr r=>some r| .inl y1=>some (-1)
theorem Fm {a0 a1 r}(hm:Cc a0 a1=some r):Sf prog 137 [sl eS a0,.d (.s a1)] (.d (.i r)):=by
 refine sq ?_;intros;refine oB hm fun _ q1 hm=>JR 0 (E:=eS) (xs:=a0) 6 fun hle1=>gF (EN _ _ _) q1 (fun p0 _=>⟨[(0,sl eS a0),(1,.d (.s a1)),(7,.d (.i (a0.length:Int))),(8,.d (.i p0))],[],[],0⟩) fun i1 s1 Jl bl1=>cN bl1 (a0.length:Int) (fun _ q4 bl1=> ?_) fun e=> ?_
 ·refine oB q4 fun _ q6 q4=>gx eS 1 q6<|gi q4 ?_ ?_<;>intro _ q4
  ·obtain rfl:=nT bl1 q4;exact AcO hm▸gE
  exact gT bl1 hle1 q4
 subst e;exact AcO hm▸gE
def AB (a0:List ByteArray)(a1:ByteArray):Option Bool:=Ab (Cc a0 a1) fun x1=>some (decide (x1≥0))
theorem CJ {a0 a1 r}(hm:AB a0 a1=some r):Sf prog 86 [sl eS a0,.d (.s a1)] (.d (.t r)):=by
 refine sq ?_;intros;refine gA hm Fm fun _ q1 hm=> ?_;exact AcO hm▸gE
def Gl (a0:UInt64):Option Int:=Ab (if(decide ((a0.toNat:Int)≥4294967296))=true then some ((ID a0 32),32)else some (a0,0)) fun x1=>Ab (if(decide ((x1.1.toNat:Int)≥65536))=true then some ((ID x1.1 16),(w64 (x1.2+16)))else some (x1.1,x1.2)) fun x2=>Ab (if(decide ((x2.1.toNat:Int)≥256))=true then some ((ID x2.1 8),(w64 (x2.2+8)))else some (x2.1,x2.2)) fun x3=>Ab (idx str_0.data.toList ((toB (x3.1.toNat:Int)).toNat:Int)) fun x4=>bnd ((w64 (x3.2+(w64 (x4.toNat:Int))))) fun x5=>some x5
theorem HH {a0 r}(hm:Gl a0=some r):Sf prog 152 [.d (.u a0)] (.d (.i r)):=by
 refine sq fun D0 As η0 m0 hd=>oB hm fun x1 q1 hm=>gj (fun(_:Unit)=>let (y_0,y_1):=x1; ⟨[(0,.d (.u y_0)),(2,.d (.i y_1))],[],[],0⟩) (fun _=>True) (fun Jp bk1=> ?_) fun _ _=> ?_
 ·refine gi q1 ?_ ?_<;>intro _ q1
  ·obtain rfl:=AcO q1;exact gb bk1 hd () trivial
  obtain rfl:=AcO q1;exact gb bk1 hd () trivial
 refine oB hm fun x2 q2 hm=>gj (fun(_:Unit)=>let (y_0,y_1):=x2; ⟨[(0,.d (.u y_0)),(2,.d (.i y_1))],[],[],0⟩) (fun _=>True) (fun Jp bk2=> ?_) fun _ _=> ?_
 ·refine gi q2 ?_ ?_<;>intro _ q2
  ·obtain rfl:=AcO q2;exact gb bk2 hd () trivial
  obtain rfl:=AcO q2;exact gb bk2 hd () trivial
 refine oB hm fun x3 q3 hm=>gj (fun(_:Unit)=>let (y_0,y_1):=x3; ⟨[(0,.d (.u y_0)),(2,.d (.i y_1))],[],[],0⟩) (fun _=>True) (fun Jp bk3=> ?_) fun _ _=> ?_
 ·refine gi q3 ?_ ?_<;>intro _ q3
  ·obtain rfl:=AcO q3;exact gb bk3 hd () trivial
  obtain rfl:=AcO q3;exact gb bk3 hd () trivial
 refine oB hm fun _ q4 hm=>Aca (fun _=>q4)<|bE hm ?_;intro _ hm;exact AcO hm▸gE
theorem num_ok {s:ByteArray}{bn bm:Nat}{w:World}{n0 m0 u:Int}(hn:w.heap[bn]? =some (.cells #[.int .u64 n0] 24 (0,0)))(hm:w.heap[bm]? =some (.cells #[.int .u64 m0] 24 (0,0)))(hne:bn≠bm)(hz:0<s.size)
  (hcon:Calls prog 139 #[.string s,.int .i64 10,.int .i64 64] w (fun e w'=>e= .returned (.tuple #[.int .u64 u,.nilIface])∧Below w.heap.size w w')):
  Calls prog 138 #[.string s,.pointer (some ⟨bn,0,none⟩),.pointer (some ⟨bm,0,none⟩)] w fun e w'=> ∃w1,Below w.heap.size w w1∧w'=w1.setCell ⟨bn,0,none⟩ (.int .u64 u)∧e= .returned (.bool (s[0].toNat !=48&&decide (s.size<20)&&decide (u≤m0))):=by
 have hlt:=(Ada.1 hn).1;have hlt2:=(Ada.1 hm).1;have hcon2:Calls prog 139 #[.string s,.int .i64 10,.int .i64 64] w (fun e w'=>e= .returned (.tuple #[.int .u64 u,.nilIface])∧(w'.heap[bn]? =some (.cells #[.int .u64 n0] 24 (0,0))∧w'.heap[bm]? =some (.cells #[.int .u64 m0] 24 (0,0))∧Below w.heap.size w w')):=
  hcon.mono fun e w' ⟨h1,h2⟩=>⟨h1,(h2.block _ hlt).trans hn,(h2.block _ hlt2).trans hm,h2⟩
 clear hcon hn hm hlt hlt2;go_enter func138,ntmps138;go_wp2_with (
  go_at_call 139;refine hcon2.mono ?_;rintro e w2 ⟨rfl,hn,hm,hB⟩;have h2:w2.cell? ⟨bn,0,none⟩=some (.int .u64 n0):=by simp[World.cell?,hn]
  have h3:w2.cell? ⟨bm,0,none⟩=some (.int .u64 m0):=by simp[World.cell?,hm]
  have h4:w2.frozen? ⟨bn,0,none⟩=false:=by simp[World.frozen?,hn]
  refine Hid.out ?_)
 refine Lib.hid ?_;go_wp2
 all_goals go_ret
 all_goals refine⟨w2,hB,rfl,?_⟩
 all_goals simp_all
 all_goals first|omega|(rw[AdR]; simp; omega)
theorem Wj {s:ByteArray}{bn bm:Nat}{w:World}{n0 u:Int}(hn:w.heap[bn]? =some (.cells #[.int .u64 n0] 24 (0,0)))
  (hcon:Calls prog 139 #[.string s,.int .i64 10,.int .i64 64] w (fun e w'=> ∃t p,e= .returned (.tuple #[.int .u64 u,.iface t p])∧Below w.heap.size w w')):
  Calls prog 138 #[.string s,.pointer (some ⟨bn,0,none⟩),.pointer (some ⟨bm,0,none⟩)] w fun e w'=> ∃w1,Below w.heap.size w w1∧w'=w1.setCell ⟨bn,0,none⟩ (.int .u64 u)∧e= .returned (.bool false):=by
 have hlt:=(Ada.1 hn).1;have hcon2:Calls prog 139 #[.string s,.int .i64 10,.int .i64 64] w (fun e w'=> ∃t p,e= .returned (.tuple #[.int .u64 u,.iface t p])∧(w'.heap[bn]? =some (.cells #[.int .u64 n0] 24 (0,0))∧Below w.heap.size w w')):=
  hcon.mono fun e w' ⟨t,p,h1,h2⟩=>⟨t,p,h1,(h2.block _ hlt).trans hn,h2⟩
 clear hcon hn hlt;go_enter func138,ntmps138;go_wp2_with (
  go_at_call 139;refine hcon2.mono ?_;rintro e w2 ⟨t,p,rfl,hn,hB⟩;have h2:w2.cell? ⟨bn,0,none⟩=some (.int .u64 n0):=by simp[World.cell?,hn]
  have h4:w2.frozen? ⟨bn,0,none⟩=false:=by simp[World.frozen?,hn]
  refine Hid.out ?_)
 refine Lib.hid ?_;go_wp2
 all_goals go_ret
 all_goals exact⟨w2,hB,rfl,rfl⟩
def BS (a0:ByteArray)(k0:UInt64)(k1:UInt64):Option (Bool×UInt64×UInt64):=if a0.size≤281474976710656 then match Go.Lib.parseUintB 64 a0.data.toList with| .ok u=>if u<18446744073709551616∧0<a0.size then some ((a0.data.toList.headD 0).toNat !=48&&decide (a0.size<20)&&decide (u≤k1.toNat),UInt64.ofNat u,k1)else none| .range=>some (false,18446744073709551615,k1)|_=>some (false,0,k1)else none
theorem SD {w:World}{b:Nat}{x y:Value}{t:TypeId}(h:w.heap[b]? =some (cel [x] t)):w.setCell ⟨b,0,none⟩ y={w with heap:=w.heap.setIfInBounds b (cel [y] t)}:=by
 have e:w.heap.modify b (fun x=>match x with| .cells c elem frozen=> .cells (c.setIfInBounds 0 y) elem frozen|o=>o)=w.heap.setIfInBounds b (cel [y] t):=by
  refine Array.ext_getElem? fun k=> ?_;rw[Array.getElem?_modify,Array.getElem?_setIfInBounds];split
  ·rename_i q; subst q;rw[AcZ (Ada.1 h).1,h];rfl
  ·rfl
 simp only[World.setCell];rw[←e];rfl
theorem TR {η:Env}{m:Mem}{n b:Nat}{k:UInt64}{t:TypeId}{h:PH}(hb:η n=some (pt b 0))(r:rep η m (.box n [.d (.u k)] t) h):bx b [vU k] t h:=by
 obtain⟨b',vs,e,r1,_,r2⟩:=r;rw[hb]at e; cases e;obtain⟨v,us,rfl,r3,r1⟩:=r1.cons_inv;obtain rfl:=r1.nil_inv;cases r3 with|d h=>cases h; exact r2
theorem Hm {a0 k0 k1 r}(hm:BS a0 k0 k1=some r):Sp prog 138 [.d (.s a0),.pb 0 0,.pb 1 0] [.box 0 [.d (.u k0)] 24,.box 1 [.d (.u k1)] 24] 2 (is (.d (.t r.1)) [.box 0 [.d (.u r.2.1)] 24,.box 1 [.d (.u r.2.2)] 24] 2):=by
 obtain⟨hs,hm⟩:=AR hm;refine⟨call138,fun η m As w vs hv hd S=> ?_⟩;obtain⟨v,us,rfl,r0,hv⟩:=hv.cons_inv;obtain⟨v1,us,rfl,r1,hv⟩:=hv.cons_inv;obtain⟨v2,us,rfl,r2,hv⟩:=hv.cons_inv;obtain rfl:=hv.nil_inv;obtain rfl:=Qm r0;obtain⟨b0,e0,rfl⟩:=r1.pb_inv;obtain⟨b1,e1,rfl⟩:=r2.pb_inv;have S1:St m (bx b0 [vU k0] 24::bx b1 [vU k1] 24::As) w:=by
  refine S.imp (by simp) fun k A B ha hb x hx=> ?_;match k with
  |0=>cases ha; cases hb; exact TR e0 hx
  |1=>cases ha; cases hb; exact TR e1 hx
  |k+2=>simp only[Adg,List.map_nil,AdC,Ady,List.getElem?_cons_succ]at ha hb; rw[ha]at hb; cases hb; exact hx
 have hne:b0≠b1:=by
  rintro rfl;obtain⟨x,⟨h1,h2,q1,⟨h3,h4,q3,_,_,rfl⟩,dd,rfl⟩,_⟩:=S1.own;subst q1 q3;rcases dd b0 with q|q<;>simp[PH.one,PH.join]at q
 have hn:=S1.blk (i:=0) rfl;have hn1:=S1.blk (i:=1) rfl;have fin: ∀{u:UInt64} {p:Bool},r=(p,u,k1)→Calls prog 138 #[.string a0,pt b0 0,pt b1 0] w (fun e w'=> ∃w1,Below w.heap.size w w1∧w'=w1.setCell ⟨b0,0,none⟩ (vU u)∧e= .returned (.bool p))→
   A6 prog 138 #[.string a0,pt b0 0,pt b1 0] w fun v w'=> ∃(M:Mem) (η':Env) (q:AV) (obs':List AObj) (n1:Nat),m≤M∧η.le η'∧is (.d (.t r.1)) [.box 0 [.d (.u r.2.1)] 24,.box 1 [.d (.u r.2.2)] 24] 2 q obs' n1∧(∀n,η' n≠none→n<n1)∧Rel η' M q v∧St M (obs'.map (rep η' M)++As) w':=by
  rintro u p rfl hc;refine Calls.mono hc fun e w' ⟨w1,hB,hw,he⟩=>⟨_,he,?_,m,η,_,_,_,Mem.rfl' m,Env.le_refl,⟨rfl,rfl,rfl⟩,hd,.d (.t _),?_⟩
  ·have h0:w1.heap[b0]? =some (cel [vU k0] 24):=(hB.block _ (Ada.1 hn).1).trans hn;rw[hw,SD h0];exact(Kd.below hB).tr (Kd.set h0 Bw rfl)
  ·have S2:=St.below S1 hB;have h0:=S2.blk (i:=0) rfl;have S3:=S2.put (i:=0) rfl (cel [vU u] 24) {w1 with heap:=w1.heap.setIfInBounds b0 (cel [vU u] 24)} rfl rfl rfl rfl Bw;rw[hw,SD h0];refine S3.imp (by simp) fun k A B ha hb x hx=> ?_;match k with
   |0=>cases ha; cases hb; exact⟨b0,[vU u],e0,.cons (.d (.u _)) .nil,fun v hv=>by simp at hv; subst hv; rfl,hx⟩
   |1=>cases ha; cases hb; exact⟨b1,[vU k1],e1,.cons (.d (.u _)) .nil,fun v hv=>by simp at hv; subst hv; rfl,hx⟩
   |k+2=>simp only[Adg,List.map_nil,AdC,Ady,List.getElem?_cons_succ,List.set_cons_zero]at ha hb; rw[ha]at hb; cases hb; exact hx
 obtain⟨x,_,_,g,_,_⟩:=S.own;have herr: ∀j,j∈GI0→∃ev,w.cell? ⟨j,0,none⟩=some ev∧(ev= .nilIface∨∃te pe,ev= .iface te pe):=fun j hj=>by
  obtain⟨l,e,fr,t,v,q1,q2⟩:=S.tape.2.2 j hj;exact⟨_,Kw (g _ _ q1) q2,.inr ⟨_,_,rfl⟩⟩
 cases hu:Go.Lib.parseUintB 64 a0.data.toList<;>rw[hu]at hm<;>dsimp only at hm
 ·rename_i u;obtain⟨⟨h1,h2⟩,e⟩:=AR hm;cases e;have hz:a0[0].toNat=(a0.data.toList.headD 0).toNat:=by
   have:a0.data.toList.headD 0=a0[0]:=by
    have h3:0<a0.data.size:=h2;show _=a0.data[0];rw[List.headD_eq_head?_getD,List.head?_eq_getElem?];simp only[Array.getElem?_toList,Array.getElem?_eq_getElem h3];rfl
   rw[this]
  have hu64:(vU (UInt64.ofNat u):Value)= .int .u64 (u:Int):=by
   show Value.int .u64 ((UInt64.ofNat u).toNat:Int)=_;rw[UInt64.toNat_ofNat',Adx (by simpa using h1)]
  refine fin rfl ?_;rw[hu64,←hz];have:=num_ok (s:=a0) (u:=(u:Int)) hn hn1 hne h2 ((Go.Proofs.Any.strconv_ParseUint_10_at64_ok Go.Proofs.Tryz.laysPu14 a0 (by omega) u hu w).mono fun e w' ⟨e1,e2⟩=>⟨e1,by
   rcases e2 with rfl|rfl
   ·exact Below.refl _ _
   ·exact Go.Lib.bytesWorld_below ..⟩)
  refine this.mono fun e w' ⟨w1,q1,q2,q3⟩=>⟨w1,q1,q2,?_⟩;rw[q3];congr 3;rw[AdR];simp
 ·cases hm;obtain⟨ev,h1,h2⟩:=herr 8 (by decide);refine fin rfl (Wj hn ((Go.Proofs.Any.strconv_ParseUint_10_at64_syntax Go.Proofs.Tryz.laysPu14 a0 hs hu ev w h1 h2).mono fun e w' ⟨N,q1,_,_,q2⟩=>⟨_,_,q1,q2⟩))
 ·cases hm;obtain⟨ev,h1,h2⟩:=herr 9 (by decide);refine fin rfl (Wj hn ((Go.Proofs.Any.strconv_ParseUint_10_at64_range Go.Proofs.Tryz.laysPu14 a0 hs hu ev w h1 h2).mono fun e w' ⟨N,q1,_,_,q2⟩=>⟨_,_,q1,q2⟩))
def Cd (a0:Ae)(k0:UInt64)(k1:UInt64):Option (Except (Int×Int) (ByteArray×Ae×UInt64×UInt64)):=
 Ab ((
   Ab (BS a0.token_ k0 k1) fun x2=>
   if(!x2.1)=true then
    Ab (Bd a0) fun y2=>match y2 with
    | .error z1=>some (.inr (.error z1))
    | .ok x3=>
    some (.inl (x3.b_,x3.at_,x3.token_,x2.2.1,x2.2.2))
   else
   some (.inl (a0.b_,a0.at_,a0.token_,x2.2.1,x2.2.2))
  :Option (((List UInt8)×Int×ByteArray×UInt64×UInt64)⊕(Except (Int×Int) (ByteArray×Ae×UInt64×UInt64))))) fun x1=>match x1 with
 | .inr r=>some r
 | .inl y1=>
 Ab (Af (⟨y1.1,y1.2.1,y1.2.2.1⟩:Ae)) fun x4=>
 some (.ok (a0.token_,x4,y1.2.2.2.1,y1.2.2.2.2))
theorem Ea {a0 k0 k1 r}(hm:Cd a0 k0 k1=some r):Sb prog 78 [.pb 0 0,.fn (.func 138) [] [.pb 1 0,.pb 2 0]] [.box 0 [sl eB a0.b_,.d (.i a0.at_),.d (.s a0.token_)] 76,.box 1 [.d (.u k0)] 24,.box 2 [.d (.u k1)] 24] 3 (thV 73 r) (Pos (exo r) (fun r=> .d (.s r.1)) (fun r=> [.box 0 [.d (.sl _ eB r.2.1.b_),.d (.i r.2.1.at_),.d (.s r.2.1.token_)] 76,.box 1 [.d (.u r.2.2.1)] 24,.box 2 [.d (.u r.2.2.2)] 24]) 3) (exo r=none):=
 sb call78 func78 rfl ntmps78 rfl fun D0 As η0 m0 hd=>by
  unfold Cd at hm;refine oB hm fun x1 q1 hm=>gBo q1 (fun _=>Hm) fun x2 q2 q1=>gj (fun(y1:(List UInt8)×Int×ByteArray×UInt64×UInt64)=>let (y_0,y_1,y_2,y_3,y_4):=y1; ⟨[(0,.pb 0 0),(5,.d (.s a0.token_))],[(0,.box 0 [sl eB y_0,.d (.i y_1),.d (.s y_2)] 76),(1,.box 1 [.d (.u y_3)] 24),(2,.box 2 [.d (.u y_4)] 24)],[],3⟩) (fun y1=>x1= .inl y1) (fun Jp bk1=> ?_) fun y1 hy=> ?_
  ·refine gi q1 ?_ ?_<;>intro hc1 q1
   ·obtain⟨y2,q3,q1⟩:=Ad q1;rcases y2 with z1|x3
    ·dsimp only at q1;obtain rfl:=AcO q1;dsimp only at hm;obtain rfl:=AcO hm;exact G7 (AT q3)
    dsimp only at q1;refine gco (AT q3).spE ?_;obtain rfl:=AcO q1;exact gb bk1 hd _ rfl
   obtain rfl:=AcO q1;exact gb bk1 hd _ rfl
  subst hy;dsimp only at hm;refine gD hm A3 fun x4 q4 hm=> ?_;obtain rfl:=AcO hm;exact Uq hd
def Av (a0:Ae)(a1:UInt64):Option (Except (Int×Int) (UInt64×Ae)):=Ab (Cd a0 0 a1) fun y1=>match y1 with| .error z1=>some (.error z1)| .ok x1=>some (.ok (x1.2.2.1,x1.2.1))
theorem A2 {a0 a1 r}(hm:Av a0 a1=some r):Sb prog 87 [.pb 0 0,.d (.u a1)] [.box 0 [sl eB a0.b_,.d (.i a0.at_),.d (.s a0.token_)] 76] 1 (thV 73 r) (Pos (exo r) (fun r=> .d (.u r.1)) (fun r=> [.box 0 [.d (.sl _ eB r.2.b_),.d (.i r.2.at_),.d (.s r.2.token_)] 76]) 1) (exo r=none):=
 sb call87 func87 rfl ntmps87 rfl fun D0 As η0 m0 hd=>by
  unfold Av at hm;obtain⟨y1,q1,hm⟩:=Ad hm;rcases y1 with z1|x1
  ·dsimp only at hm;obtain rfl:=AcO hm;exact G7 (Ea q1)
  dsimp only at hm;refine gco (Ea q1).spE ?_;obtain rfl:=AcO hm;exact Uq hd
def BN (a0:ByteArray)(k0:List g_api_Rule):Option Bool:=Ab (Dp a0) fun x1=>if x1=true then Ab (AH k0 a0) fun x2=>some (!x2.1)else some false
theorem GO {a0 k0 r}(hm:BN a0 k0=some r):Sf prog 79 [.d (.s a0),.d (.pf [.sl _ Ac k0])] (.d (.t r)):=by
 refine sq ?_;intros;refine gA hm KC fun _ q1 hm=>gspl 6 hm (fun hc1 hm=> ?_) fun hc1 hm=> ?_
 ·refine gD hm C2 fun _ q2 hm=> ?_;exact AcO hm▸gE
 exact AcO hm▸gE
def A8 (a0:Ae)(k0:List g_api_Rule):Option (Except (Int×Int) (ByteArray×Ae)):=
 Ab ((
   Ab (BN a0.token_ k0) fun x2=>
   if(!x2)=true then
    Ab (Bd a0) fun y2=>match y2 with
    | .error z1=>some (.inr (.error z1))
    | .ok x3=>
    some (.inl (x3.b_,x3.at_,x3.token_))
   else
   some (.inl (a0.b_,a0.at_,a0.token_))
  :Option (((List UInt8)×Int×ByteArray)⊕(Except (Int×Int) (ByteArray×Ae))))) fun x1=>match x1 with
 | .inr r=>some r
 | .inl y1=>
 Ab (Af (⟨y1.1,y1.2.1,y1.2.2⟩:Ae)) fun x4=>
 some (.ok (a0.token_,x4))
theorem DW {a0 k0 r}(hm:A8 a0 k0=some r):Sb prog 78 [.pb 0 0,.fn (.func 79) [] [.pb 1 0]] [.box 0 [sl eB a0.b_,.d (.i a0.at_),.d (.s a0.token_)] 76,.box 1 [.ow 2] 29,.row 2 7 _ Ac k0] 3 (thV 73 r) (Pos (exo r) (fun r=> .d (.s r.1)) (fun r=> [.box 0 [.d (.sl _ eB r.2.b_),.d (.i r.2.at_),.d (.s r.2.token_)] 76,.box 1 [.ow 2] 29,.row 2 7 _ Ac k0]) 3) (exo r=none):=
 sb call78 func78 rfl ntmps78 rfl fun D0 As η0 m0 hd=>by
  unfold A8 at hm;obtain⟨x1,q1,hm⟩:=Ad hm;refine oB q1 fun x2 q2 q1=>gco (Sp.lend (os:=[.box 0 [.ow 1] 29,.row 1 7 _ Ac k0]) (n1:=2) (GO q2) (.cons (.same (by kernel_rfl)) (.cons (.pf (.head _) (.ow (.tail _ (.head _)) .nil)) .nil)) (by kernel_rfl))<|gj (fun(y1:(List UInt8)×Int×ByteArray)=>let (y_0,y_1,y_2):=y1; ⟨[(0,.pb 0 0),(5,.d (.s a0.token_))],[(0,.box 0 [sl eB y_0,.d (.i y_1),.d (.s y_2)] 76),(1,.box 1 [.ow 2] 29),(2,.row 2 7 _ Ac k0)],[],3⟩) (fun y1=>x1= .inl y1) (fun Jp bk1=> ?_) fun y1 hy=> ?_
  ·refine gi q1 ?_ ?_<;>intro hc1 q1
   ·obtain⟨y2,q3,q1⟩:=Ad q1;rcases y2 with z1|x3
    ·dsimp only at q1;obtain rfl:=AcO q1;dsimp only at hm;obtain rfl:=AcO hm;exact G7 (AT q3)
    dsimp only at q1;refine gco (AT q3).spE ?_;obtain rfl:=AcO q1;exact gb bk1 hd _ rfl
   obtain rfl:=AcO q1;exact gb bk1 hd _ rfl
  subst hy;dsimp only at hm;refine gD hm A3 fun x4 q4 hm=> ?_;obtain rfl:=AcO hm;exact Uq hd
def BM (a0:ByteArray)(k0:g_api_Rule):Option Bool:=Ab (gu (decide ((k0.Pats.length:Int)<8)) (B7 a0)) fun x1=>Ab (gu ((decide ((k0.Pats.length:Int)<8))&&(x1==0)) (AB k0.Pats a0)) fun x2=>bnd ((((decide ((k0.Pats.length:Int)<8))&&(x1==0))&&(!x2))) fun x3=>some x3
theorem GN {a0 k0 r}(hm:BM a0 k0=some r):Sf prog 84 [.d (.s a0),.d (.pf [.s k0.Name,.t k0.Allow,.sl _ eS k0.Pats,.u k0.KeyMin,.i k0.LifeMax,.i k0.Most,.i k0.Window])] (.d (.t r)):=by
 refine sq ?_;intros;refine oB hm fun _ q1 hm=>gcH q1 FM<|oB hm fun _ q2 hm=>gcH q2 CJ<|bE hm ?_;intro _ hm;exact AcO hm▸gE
def BA (a0:Ae)(k0:g_api_Rule):Option (Except (Int×Int) (ByteArray×Ae)):=
 Ab ((
   Ab (BM a0.token_ k0) fun x2=>
   if(!x2)=true then
    Ab (Bd a0) fun y2=>match y2 with
    | .error z1=>some (.inr (.error z1))
    | .ok x3=>
    some (.inl (x3.b_,x3.at_,x3.token_))
   else
   some (.inl (a0.b_,a0.at_,a0.token_))
  :Option (((List UInt8)×Int×ByteArray)⊕(Except (Int×Int) (ByteArray×Ae))))) fun x1=>match x1 with
 | .inr r=>some r
 | .inl y1=>
 Ab (Af (⟨y1.1,y1.2.1,y1.2.2⟩:Ae)) fun x4=>
 some (.ok (a0.token_,x4))
theorem DV {a0 k0 r}(hm:BA a0 k0=some r):Sb prog 78 [.pb 0 0,.fn (.func 84) [] [.pb 1 0]] [.box 0 [sl eB a0.b_,.d (.i a0.at_),.d (.s a0.token_)] 76,.box 1 [.d (.s k0.Name),.d (.t k0.Allow),.ow 2,.d (.u k0.KeyMin),.d (.i k0.LifeMax),.d (.i k0.Most),.d (.i k0.Window)] 68,.row 2 1 _ eS k0.Pats] 3 (thV 73 r) (Pos (exo r) (fun r=> .d (.s r.1)) (fun r=> [.box 0 [.d (.sl _ eB r.2.b_),.d (.i r.2.at_),.d (.s r.2.token_)] 76,.box 1 [.d (.s k0.Name),.d (.t k0.Allow),.ow 2,.d (.u k0.KeyMin),.d (.i k0.LifeMax),.d (.i k0.Most),.d (.i k0.Window)] 68,.row 2 1 _ eS k0.Pats]) 3) (exo r=none):=
 sb call78 func78 rfl ntmps78 rfl fun D0 As η0 m0 hd=>by
  unfold BA at hm;obtain⟨x1,q1,hm⟩:=Ad hm;refine oB q1 fun x2 q2 q1=>gco (Sp.lend (os:=[.box 0 [.d (.s k0.Name),.d (.t k0.Allow),.ow 1,.d (.u k0.KeyMin),.d (.i k0.LifeMax),.d (.i k0.Most),.d (.i k0.Window)] 68,.row 1 1 _ eS k0.Pats]) (n1:=2) (GN q2) (.cons (.same (by kernel_rfl)) (.cons (.pf (.head _) (.d (.d (.ow (.tail _ (.head _)) (.d (.d (.d (.d .nil)))))))) .nil)) (by kernel_rfl))<|gj (fun(y1:(List UInt8)×Int×ByteArray)=>let (y_0,y_1,y_2):=y1; ⟨[(0,.pb 0 0),(5,.d (.s a0.token_))],[(0,.box 0 [sl eB y_0,.d (.i y_1),.d (.s y_2)] 76),(1,.box 1 [.d (.s k0.Name),.d (.t k0.Allow),.ow 2,.d (.u k0.KeyMin),.d (.i k0.LifeMax),.d (.i k0.Most),.d (.i k0.Window)] 68),(2,.row 2 1 _ eS k0.Pats)],[],3⟩) (fun y1=>x1= .inl y1) (fun Jp bk1=> ?_) fun y1 hy=> ?_
  ·refine gi q1 ?_ ?_<;>intro hc1 q1
   ·obtain⟨y2,q3,q1⟩:=Ad q1;rcases y2 with z1|x3
    ·dsimp only at q1;obtain rfl:=AcO q1;dsimp only at hm;obtain rfl:=AcO hm;exact G7 (AT q3)
    dsimp only at q1;refine gco (AT q3).spE ?_;obtain rfl:=AcO q1;exact gb bk1 hd _ rfl
   obtain rfl:=AcO q1;exact gb bk1 hd _ rfl
  subst hy;dsimp only at hm;refine gD hm A3 fun x4 q4 hm=> ?_;obtain rfl:=AcO hm;exact Uq hd
def Aw (s1:(List UInt8)×Int×ByteArray×ByteArray×Bool×(List ByteArray)×UInt64×Int×Int×Int):Option (((List UInt8)×Int×ByteArray×ByteArray×Bool×(List ByteArray)×UInt64×Int×Int×Int)⊕(((List UInt8)×Int×ByteArray×ByteArray×Bool×(List ByteArray)×UInt64×Int×Int×Int)⊕(Except (Int×Int) (g_api_Rule×(List g_api_Rule)×Ae)))):=Ab (BA (⟨s1.1,s1.2.1,s1.2.2.1⟩:Ae) (⟨s1.2.2.2.1,s1.2.2.2.2.1,s1.2.2.2.2.2.1,s1.2.2.2.2.2.2.1,s1.2.2.2.2.2.2.2.1,s1.2.2.2.2.2.2.2.2.1,s1.2.2.2.2.2.2.2.2.2⟩:g_api_Rule)) fun y8=>match y8 with| .error z4=>some (.inr (.inr (.error z4)))| .ok x9=>Ab (app 16 s1.2.2.2.2.2.1 ([x9.1]:List ByteArray)) fun x10=>if(!eqS x9.2.token_ (⟨#[44]⟩:ByteArray))=true then some (.inr (.inl (x9.2.b_,x9.2.at_,x9.2.token_,s1.2.2.2.1,s1.2.2.2.2.1,x10,s1.2.2.2.2.2.2.1,s1.2.2.2.2.2.2.2.1,s1.2.2.2.2.2.2.2.2.1,s1.2.2.2.2.2.2.2.2.2)))else Ab (Af x9.2) fun x11=>some (.inl (x11.b_,x11.at_,x11.token_,s1.2.2.2.1,s1.2.2.2.2.1,x10,s1.2.2.2.2.2.2.1,s1.2.2.2.2.2.2.2.1,s1.2.2.2.2.2.2.2.2.1,s1.2.2.2.2.2.2.2.2.2))
def Bn (a0:Ae)(a1:List g_api_Rule):Option (Except (Int×Int) (g_api_Rule×(List g_api_Rule)×Ae)):=
 Ab ((
   if((!(eqS a0.token_ (⟨#[97,108,108,111,119]⟩:ByteArray)))&&(!eqS a0.token_ (⟨#[114,101,102,117,115,101]⟩:ByteArray)))=true then
    Ab (Bd a0) fun y2=>match y2 with
    | .error z1=>some (.inr (.error z1))
    | .ok x2=>
    some (.inl (x2.b_,x2.at_,x2.token_))
   else
   some (.inl (a0.b_,a0.at_,a0.token_))
  :Option (((List UInt8)×Int×ByteArray)⊕(Except (Int×Int) (g_api_Rule×(List g_api_Rule)×Ae))))) fun x1=>match x1 with
 | .inr r=>some r
 | .inl y1=>
 Ab ((
   if((a1.length:Int)==32)=true then
    some (.inr (.error (y1.2.1,2)))
   else
   some (.inl ())
  :Option ((Unit)⊕(Except (Int×Int) (g_api_Rule×(List g_api_Rule)×Ae))))) fun x3=>match x3 with
 | .inr r=>some r
 | .inl y3=>
 Ab (Af (⟨y1.1,y1.2.1,y1.2.2⟩:Ae)) fun x4=>
 Ab (A8 x4 a1) fun y4=>match y4 with
 | .error z2=>some (.error z2)
 | .ok x5=>
 Ab (Ai x5.2 (⟨#[123]⟩:ByteArray)) fun y5=>match y5 with
 | .error z3=>some (.error z3)
 | .ok x6=>
 Ab (iter Aw ET (x6.b_,x6.at_,x6.token_,x5.1,(eqS a0.token_ (⟨#[97,108,108,111,119]⟩:ByteArray)),([]:List ByteArray),0,0,0,0)) fun x7=>match x7 with
 | .inr r=>some r
 | .inl y6=>
 Ab (Ai (⟨y6.1,y6.2.1,y6.2.2.1⟩:Ae) (⟨#[59]⟩:ByteArray)) fun y9=>match y9 with
 | .error z5=>some (.error z5)
 | .ok x12=>
 Ab ((
   if y6.2.2.2.2.1=true then
    Ab ((
      if(eqS x12.token_ (⟨#[107,101,121]⟩:ByteArray))=true then
       Ab (Af x12) fun x15=>
       Ab (Av x15 2305843009213691579) fun y12=>match y12 with
       | .error z6=>some (.inr (.error z6))
       | .ok x16=>
       Ab (Ai x16.2 (⟨#[59]⟩:ByteArray)) fun y13=>match y13 with
       | .error z7=>some (.inr (.error z7))
       | .ok x17=>
       some (.inl (x17.b_,x17.at_,x17.token_,x16.1))
      else
      some (.inl (x12.b_,x12.at_,x12.token_,y6.2.2.2.2.2.2.1))
     :Option (((List UInt8)×Int×ByteArray×UInt64)⊕(Except (Int×Int) (g_api_Rule×(List g_api_Rule)×Ae))))) fun x14=>match x14 with
    | .inr r=>some (.inr r)
    | .inl y11=>
    Ab (Ai (⟨y11.1,y11.2.1,y11.2.2.1⟩:Ae) (⟨#[108,105,102,101]⟩:ByteArray)) fun y14=>match y14 with
    | .error z8=>some (.inr (.error z8))
    | .ok x18=>
    Ab (Av x18 1000) fun y15=>match y15 with
    | .error z9=>some (.inr (.error z9))
    | .ok x19=>
    Ab (Ai x19.2 (⟨#[59]⟩:ByteArray)) fun y16=>match y16 with
    | .error z10=>some (.inr (.error z10))
    | .ok x20=>
    if(eqS x20.token_ (⟨#[109,111,115,116]⟩:ByteArray))=true then
      Ab (Af x20) fun x21=>
      Ab (Av x21 1000) fun y17=>match y17 with
      | .error z11=>some (.inr (.error z11))
      | .ok x22=>
      Ab (Ai x22.2 (⟨#[112,101,114]⟩:ByteArray)) fun y18=>match y18 with
      | .error z12=>some (.inr (.error z12))
      | .ok x23=>
      Ab (Av x23 1099511627776) fun y19=>match y19 with
      | .error z13=>some (.inr (.error z13))
      | .ok x24=>
      Ab (Ai x24.2 (⟨#[59]⟩:ByteArray)) fun y20=>match y20 with
      | .error z14=>some (.inr (.error z14))
      | .ok x25=>
      some (.inl (x25.b_,x25.at_,x25.token_,y11.2.2.2,(w64 (x19.1.toNat:Int)),(w64 (x22.1.toNat:Int)),(w64 (x24.1.toNat:Int))))
    else
    some (.inl (x20.b_,x20.at_,x20.token_,y11.2.2.2,(w64 (x19.1.toNat:Int)),y6.2.2.2.2.2.2.2.2.1,y6.2.2.2.2.2.2.2.2.2))
   else
   some (.inl (x12.b_,x12.at_,x12.token_,y6.2.2.2.2.2.2.1,y6.2.2.2.2.2.2.2.1,y6.2.2.2.2.2.2.2.2.1,y6.2.2.2.2.2.2.2.2.2))
  :Option (((List UInt8)×Int×ByteArray×UInt64×Int×Int×Int)⊕(Except (Int×Int) (g_api_Rule×(List g_api_Rule)×Ae))))) fun x13=>match x13 with
 | .inr r=>some r
 | .inl y10=>
 Ab (Ai (⟨y10.1,y10.2.1,y10.2.2.1⟩:Ae) (⟨#[125]⟩:ByteArray)) fun y21=>match y21 with
 | .error z15=>some (.error z15)
 | .ok x26=>
 some (.ok ((⟨y6.2.2.2.1,y6.2.2.2.2.1,y6.2.2.2.2.2.1,y10.2.2.2.1,y10.2.2.2.2.1,y10.2.2.2.2.2.1,y10.2.2.2.2.2.2⟩:g_api_Rule),a1,x26))
theorem Gb {a0 a1 r}(hm:Bn a0 a1=some r):Sb prog 25 [.pb 0 0,.ow 1] [.box 0 [sl eB a0.b_,.d (.i a0.at_),.d (.s a0.token_)] 76,.row 1 7 _ Ac a1] 2 (thV 73 r) (Pos (exo r) (fun r=>ag (Ac r.1)) (fun r=> [.row 1 7 _ Ac r.2.1,.box 0 [.d (.sl _ eB r.2.2.b_),.d (.i r.2.2.at_),.d (.s r.2.2.token_)] 76]) 2) (exo r=none):=
 sb call25 func25 rfl ntmps25 rfl fun D0 As η0 m0 hd=>by
  unfold Bn at hm;refine oB hm fun x1 q1 hm=>gj (fun(y1:(List UInt8)×Int×ByteArray)=>let (y_0,y_1,y_2):=y1; ⟨[(0,.pb 0 0),(3,.pb 2 0),(4,.pb 3 0)],[(0,.box 3 [.d (.s ByteArray.empty),.d (.t (eqS a0.token_ (⟨#[97,108,108,111,119]⟩:ByteArray))),.d (.v (.slice none 0 0)),.d (.u 0),.d (.i 0),.d (.i 0),.d (.i 0)] 68),(1,.box 2 [.ow 1] 29),(2,.box 0 [sl eB y_0,.d (.i y_1),.d (.s y_2)] 76),(3,.row 1 7 _ Ac a1)],[],4⟩) (fun y1=>x1= .inl y1) (fun Jp bk1=> ?_) fun y1 hy=> ?_
  ·refine gi q1 ?_ ?_<;>intro hc1 q1
   ·obtain⟨y2,q2,q1⟩:=Ad q1;rcases y2 with z1|x2
    ·dsimp only at q1;obtain rfl:=AcO q1;dsimp only at hm;obtain rfl:=AcO hm;exact G7 (AT q2)
    dsimp only at q1;refine gco (AT q2).spE ?_;obtain rfl:=AcO q1;exact gb bk1 hd _ rfl
   obtain rfl:=AcO q1;exact gb bk1 hd _ rfl
  subst hy;dsimp only at hm;refine oB hm fun x3 q3 hm=>gj (fun(y3:Unit)=>⟨[(0,.pb 0 0),(3,.pb 2 0),(4,.pb 3 0)],[(0,.box 3 [.d (.s ByteArray.empty),.d (.t (eqS a0.token_ (⟨#[97,108,108,111,119]⟩:ByteArray))),.d (.v (.slice none 0 0)),.d (.u 0),.d (.i 0),.d (.i 0),.d (.i 0)] 68),(1,.box 2 [.ow 1] 29),(2,.box 0 [sl eB y1.1,.d (.i y1.2.1),.d (.s y1.2.2)] 76),(3,.row 1 7 _ Ac a1)],[],4⟩) (fun y3=>x3= .inl y3) (fun Jp bk2=> ?_) fun y3 hy=> ?_
  ·refine gi q3 ?_ ?_<;>intro hc2 q3
   ·obtain rfl:=AcO q3;dsimp only at hm;obtain rfl:=AcO hm;exact WQ (by kernel_rfl)
   obtain rfl:=AcO q3;exact gb bk2 hd _ rfl
  subst hy;dsimp only at hm;refine gD hm A3 fun x4 q4 hm=> ?_;obtain⟨y4,q5,hm⟩:=Ad hm;rcases y4 with z2|x5
  ·dsimp only at hm;obtain rfl:=AcO hm;exact G7 (DW q5)
  dsimp only at hm;refine gcoR 2 ((DW q5).spE) ?_;obtain⟨y5,q6,hm⟩:=Ad hm;rcases y5 with z3|x6
  ·dsimp only at hm;obtain rfl:=AcO hm;exact G7 (Au q6)
  dsimp only at hm;refine gco (Au q6).spE<|oB hm fun x7 q7 hm=>Tr 0 eS 4 2 1<|gI q7 (fun(p_0,p_1,p_2,p_3,p_4,p_5,p_6,p_7,p_8,p_9)=>⟨[(0,.pb 0 0),(4,.pb 3 0),(3,.pb 2 0)],[(0,.row 4 1 _ eS p_5),(1,.box 0 [sl eB p_0,.d (.i p_1),.d (.s p_2)] 76),(2,.box 3 [.d (.s p_3),.d (.t p_4),.ow 4,.d (.u p_6),.d (.i p_7),.d (.i p_8),.d (.i p_9)] 68),(3,.box 2 [.ow 1] 29),(4,.row 1 7 _ Ac a1)],[],5⟩) fun s1 y7 Jl q10 bl1=> ?_;unfold Aw at q10;obtain⟨y8,q12,q10⟩:=Ad q10;rcases y8 with z4|x9
  ·dsimp only at q10;obtain rfl:=nR bl1 q10;obtain rfl:=AcO hm;exact gpanDE (DV q12)
  dsimp only at q10;refine gcoR 2 ((DV q12).spE)<|gq eS 1 [x9.1]<|oB q10 fun x10 q13 q10=>gp eS 1 q13<|gi q10 ?_ ?_<;>intro hc3 q10
  ·obtain rfl:=nR bl1 q10;let y6:=(x9.2.b_,x9.2.at_,x9.2.token_,s1.2.2.2.1,s1.2.2.2.2.1,x10,s1.2.2.2.2.2.2.1,s1.2.2.2.2.2.2.2.1,s1.2.2.2.2.2.2.2.2.1,s1.2.2.2.2.2.2.2.2.2);obtain⟨y9,q15,hm⟩:=Ad hm;rcases y9 with z5|x12
   ·dsimp only at hm;obtain rfl:=AcO hm;exact G7 (Au q15)
   dsimp only at hm;refine gco (Au q15).spE<|oB hm fun x13 q16 hm=>gj (fun(y10:(List UInt8)×Int×ByteArray×UInt64×Int×Int×Int)=>let (y_0,y_1,y_2,y_3,y_4,y_5,y_6):=y10; ⟨[(0,.pb 0 0),(4,.pb 3 0),(3,.pb 2 0)],[(0,.box 0 [sl eB y_0,.d (.i y_1),.d (.s y_2)] 76),(1,.row 4 1 _ eS y6.2.2.2.2.2.1),(2,.box 3 [.d (.s y6.2.2.2.1),.d (.t y6.2.2.2.2.1),.ow 4,.d (.u y_3),.d (.i y_4),.d (.i y_5),.d (.i y_6)] 68),(3,.box 2 [.ow 1] 29),(4,.row 1 7 _ Ac a1)],[],5⟩) (fun y10=>x13= .inl y10) (fun Jp bk4=> ?_) fun y10 hy=> ?_
   ·refine gi q16 ?_ ?_<;>intro hc4 q16
    ·refine oB q16 fun x14 q17 q16=>gj (fun(y11:(List UInt8)×Int×ByteArray×UInt64)=>let (y_0,y_1,y_2,y_3):=y11; ⟨[(0,.pb 0 0),(4,.pb 3 0),(3,.pb 2 0)],[(0,.box 0 [sl eB y_0,.d (.i y_1),.d (.s y_2)] 76),(1,.row 4 1 _ eS y6.2.2.2.2.2.1),(2,.box 3 [.d (.s y6.2.2.2.1),.d (.t y6.2.2.2.2.1),.ow 4,.d (.u y_3),.d (.i y6.2.2.2.2.2.2.2.1),.d (.i y6.2.2.2.2.2.2.2.2.1),.d (.i y6.2.2.2.2.2.2.2.2.2)] 68),(3,.box 2 [.ow 1] 29),(4,.row 1 7 _ Ac a1)],[],5⟩) (fun y11=>x14= .inl y11) (fun Jp bk5=> ?_) fun y11 hy=> ?_
     ·refine gi q17 ?_ ?_<;>intro hc5 q17
      ·refine gD q17 A3 fun x15 q18 q17=> ?_;obtain⟨y12,q19,q17⟩:=Ad q17;rcases y12 with z6|x16
       ·dsimp only at q17;obtain rfl:=AcO q17;dsimp only at q16;obtain rfl:=AcO q16;dsimp only at hm;obtain rfl:=AcO hm;exact G7 (A2 q19)
       dsimp only at q17;refine gco (A2 q19).spE ?_;obtain⟨y13,q20,q17⟩:=Ad q17;rcases y13 with z7|x17
       ·dsimp only at q17;obtain rfl:=AcO q17;dsimp only at q16;obtain rfl:=AcO q16;dsimp only at hm;obtain rfl:=AcO hm;exact G7 (Au q20)
       dsimp only at q17;refine gco (Au q20).spE ?_;obtain rfl:=AcO q17;exact gb bk5 hd _ rfl
      obtain rfl:=AcO q17;exact gb bk5 hd _ rfl
     subst hy;dsimp only at q16;obtain⟨y14,q21,q16⟩:=Ad q16;rcases y14 with z8|x18
     ·dsimp only at q16;obtain rfl:=AcO q16;dsimp only at hm;obtain rfl:=AcO hm;exact G7 (Au q21)
     dsimp only at q16;refine gco (Au q21).spE ?_;obtain⟨y15,q22,q16⟩:=Ad q16;rcases y15 with z9|x19
     ·dsimp only at q16;obtain rfl:=AcO q16;dsimp only at hm;obtain rfl:=AcO hm;exact G7 (A2 q22)
     dsimp only at q16;refine gco (A2 q22).spE ?_;obtain⟨y16,q23,q16⟩:=Ad q16;rcases y16 with z10|x20
     ·dsimp only at q16;obtain rfl:=AcO q16;dsimp only at hm;obtain rfl:=AcO hm;exact G7 (Au q23)
     dsimp only at q16;refine gco (Au q23).spE<|gi q16 ?_ ?_<;>intro hc6 q16
     ·refine gD q16 A3 fun x21 q24 q16=> ?_;obtain⟨y17,q25,q16⟩:=Ad q16;rcases y17 with z11|x22
      ·dsimp only at q16;obtain rfl:=AcO q16;dsimp only at hm;obtain rfl:=AcO hm;exact G7 (A2 q25)
      dsimp only at q16;refine gco (A2 q25).spE ?_;obtain⟨y18,q26,q16⟩:=Ad q16;rcases y18 with z12|x23
      ·dsimp only at q16;obtain rfl:=AcO q16;dsimp only at hm;obtain rfl:=AcO hm;exact G7 (Au q26)
      dsimp only at q16;refine gco (Au q26).spE ?_;obtain⟨y19,q27,q16⟩:=Ad q16;rcases y19 with z13|x24
      ·dsimp only at q16;obtain rfl:=AcO q16;dsimp only at hm;obtain rfl:=AcO hm;exact G7 (A2 q27)
      dsimp only at q16;refine gco (A2 q27).spE ?_;obtain⟨y20,q28,q16⟩:=Ad q16;rcases y20 with z14|x25
      ·dsimp only at q16;obtain rfl:=AcO q16;dsimp only at hm;obtain rfl:=AcO hm;exact G7 (Au q28)
      dsimp only at q16;refine gco (Au q28).spE ?_;obtain rfl:=AcO q16;exact gb bk4 hd _ rfl
     obtain rfl:=AcO q16;exact gb bk4 hd _ rfl
    obtain rfl:=AcO q16;exact gb bk4 hd _ rfl
   subst hy;dsimp only at hm;obtain⟨y21,q29,hm⟩:=Ad hm;rcases y21 with z15|x26
   ·dsimp only at hm;obtain rfl:=AcO hm;exact G7 (Au q29)
   dsimp only at hm;refine gco (Au q29).spE ?_;obtain rfl:=AcO hm;exact Uq hd
  exact gD q10 A3 fun x11 q14 q10=>gN bl1 q10
theorem d1_23 (a b c:Value)(w:World):CallsDIn (FW none) 0 prog 23 #[a,b,c] .returning w fun e u' w'=> ∃v,e= .returned v∧u'= .returning∧w'=w:=by
 refine CallsDIn.mono (Qn (N:=16) (args:=[a,b,c]) (u:= .returning) (u':= .returning) (v:= .nilIface) (R:=fun w'=>w'=w) func23 rfl ntmps23 rfl (Ac3 rfl) rfl (fun c₀ cs hu=> .inr ⟨by simp[recoverD,hu],rfl,rfl⟩) ?_) fun e u2 w' ⟨x,h1,h2,_,h3⟩=>⟨x,h1,h2,h3⟩;refine D6 (AM (Ah (l:=[_]) ?_));refine Ak (v:= .bool true) (w':=w) rfl (fun _ e=>by cases e) (by kernel_rfl) ?_;refine Ap (nrm ?_);refine Sk rfl ?_;refine Ah (l:=[_]) ?_;refine Ak (v:= .nilIface) (w':=w) rfl (fun _ e=>by cases e) (by kernel_rfl) ?_;exact Ap (nrmB ⟨.inl rfl,rfl⟩)
theorem d2_23 (z:Int×Int)(m:Mem)(As:List Ow)(w:World)(b0 b1 b2:Nat)(c0 c1 c2:Value)(h0:c0.oneCell'=true)(h1:c1.oneCell'=true)(h2:c2.oneCell'=true)(S:St m (bx b0 [c0] 29::bx b1 [c1] 3::bx b2 [c2] 30::As) w):
  CallsDIn (FW none) 0 prog 23 #[pt b0 0,pt b1 0,pt b2 0] (.panicking (chn (thW 73 z))) w fun e u' w'=> ∃v,e= .returned v∧u'= .panicking [{v:=thW 73 z,recovered:=true}]∧Kd w w'∧
   ∃M u0 u1 u2,m≤M∧FR M (.v (.slice none 0 0)) u0∧FR M (.i z.1) u1∧FR M (.i z.2) u2∧St M (bx b0 [u0] 29::bx b1 [u1] 3::bx b2 [u2] 30::As) w':=by
 refine Qn (N:=16) (args:=[pt b0 0,pt b1 0,pt b2 0]) (u:= .panicking (chn (thW 73 z))) (u':= .panicking [{v:=thW 73 z,recovered:=true}]) (v:=thW 73 z) func23 rfl ntmps23 rfl (Ac3 rfl) rfl (fun c₀ cs hu=> .inl (by simp[recoverD,hu,chn])) ?_;refine D6 (AM (Ah (l:=[_]) ?_));refine Ak (v:= .bool false) (w':=w) rfl (fun _ e=>by cases e) (by kernel_rfl) ?_;refine Ap (nrm ?_);refine UU rfl ?_;refine AM (Ah (l:=[_,_,_]) ?_);refine Ak (v:= .tuple #[.agg #[.int .i64 z.1,.int .i64 z.2],.bool true]) (w':=w) rfl (fun _ e=>by cases e) (by kernel_rfl) ?_;refine Ak (v:= .bool true) (w':=w) rfl (fun _ e=>by cases e) (by kernel_rfl) ?_;refine Ak (v:= .agg #[.int .i64 z.1,.int .i64 z.2]) (w':=w) rfl (fun _ e=>by cases e) (by kernel_rfl) ?_;refine Ap (nrm ?_);refine Sk rfl ?_;let η0:Env:=fun n=>if n=0 then some (pt b0 0)else if n=1 then some (pt b1 0)else if n=2 then some (pt b2 0)else none;have e0:η0 0=some (pt b0 0):=rfl;have e1:η0 1=some (pt b1 0):=rfl;have e2:η0 2=some (pt b2 0):=rfl;have hd: ∀n,η0 n≠none→n<3:=fun n h=>by
  have h:(if n=0 then some (pt b0 0)else if n=1 then some (pt b1 0)else if n=2 then some (pt b2 0)else none)≠none:=h;split at h
  ·omega
  ·split at h
   ·omega
   ·split at h
    ·omega
    ·exact absurd rfl h
 let s0:AS:=⟨[(0,.pb 0 0),(1,.pb 1 0),(2,.pb 2 0),(11,.agg [.d (.i z.1),.d (.i z.2)])],[(0,.box 0 [.any] 29),(1,.box 1 [.any] 3),(2,.box 2 [.any] 30)],[],3⟩;have cl: ∀{n b:Nat} {c:Value} {t:TypeId} {Bs:List Ow},η0 n=some (pt b 0)→c.oneCell'=true→St m (bx b [c] t::Bs) w→St m (rep η0 m (.box n [.any] t)::Bs) w:=fun hb hc S=>St.closeBox hb (.cons (.any _) .nil) (fun v hv=>by simp at hv; subst hv; exact hc) S;have rot: ∀{A B C:Ow} {As:List Ow},(A::B::C::As).Perm (B::C::A::As):=(Adu _ _ _).trans (Adr _ (Adu _ _ _));have S3:St m (rep η0 m (.box 0 [.any] 29)::rep η0 m (.box 1 [.any] 3)::rep η0 m (.box 2 [.any] 30)::As) w:=
  (cl e2 h2 ((cl e1 h1 ((cl e0 h0 S).perm rot)).perm rot)).perm rot
 let J:Unit→AS:=fun _=>⟨[],[(0,.box 0 [.d (.v (.slice none 0 0))] 29),(1,.box 1 [.d (.i z.1)] 3),(2,.box 2 [.d (.i z.2)] 30)],[],3⟩;refine Fl (Q:=Ax.pk none prog 16 (w,[],true) (outG (Rl As η0 m J (fun _=>True)) (thW 73 z) (fun _ _=>False)) [.blk 0]) ?_ (gat s0 (η:=η0) (m:=m) ?_ (gretG () trivial hd (by kernel_rfl)))
 ·intro e f' w' q;have fin:Rl As η0 m J (fun _=>True) f' w'→∃M u0 u1 u2,m≤M∧FR M (.v (.slice none 0 0)) u0∧FR M (.i z.1) u1∧FR M (.i z.2) u2∧St M (bx b0 [u0] 29::bx b1 [u1] 3::bx b2 [u2] 30::As) w':=by
   rintro⟨_,_,η,M,le,l,gm⟩;have op: ∀{n b:Nat} {d:D} {t:TypeId} {Bs:List Ow},η0 n=some (pt b 0)→St M (rep η M (.box n [.d d] t)::Bs) w'→∃u,FR M d u∧St M (bx b [u] t::Bs) w':=by
    intro n b d t Bs hb S;obtain⟨b',cs,k0,k1,k2,S1⟩:=St.openBox S;rw[le n _ hb]at k0; obtain rfl:b=b':=by have:=AcO k0; simpa using this
    obtain⟨c,us,rfl,k3,k4⟩:=k1.cons_inv;obtain rfl:=k4.nil_inv;exact⟨c,by cases k3 with|d h=>exact h,S1⟩
   obtain⟨u0,x0,T0⟩:=op e0 gm.st;obtain⟨u1,x1,T1⟩:=op e1 (T0.perm rot);obtain⟨u2,x2,T2⟩:=op e2 (T1.perm rot);exact⟨M,u0,u1,u2,l,x0,x1,x2,T2.perm rot⟩
  cases e with
  |normal=>exact⟨.inl rfl,fin q⟩
  |ret=>exact⟨.inr rfl,fin q⟩
  |exit id=>
   have q:(bif Nat.beq id 0 then Rl As η0 m J (fun _=>True) f' w' else False):=q;cases hb:Nat.beq id 0
   ·rw[hb]at q; exact q.elim
   ·rw[hb]at q;refine(show Lb 0 _ (.exit id) f' w' from ?_);simp only[Lb,hb,cond_true];exact⟨by simp,fin q⟩
  |goto l=>exact q.elim
  |panic ch=>exact q.2.elim
  |outgrown=>exact q.elim
 ·refine⟨fun t=> ?_,fun n d h=>(by cases h),hd,S3,?_,fun t ht=> ?_⟩
  ·match t with
   |0=>exact .pb e0
   |1=>exact .pb e1
   |2=>exact .pb e2
   |11=>
    have L:RelL η0 m [.d (.i z.1),.d (.i z.2)] [.int .i64 z.1,.int .i64 z.2]:= .cons (.d (.i _)) (.cons (.d (.i _)) .nil);exact .agg L.1 L.2
   |3=>exact .any _
   |4=>exact .any _
   |5=>exact .any _
   |6=>exact .any _
   |7=>exact .any _
   |8=>exact .any _
   |9=>exact .any _
   |10=>exact .any _
   |t+12=>exact .any _
  ·show [0,1,2].Nodup; decide
  ·have:t∈[0,1,2]:=ht;show t<3;simp at this; omega
def Bf (s1:(List UInt8)×Int×ByteArray×(List g_api_Rule)):Option (((List UInt8)×Int×ByteArray×(List g_api_Rule))⊕(((List UInt8)×Int×ByteArray×(List g_api_Rule))⊕(Except (Int×Int) ((List g_api_Rule)×Int×Int)))):=if(!eqS s1.2.2.1 (⟨#[]⟩:ByteArray))=true then Ab (Bn (⟨s1.1,s1.2.1,s1.2.2.1⟩:Ae) s1.2.2.2) fun y3=>match y3 with| .error z1=>some (.inr (.inr (.error z1)))| .ok x4=>Ab (app 80 x4.2.1 ([x4.1]:List g_api_Rule)) fun x5=>some (.inl (x4.2.2.b_,x4.2.2.at_,x4.2.2.token_,x5))else some (.inr (.inl (s1.1,s1.2.1,s1.2.2.1,s1.2.2.2)))
def Cb (a0:List UInt8):Option (Except (Int×Int) ((List g_api_Rule)×Int×Int)):=Ab (Af (⟨a0,0,ByteArray.empty⟩:Ae)) fun x1=>Ab (iter Bf ET (x1.b_,x1.at_,x1.token_,([]:List g_api_Rule))) fun x2=>match x2 with| .inr r=>some r| .inl y1=>some (.ok (y1.2.2.2,0,0))
def BQ (a0:List UInt8):Option ((List g_api_Rule)×Int×Int):=if(decide ((a0.length:Int)>32768))=true then some (([]:List g_api_Rule),0,2)else Ab (Cb a0) fun z=>some (match z with| .error z=>([],z.1,z.2)| .ok c=>c)
theorem Hx {a0 r}(hm:BQ a0=some r):Sf prog 6 [sl eB a0] (.tup [sl Ac r.1,.d (.i r.2.1),.d (.i r.2.2)]):=by
 unfold BQ at hm;refine par_of (N:=27) (z0:= .v (.slice none 0 0)) (z1:= .i (errOf ((Cb a0).getD (.error (0,0)))).1) (z2:= .i (errOf ((Cb a0).getD (.error (0,0)))).2) (t0:=29) (t1:=3) (t2:=30) (ov:=thV 73 ((Cb a0).getD (.error (0,0)))) (ok1:=((decide ((a0.length:Int)>32768)))=false) (okX:=((decide ((a0.length:Int)>32768)))=false∧∃z,Cb a0=some (.error z)) (okE:=fun c=>((decide ((a0.length:Int)>32768)))=false∧Cb a0=some (.ok c)) (JE:=fun(c:(List g_api_Rule)×Int×Int)=>⟨[(2,.pb 0 0),(3,.pb 1 0),(4,.pb 2 0)],[(0,.box 0 [sl Ac c.1] 29),(1,.box 1 [.d (.i c.2.1)] 3),(2,.box 2 [.d (.i c.2.2)] 30)],[],3⟩) (J1:=⟨[(0,sl eB a0),(2,.pb 0 0),(3,.pb 1 0),(4,.pb 2 0)],[(0,.box 2 [.d (.i 0)] 30),(1,.box 1 [.d (.i 0)] 3),(2,.box 0 [.d (.v (.slice none 0 0))] 29)],[],3⟩) call6 call23 func6 rfl ntmps6 rfl rfl rfl ?_ ?_ ?_ ?_ (d1_23) (fun h=>by obtain⟨_,z,hz⟩:=h; rw[hz]; exact d2_23 z)
 ·intro D0 As η0 m0 Jp hd bk;refine gi hm ?_ ?_<;>intro hc1 hm
  ·exact AcO hm▸gE
  exact gb bk hd () hc1
 ·intro hok D0 As η0 m0 hd;rw[Ac1 (by rw[hok]; decide)]at hm;obtain⟨z,hz2,hm⟩:=Ad hm;rw[hz2];unfold Cb at hz2;clear hm;refine gD hz2 A3 fun x1 q1 hz2=>oB hz2 fun x2 q2 hz2=>Tr 0 Ac 2 0 7<|gI q2 (fun(p_0,p_1,p_2,p_3)=>⟨[(2,.pb 0 0),(3,.pb 1 0),(4,.pb 2 0),(5,.pb 3 0),(12,.pb 3 0)],[(0,.row 4 7 _ Ac p_3),(1,.box 3 [sl eB p_0,.d (.i p_1),.d (.s p_2)] 76),(2,.box 2 [.d (.i 0)] 30),(3,.box 1 [.d (.i 0)] 3),(4,.box 0 [.ow 4] 29)],[],5⟩) fun s1 y2 Jl q5 bl1=> ?_;unfold Bf at q5;refine gi q5 ?_ ?_<;>intro hc2 q5
  ·obtain⟨y3,q7,q5⟩:=Ad q5;rcases y3 with z1|x4
   ·dsimp only at q5;obtain rfl:=nR bl1 q5;obtain rfl:=AcO hz2;exact Ab4 [0,1,2] [2,3,4] (Gb q7) ⟨hok,_,rfl⟩ hd
   dsimp only at q5;exact gco (Gb q7).spE<|gq Ac 7 [x4.1]<|oB q5 fun x5 q8 q5=>gp Ac 7 q8<|gN bl1 q5
  obtain rfl:=nR bl1 q5;let y1:=(s1.1,s1.2.1,s1.2.2.1,s1.2.2.2);obtain rfl:=AcO hz2;exact gretG _ ⟨hok,rfl⟩ hd
 ·rintro c ⟨hC,hz⟩ D0 As η0 m0 hd;rw[Ac1 (by rw[hC]; decide),hz]at hm;have e0:c=r:=AcO hm;subst e0;exact gend hd
 ·rintro⟨hC,z,hz⟩ D0 As η0 m0 hd;rw[Ac1 (by rw[hC]; decide),hz]at hm;have e0:([],z.1,z.2)=r:=AcO hm;subst e0;rw[hz];exact gend hd
theorem P7 {m:Mem}{As:List Ow}{w:World}{a0:List UInt8}{a0v0:Value}{r:(List g_api_Rule)×Int×Int}(S:St m As w)(a0h0:SlR m a0v0 a0)(hm:BQ a0=some r):
  A6 prog 6 #[a0v0] w fun v w'=> ∃(M:Mem),m≤M∧∃(rv0_0:Value),St M (As) w'∧v= .tuple #[rv0_0,vI r.2.1,vI r.2.2]∧SlR M rv0_0 r.1:=by
 refine A6.mono ((Hx hm).2 none0 m As w [a0v0] (.cons (.d (Br.toS Br.b a0h0)) .nil) (fun n h=>absurd rfl h) S) ?_;rintro v w' ⟨M,η',r',obs',n1,hle,_,⟨rfl,rfl,rfl⟩,hdom,hR,S'⟩;obtain⟨us,rfl,hR0⟩:=hR.tup_inv;obtain⟨v0,u0,rfl,q0,hR1⟩:=RelL.cons_inv hR0;obtain⟨v1,u1,rfl,q1,hR2⟩:=RelL.cons_inv hR1;obtain⟨v2,u2,rfl,q2,hR3⟩:=RelL.cons_inv hR2;obtain rfl:=RelL.nil_inv hR3;obtain rfl:=q1.i_inv;obtain rfl:=q2.i_inv;exact⟨M,hle,v0,S',rfl,Br.ofS b_api_Rule q0.dd⟩
def NB (a0:UInt64):Option Bool:=bnd ((((a0.toNat:Int)==0)||(decide ((a0.toNat:Int)≥1152921504606845789)))) fun x1=>some x1
theorem TY {a0 r}(hm:NB a0=some r):Sf prog 52 [.d (.u a0)] (.d (.t r)):=by
 refine sq ?_;intros;refine bE hm ?_;intro _ hm;exact AcO hm▸gE
def Gk (a0:UInt64)(a1:UInt64):Option (UInt64×UInt64):=bnd (((a0&&&4294967295)*(a1&&&4294967295))) fun x1=>bnd ((((ID a0 32)*(a1&&&4294967295))+(ID x1 32))) fun x2=>bnd (((x2&&&4294967295)+((a0&&&4294967295)*(ID a1 32)))) fun x3=>bnd (((((ID a0 32)*(ID a1 32))+(ID x2 32))+(ID x3 32))) fun x4=>some (x4,(a0*a1))
theorem HG {a0 a1 r}(hm:Gk a0 a1=some r):Sf prog 167 [.d (.u a0),.d (.u a1)] (.tup [.d (.u r.1),.d (.u r.2)]):=by
 refine sq ?_;intros;refine bE hm ?_;intro _ hm;refine bE hm ?_;intro _ hm;refine bE hm ?_;intro _ hm;refine bE hm ?_;intro _ hm;exact AcO hm▸gE
def E4 (a0:UInt64):Option Int:=Ab (Gl a0) fun x1=>some (w64 (64-x1))
theorem HI {a0 r}(hm:E4 a0=some r):Sf prog 208 [.d (.u a0)] (.d (.i r)):=by
 refine sq ?_;intros;refine gA hm HH fun _ q1 hm=> ?_;exact AcO hm▸gE
def Ms (x4:UInt64)(x5:UInt64)(x7:UInt64)(s1:UInt64×UInt64):Option ((UInt64×UInt64)⊕(UInt64)):=if((decide ((s1.1.toNat:Int)≥4294967296))||(decide (((s1.1*x5).toNat:Int)>(((4294967296*s1.2)+x7).toNat:Int))))=true then if(decide (((s1.2+x4).toNat:Int)≥4294967296))=true then some (.inr (s1.1-1))else some (.inl ((s1.1-1),(s1.2+x4)))else some (.inr s1.1)
def Mr (x4:UInt64)(x5:UInt64)(x8:UInt64)(s2:UInt64×UInt64):Option ((UInt64×UInt64)⊕(UInt64)):=if((decide ((s2.2.toNat:Int)≥4294967296))||(decide (((s2.2*x5).toNat:Int)>(((4294967296*s2.1)+x8).toNat:Int))))=true then if(decide (((s2.1+x4).toNat:Int)≥4294967296))=true then some (.inr (s2.2-1))else some (.inl ((s2.1+x4),(s2.2-1)))else some (.inr s2.2)
def H7 (a0:UInt64)(a1:UInt64)(a2:UInt64):Option (UInt64×UInt64):=Ab (if((a2.toNat:Int)==0)=true then none else some ()) fun x1=>Ab (if(decide ((a2.toNat:Int)≤(a0.toNat:Int)))=true then none else some ()) fun x2=>if((a0.toNat:Int)==0)=true then if a2≠0 then if a2≠0 then some ((a1/a2),(a1%a2))else none else none else Ab (E4 a2) fun x3=>bnd ((ID (Nu a2 ((toU x3).toNat)) 32)) fun x4=>bnd (((Nu a2 ((toU x3).toNat))&&&4294967295)) fun x5=>bnd (((Nu a0 ((toU x3).toNat))|||(ID a1 ((64-(toU x3)).toNat)))) fun x6=>bnd ((ID (Nu a1 ((toU x3).toNat)) 32)) fun x7=>bnd (((Nu a1 ((toU x3).toNat))&&&4294967295)) fun x8=>if x4≠0 then Ab (Ab (iter (Ms x4 x5 x7) ET ((x6/x4),(x6-((x6/x4)*x4)))) fun x10=>some x10) fun x9=>bnd ((((x6*4294967296)+x7)-(x9*(Nu a2 ((toU x3).toNat))))) fun x12=>if x4≠0 then Ab (Ab (iter (Mr x4 x5 x8) ET ((x12-((x12/x4)*x4)),(x12/x4))) fun x14=>some x14) fun x13=>bnd ((ID (((x12*4294967296)+x8)-(x13*(Nu a2 ((toU x3).toNat)))) ((toU x3).toNat))) fun x16=>some (((x9*4294967296)+x13),x16)else none else none
theorem KL {a0 a1 a2 r}(hm:H7 a0 a1 a2=some r):Sf prog 169 [.d (.u a0),.d (.u a1),.d (.u a2)] (.tup [.d (.u r.1),.d (.u r.2)]):=by
 refine sq fun D0 As η0 m0 hd=>oB hm fun _ q1 hm=>gi q1 (fun hc1 q1=> ?_) fun hc1 q1=> ?_
 ·cases q1
 obtain rfl:=AcO q1;refine oB hm fun _ q2 hm=>gi q2 (fun hc2 q2=> ?_) fun hc2 q2=> ?_
 ·cases q2
 obtain rfl:=AcO q2;refine gi hm ?_ ?_<;>intro _ hm
 ·obtain⟨q3,hm⟩:=AR hm;refine XM (d:= .u a2) (r:= .u (a1/a2)) (fun h=>q3) ?_;obtain⟨q4,hm⟩:=AR hm;refine XM (d:= .u a2) (r:= .u (a1%a2)) (fun h=>q4) ?_;exact AcO hm▸gE
 refine gA hm HI fun x3 q5 hm=>bE hm ?_;intro x4 hm;refine bE hm ?_;intro x5 hm;refine bE hm ?_;intro x6 hm;refine bE hm ?_;intro x7 hm;refine bE hm ?_;intro x8 hm;obtain⟨q11,hm⟩:=AR hm;refine XM (d:= .u x4) (r:= .u (x6/x4)) (fun h=>q11) ?_;obtain⟨x9,q12,hm⟩:=Ad hm;refine oB q12 fun x10 q13 q12=>gjU 0 (fun(_:Unit)=>⟨[(2,.d (.u (Nu a2 ((toU x3).toNat)))),(8,.d (.u (toU x3))),(9,.d (.u x4)),(10,.d (.u x5)),(11,.d (.u x6)),(13,.d (.u x7)),(14,.d (.u x8)),(15,.d (.u x10))],[],[],0⟩) (fun _=>True) (fun Jp bk4=> ?_) fun _ _=> ?_
 ·refine gI q13 (fun(p_0,p_1)=>⟨[(2,.d (.u (Nu a2 ((toU x3).toNat)))),(8,.d (.u (toU x3))),(9,.d (.u x4)),(10,.d (.u x5)),(11,.d (.u x6)),(13,.d (.u x7)),(14,.d (.u x8)),(15,.d (.u p_0)),(16,.d (.u p_1))],[],[],0⟩) fun s1 _ Jl q16 bl1=>gi q16 ?_ ?_<;>intro _ q16
  ·refine gi q16 ?_ ?_<;>intro _ q16
   ·obtain rfl:=nR bl1 q16;exact gb bk4 hd () trivial
   exact gN bl1 q16
  obtain rfl:=nR bl1 q16;exact gb bk4 hd () trivial
 obtain rfl:=AcO q12;let x9:=x10;refine bE hm ?_;intro x12 hm;obtain⟨q19,hm⟩:=AR hm;refine XM (d:= .u x4) (r:= .u (x12/x4)) (fun h=>q19) ?_;obtain⟨x13,q20,hm⟩:=Ad hm;refine oB q20 fun x14 q21 q20=>gjU 2 (fun(_:Unit)=>⟨[(2,.d (.u (Nu a2 ((toU x3).toNat)))),(8,.d (.u (toU x3))),(14,.d (.u x8)),(15,.d (.u x9)),(17,.d (.u x12)),(18,.d (.u x14))],[],[],0⟩) (fun _=>True) (fun Jp bk6=> ?_) fun _ _=> ?_
 ·refine gI q21 (fun(p_0,p_1)=>⟨[(2,.d (.u (Nu a2 ((toU x3).toNat)))),(8,.d (.u (toU x3))),(9,.d (.u x4)),(10,.d (.u x5)),(14,.d (.u x8)),(15,.d (.u x9)),(16,.d (.u p_0)),(17,.d (.u x12)),(18,.d (.u p_1))],[],[],0⟩) fun s2 _ Jl q24 bl2=>gi q24 ?_ ?_<;>intro _ q24
  ·refine gi q24 ?_ ?_<;>intro _ q24
   ·obtain rfl:=nR bl2 q24;exact gb bk6 hd () trivial
   exact gN bl2 q24
  obtain rfl:=nR bl2 q24;exact gb bk6 hd () trivial
 obtain rfl:=AcO q20;refine bE hm ?_;intro _ hm;exact AcO hm▸gE
def Gj (a0:UInt64)(a1:UInt64)(a2:UInt64):Option UInt64:=if a2≠0 then Ab (H7 (a0%a2) a1 a2) fun x1=>some x1.2 else none
theorem KK {a0 a1 a2 r}(hm:Gj a0 a1 a2=some r):Sf prog 170 [.d (.u a0),.d (.u a1),.d (.u a2)] (.d (.u r)):=by
 refine sq ?_;intros;unfold Gj at hm;obtain⟨q1,hm⟩:=AR hm;refine XM (d:= .u a2) (r:= .u (a0%a2)) (fun h=>q1)<|gA hm KL fun _ q2 hm=> ?_;exact AcO hm▸gE
def CT (a0:UInt64)(a1:UInt64)(a2:UInt64):Option UInt64:=Ab (Gk a1 a2) fun x1=>Ab (Gj x1.1 x1.2 a0) fun x2=>some x2
theorem Ds {a0 a1 a2 r}(hm:CT a0 a1 a2=some r):Sf prog 115 [.d (.u a0),.d (.u a1),.d (.u a2)] (.d (.u r)):=by
 refine sq ?_;intros;refine gA hm HG fun _ q1 hm=>gA hm KK fun _ q2 hm=> ?_;exact AcO hm▸gE
def Iw {σ:Type}(p0:σ→Bool→Option (Bool×σ))(k0:UInt64)(s1:Int×σ):Option ((Int×σ)⊕((σ)⊕(UInt64×σ))):=if(decide (s1.1≥0))=true then if(0:Int)≤s1.1 then Ab (p0 s1.2 (((k0&&&(Nu 1 s1.1.toNat)).toNat:Int) !=0)) fun x4=>if(!x4.1)=true then some (.inr (.inr (k0,x4.2)))else some (.inl ((w64 (s1.1-1)),x4.2))else none else some (.inr (.inl s1.2))
def GI {σ:Type}(p0:σ→Bool→Option (Bool×σ))(k0:UInt64)(s0:σ):Option (UInt64×σ):=Ab (Gl k0) fun x1=>Ab (iter (Iw p0 k0) ET ((w64 (x1-1)),s0)) fun x2=>match x2 with| .inr r=>some r| .inl y1=>some (k0,y1)
theorem J8 {σ:Type}{p0:σ→Bool→Option (Bool×σ)}{k0 s0 r}(hm:GI p0 k0 s0=some r)(g:Value)(R:σ→Mem→Ow)(hcb:UH prog g (fun x=> [.d (.t x)]) R p0):Sp prog 215 [.ow 0,.pb 1 0] [.hp 0 (.cb g σ R s0),.box 1 [.d (.u k0)] 24] 2 (is (.tup []) [.hp 0 (.cb g σ R r.2),.box 1 [.d (.u r.1)] 24] 2):=by
 refine sq ?_;intros;refine gA hm HH fun _ q1 hm=>oB hm fun _ q2 hm=>gI q2 (fun(p_0,p_1)=>⟨[(0,.ow 0),(1,.pb 1 0),(3,.d (.i p_0))],[(0,.box 1 [.d (.u k0)] 24),(1,.hp 0 (.cb g σ R p_1))],[],2⟩) fun s1 _ Jl q5 bl1=>gi q5 ?_ ?_<;>intro _ q5
 ·obtain⟨q7,q5⟩:=AR q5;refine gsh (r:= .u (Nu 1 s1.1.toNat)) (fun h=>q7)<|oB q5 fun _ q8 q5=>gcb (((k0&&&(Nu 1 s1.1.toNat)).toNat:Int) !=0) hcb q8<|gi q5 ?_ ?_<;>intro _ q5
  ·obtain rfl:=nR bl1 q5;exact AcO hm▸gE
  exact gN bl1 q5
 obtain rfl:=nR bl1 q5;let y1:=s1.2;exact AcO hm▸gE
def H6 (a0:UInt64):Option UInt64:=some a0
theorem LQ {a0 r}(hm:H6 a0=some r):Sp prog 177 [.d (.u a0)] [] 0 (is (.fn (.func 215) [] [.pb 0 0]) [.box 0 [.d (.u r)] 24] 1):=by
 refine sq ?_;intros;exact AcO hm▸gE
def Dg (a1:UInt64)(b6:Bool)(s1:UInt64):Option (UInt64):=Ab (CT 2305843009213691579 s1 s1) fun x3=>if b6=true then Ab (CT 2305843009213691579 x3 a1) fun x4=>some x4 else some x3
def DR (a1:UInt64)(a2:UInt64):Option UInt64:=Ab (H6 a2) fun x1=>Ab (GI (fun(s:UInt64) (b0:Bool)=>Ab (Dg a1 b0 s) fun y=>some (true,y)) x1 1) fun x2=>some x2.2
theorem IG {a1 a2 r}(hm:DR a1 a2=some r):Sf prog 123 [.fn (.func 115) [.d (.u 2305843009213691579)] [],.d (.u a1),.d (.u a2)] (.d (.u r)):=
 spR call123 func123 rfl ntmps123 rfl fun D0 As η0 m0 hD hd=>by
  unfold DR at hm;refine gD hm LQ fun x1 q1 hm=>oB hm fun x2 q2 hm=>H8 hD (n0:=0) 4 4 [⟨3,3,24,[.d (.u x1)],[.d (.u x2.1)]⟩] (gt:=10) (ps:=[11]) [(3,.pb 0 0),(4,.pb 1 0),(7,.pb 2 0),(10,.fn (.func 215) [] [.pb 3 0])] (fun(y1:UInt64)=> [(0,.box 2 [.d (.u y1)] 24),(1,.box 1 [.d (.u a1)] 24),(2,.box 0 [.fn (.func 115) [.d (.u 2305843009213691579)] []] 125)]) (fun(_:Unit)=> []) (fun x=> [.d (.t x)]) (fun(s1:UInt64) (b6:Bool)=>⟨[(3,.pb 0 0),(4,.pb 1 0),(7,.pb 2 0),(8,.d (.t b6)),(10,.fn (.func 215) [] [.pb 3 0])],[(0,.box 2 [.d (.u s1)] 24),(1,.box 1 [.d (.u a1)] 24),(2,.box 0 [.fn (.func 115) [.d (.u 2305843009213691579)] []] 125)],[],4⟩) (pN fun x s=>Dg a1 x s) 1 hd (via Sum.inl hyN rfl fun g R h=>J8 q2 g R h) rfl (fun _=>rfl) (fun _=>rfl) (fun _=>rfl) (fun _=>rfl) ?_ ?_ ?_ ?_
  ·intro s1 b6 s' hp l D0 As η0 m0 hd Ja ba;exact gb ba hd () trivial
  ·intro s1 b6 s' hp l D0 As η0 m0 hd Jb bb Jr br;obtain⟨z1,q3,hp⟩:=AcU.1 hp;subst hp;unfold Dg at q3;refine gA q3 Ds fun x3 q4 q3=>gi q3 ?_ ?_<;>intro _ q3
   ·refine gA q3 Ds fun x4 q5 q3=> ?_;obtain rfl:=AcO q3;exact gb bb hd x4 rfl
   obtain rfl:=AcO q3;exact gb bb hd x3 rfl
  ·intro x hx;have hx:=Sum.inl.inj hx;subst hx;exact AcO hm▸gE
  intro y hy;cases hy
def Gi (a0:UInt64)(a1:UInt64):Option UInt64:=Ab (DR a0 a1) fun x1=>some x1
theorem HF {a0 a1 r}(hm:Gi a0 a1=some r):Sf prog 66 [.d (.u a0),.d (.u a1)] (.d (.u r)):=by
 refine sq ?_;intros;refine gA hm IG fun _ q1 hm=> ?_;exact AcO hm▸gE
def FD (a0:UInt64):Option UInt64:=Ab (Gi 4 a0) fun x1=>some x1
theorem GQ {a0 r}(hm:FD a0=some r):Sf prog 53 [.d (.u a0)] (.d (.u r)):=by
 refine sq ?_;intros;refine gA hm HF fun _ q1 hm=> ?_;exact AcO hm▸gE
def Fw (a0:UInt64):Option (UInt64×Int):=Ab (NB a0) fun x1=>if x1=true then some (0,1)else Ab (FD a0) fun x2=>some (x2,0)
theorem Ji {a0 r}(hm:Fw a0=some r):Sf prog 14 [.d (.u a0)] (.tup [.d (.u r.1),.d (.i r.2)]):=by
 refine sq ?_;intros;refine gA hm TY fun _ q1 hm=>gi hm ?_ ?_<;>intro _ hm
 ·exact AcO hm▸gE
 refine gA hm GQ fun _ q2 hm=> ?_;exact AcO hm▸gE
theorem Oq {m:Mem}{As:List Ow}{w:World}{a0:UInt64}{r:UInt64×Int}(S:St m As w)(hm:Fw a0=some r):
  A6 prog 14 #[vU a0] w fun v w'=> ∃(M:Mem),m≤M∧St M (As) w'∧v= .tuple #[vU r.1,vI r.2]:=by
 refine A6.mono ((Ji hm).2 none0 m As w [vU a0] (.cons (.d (.u _)) .nil) (fun n h=>absurd rfl h) S) ?_;rintro v w' ⟨M,η',r',obs',n1,hle,_,⟨rfl,rfl,rfl⟩,hdom,hR,S'⟩;obtain⟨us,rfl,hR0⟩:=hR.tup_inv;obtain⟨v0,u0,rfl,q0,hR1⟩:=RelL.cons_inv hR0;obtain⟨v1,u1,rfl,q1,hR2⟩:=RelL.cons_inv hR1;obtain rfl:=RelL.nil_inv hR2;obtain rfl:=q0.u_inv;obtain rfl:=q1.i_inv;exact⟨M,hle,S',rfl⟩
def O6 (a1:UInt64)(s1:(List UInt8)×Int):Option (((List UInt8)×Int)⊕((List UInt8))):=if(decide (s1.2≥0))=true then if(0:Int)≤(w64 (8*s1.2))then Ab (app 1 s1.1 ([(toB ((ID a1 ((w64 (8*s1.2)).toNat)).toNat:Int))]:List UInt8)) fun x4=>some (.inl (x4,(w64 (s1.2-1))))else none else some (.inr s1.1)
def Iq (a0:List UInt8)(a1:UInt64)(a2:Int):Option (List UInt8):=Ab (Ab (iter (O6 a1) ET (a0,(w64 (a2-1)))) fun x2=>some x2) fun x1=>some x1
theorem Nq {a0 a1 a2 r}(hm:Iq a0 a1 a2=some r):Sp prog 120 [.ow 0,.d (.u a1),.d (.i a2)] [.row 0 1 _ eB a0] 1 (is (.ow 1) [.row 1 1 _ eB r] 2):=by
 refine sq ?_;intros;unfold Iq at hm;obtain⟨x1,q1,hm⟩:=Ad hm;refine oB q1 fun x2 q2 q1=>gI q2 (fun(p_0,p_1)=>⟨[(0,.ow 1),(1,.d (.u a1)),(2,.d (.i p_1))],[(0,.row 1 1 _ eB p_0)],[],2⟩) fun s1 _ Jl q5 bl1=>gi q5 ?_ ?_<;>intro _ q5
 ·obtain⟨q7,q5⟩:=AR q5;exact gsh (r:= .u (ID a1 ((w64 (8*s1.2)).toNat))) (fun h=>q7)<|gq eB 1 [(toB ((ID a1 ((w64 (8*s1.2)).toNat)).toNat:Int))]<|oB q5 fun _ q8 q5=>gp eB 1 q8<|gN bl1 q5
 obtain rfl:=nR bl1 q5;let x2:=s1.1;obtain rfl:=AcO q1;exact AcO hm▸gE
def Fb {σ:Type}(p0:σ→(List UInt8)→Option (Bool×σ))(k0:List UInt8)(k1:Int)(s1:Int×σ):Option ((Int×σ)⊕((σ)⊕((List UInt8)×Int×σ))):=if(decide (s1.1<(k0.length:Int)))=true then Ab (cut k0 s1.1 (k0.length:Int)) fun x3=>Ab (cut k0 s1.1 (w64 (s1.1+(Tc k1 (x3.length:Int))))) fun x4=>Ab (p0 s1.2 x4) fun x5=>if(!x5.1)=true then some (.inr (.inr (k0,k1,x5.2)))else some (.inl ((w64 (s1.1+k1)),x5.2))else some (.inr (.inl s1.2))
def DE {σ:Type}(p0:σ→(List UInt8)→Option (Bool×σ))(k0:List UInt8)(k1:Int)(s0:σ):Option ((List UInt8)×Int×σ):=Ab (iter (Fb p0 k0 k1) ET (0,s0)) fun x1=>match x1 with| .inr r=>some r| .inl y1=>some (k0,k1,y1)
theorem F7 {σ:Type}{p0:σ→(List UInt8)→Option (Bool×σ)}{k0 k1 s0 r}(hm:DE p0 k0 k1 s0=some r)(g:Value)(R:σ→Mem→Ow)(hcb:UH prog g (fun x=> [sl eB x]) R p0):Sp prog 238 [.ow 0,.pb 1 0,.pb 2 0] [.hp 0 (.cb g σ R s0),.box 1 [sl eB k0] 22,.box 2 [.d (.i k1)] 3] 3 (is (.tup []) [.hp 0 (.cb g σ R r.2.2),.box 1 [.d (.sl _ eB r.1)] 22,.box 2 [.d (.i r.2.1)] 3] 3):=by
 refine sq ?_;intros;refine oB hm fun _ q1 hm=>gI q1 (fun(p_0,p_1)=>⟨[(0,.ow 0),(1,.pb 1 0),(2,.pb 2 0),(4,.d (.i p_0))],[(0,.box 1 [sl eB k0] 22),(1,.box 2 [.d (.i k1)] 3),(2,.hp 0 (.cb g σ R p_1))],[],3⟩) fun s1 _ Jl q4 bl1=>gi q4 ?_ ?_<;>intro _ q4
 ·refine oB q4 fun _ q6 q4=>gk eB 1 q6<|oB q4 fun x4 q7 q4=>gk eB 1 q7<|oB q4 fun _ q8 q4=>gcb x4 hcb q8<|gi q4 ?_ ?_<;>intro _ q4
  ·obtain rfl:=nR bl1 q4;exact AcO hm▸gE
  exact gN bl1 q4
 obtain rfl:=nR bl1 q4;let y1:=s1.2;exact AcO hm▸gE
def DY (a0:List UInt8)(a1:Int):Option ((List UInt8)×Int):=Ab (if(decide (a1<1))=true then none else some ()) fun x1=>some (a0,a1)
theorem Gz {a0 a1 r}(hm:DY a0 a1=some r):Sp prog 209 [sl eB a0,.d (.i a1)] [] 0 (is (.fn (.func 238) [] [.pb 0 0,.pb 1 0]) [.box 0 [sl eB r.1] 22,.box 1 [.d (.i r.2)] 3] 2):=by
 refine sq ?_;intros;refine oB hm fun _ q1 hm=>gi q1 (fun hc1 q1=> ?_) fun hc1 q1=> ?_
 ·cases q1
 obtain rfl:=AcO q1;exact AcO hm▸gE
def JF (b5:List UInt8)(i1:Int)(s2:UInt64):Option (UInt64):=Ab (idx b5 (i1:Int)) fun x6=>if(0:Int)≤(w64 (8*(i1:Int)))then bnd ((s2|||(Nu (toU (x6.toNat:Int)) ((w64 (8*(i1:Int))).toNat)))) fun x7=>some x7 else none
def G4 (b5:List UInt8)(s1:(List UInt64)):Option ((List UInt64)):=Ab (Ab (C8 (JF b5) b5.length 0 0) fun x4=>some x4) fun x3=>Ab (app 8 s1 ([x3]:List UInt64)) fun x8=>some x8
def Kp (a0:List UInt8):Option (List UInt64):=Ab (DY a0 7) fun x1=>Ab (DE (fun(s:(List UInt64)) (b0:List UInt8)=>Ab (G4 b0 s) fun y=>some (true,y)) x1.1 x1.2 ([]:List UInt64)) fun x2=>some x2.2.2
theorem T6 {a0 r}(hm:Kp a0=some r):Sp prog 174 [sl eB a0] [] 0 (is (.ow 0) [.row 0 1 _ eU r] 1):=
 spR call174 func174 rfl ntmps174 rfl fun D0 As η0 m0 hD hd=>by
  unfold Kp at hm;refine gD hm Gz fun x1 q1 hm=>oB hm fun x2 q2 hm=>gnilB eU 3 0 1<|H8 hD (n0:=0) 3 4 [⟨2,1,22,[sl eB x1.1],[sl eB x2.1]⟩,⟨3,2,3,[.d (.i x1.2)],[.d (.i x2.2.1)]⟩] (gt:=9) (ps:=[10]) [(3,.pb 0 0),(9,.fn (.func 238) [] [.pb 1 0,.pb 2 0])] (fun(y2:(List UInt64))=> [(0,.row 3 1 _ eU y2),(1,.box 0 [.ow 3] 238)]) (fun(_:Unit)=> []) (fun x=> [sl eB x]) (fun(s1:(List UInt64)) (b5:List UInt8)=>⟨[(3,.pb 0 0),(4,sl eB b5),(9,.fn (.func 238) [] [.pb 1 0,.pb 2 0])],[(0,.row 3 1 _ eU s1),(1,.box 0 [.ow 3] 238)],[],4⟩) (pN fun x s=>G4 x s) ([]:List UInt64) hd (via Sum.inl hyN rfl fun g R h=>F7 q2 g R h) rfl (fun _=>rfl) (fun _=>rfl) (fun _=>rfl) (fun _=>rfl) ?_ ?_ ?_ ?_
  ·intro s1 b5 s' hp l D0 As η0 m0 hd Ja ba;exact gb ba hd () trivial
  ·intro s1 b5 s' hp l D0 As η0 m0 hd Jb bb Jr br;obtain⟨z1,q3,hp⟩:=AcU.1 hp;subst hp;unfold G4 at q3;obtain⟨x3,q4,q3⟩:=Ad q3;refine oB q4 fun x4 q5 q4=>JR 2 (E:=eB) (xs:=b5) 11 fun hle1=>gF (EM _ _ _) q5 (fun p0 p=>⟨[(3,.pb 0 0),(5,.d (.u p)),(9,.fn (.func 238) [] [.pb 1 0,.pb 2 0]),(11,sl eB b5),(12,.d (.i (b5.length:Int))),(13,.d (.i p0))],[(0,.row 3 1 _ eU s1),(1,.box 0 [.ow 3] 238)],[],4⟩) fun i1 s2 Jl bl1=>cM bl1 (b5.length:Int) (fun _ q8 bl1=> ?_) fun e=> ?_
   ·unfold JF at q8;refine oB q8 fun x6 q10 q8=>gx eB 1 q10 ?_;obtain⟨q11,q8⟩:=AR q8;refine gsh (r:= .u (Nu (toU (x6.toNat:Int)) ((w64 (8*(i1:Int))).toNat))) (fun h=>q11)<|bE q8 ?_;intro _ q8;exact gM bl1 hle1 q8
   subst e;obtain rfl:=AcO q4;let x3:=x4;refine gq eU 1 [x3]<|oB q3 fun x8 q13 q3=>gp eU 1 q13 ?_;obtain rfl:=AcO q3;exact gb bb hd x8 rfl
  ·intro x hx;have hx:=Sum.inl.inj hx;subst hx;exact AcO hm▸gE
  intro y hy;cases hy
def H0 (a0:UInt64)(a1:UInt64):Option UInt64:=bnd (((a1&&&2305843009213693951)+((Nu a0 3)|||(ID a1 61)))) fun x1=>bnd (((x1&&&2305843009213693951)+(ID x1 61))) fun x2=>Ab (if(decide ((x2.toNat:Int)≥2305843009213693951))=true then some (x2-2305843009213693951)else some x2) fun x3=>some x3
theorem KJ {a0 a1 r}(hm:H0 a0 a1=some r):Sf prog 239 [.d (.u a0),.d (.u a1)] (.d (.u r)):=by
 refine sq fun D0 As η0 m0 hd=>bE hm ?_;intro _ hm;refine bE hm ?_;intro _ hm;refine oB hm fun x3 q3 hm=>gj (fun(_:Unit)=>⟨[(5,.d (.u x3))],[],[],0⟩) (fun _=>True) (fun Jp bk1=> ?_) fun _ _=> ?_
 ·refine gi q3 ?_ ?_<;>intro _ q3
  ·obtain rfl:=AcO q3;exact gb bk1 hd () trivial
  obtain rfl:=AcO q3;exact gb bk1 hd () trivial
 exact AcO hm▸gE
def EE (a0:UInt64):Option UInt64:=Ab (H0 0 a0) fun x1=>some x1
theorem FN {a0 r}(hm:EE a0=some r):Sf prog 210 [.d (.u a0)] (.d (.u r)):=by
 refine sq ?_;intros;refine gA hm KJ fun _ q1 hm=> ?_;exact AcO hm▸gE
def F3 (a0:UInt64)(a1:UInt64):Option UInt64:=Ab (EE a0) fun x1=>Ab (EE a1) fun x2=>Ab (EE (x1+x2)) fun x3=>some x3
theorem GP {a0 a1 r}(hm:F3 a0 a1=some r):Sf prog 175 [.d (.u a0),.d (.u a1)] (.d (.u r)):=by
 refine sq ?_;intros;refine gA hm FN fun _ q1 hm=>gA hm FN fun _ q2 hm=>gA hm FN fun _ q3 hm=> ?_;exact AcO hm▸gE
def IZ (a0:UInt64)(a1:UInt64):Option UInt64:=Ab (EE a0) fun x1=>Ab (EE a1) fun x2=>Ab (Gk x1 x2) fun x3=>Ab (H0 x3.1 x3.2) fun x4=>some x4
theorem LM {a0 a1 r}(hm:IZ a0 a1=some r):Sf prog 240 [.d (.u a0),.d (.u a1)] (.d (.u r)):=by
 refine sq ?_;intros;refine gA hm FN fun _ q1 hm=>gA hm FN fun _ q2 hm=>gA hm HG fun _ q3 hm=>gA hm KJ fun _ q4 hm=> ?_;exact AcO hm▸gE
def IX (i1:Int)(s1:UInt64):Option (UInt64):=Ab (IZ s1 s1) fun x4=>some x4
def Ff (a0:UInt64):Option UInt64:=Ab (Ab (C8 IX 4 0 a0) fun x2=>some x2) fun x1=>Ab (IZ a0 x1) fun x5=>some x5
theorem K3 {a0 r}(hm:Ff a0=some r):Sf prog 213 [.d (.u a0)] (.d (.u r)):=by
 refine sq ?_;intros;unfold Ff at hm;obtain⟨x1,q1,hm⟩:=Ad hm;refine oB q1 fun _ q2 q1=>gF (EM _ 4 _) q2 (fun p0 p=>⟨[(0,.d (.u a0)),(3,.d (.u p)),(5,.d (.i p0))],[],[],0⟩) fun i1 s1 Jl bl1=>cM bl1 (4:Int) (fun _ q5 bl1=> ?_) fun e=> ?_
 ·exact gA q5 LM fun _ q7 q5=>gM bl1 lk q5
 subst e;obtain rfl:=AcO q1;refine gA hm LM fun _ q8 hm=> ?_;exact AcO hm▸gE
def KQ (a0:Int)(a1:UInt64)(k0:Int)(k1:UInt64):Option (UInt64×Int×UInt64):=bnd ((toU (w64 ((w64 ((w64 (3*k0))+a0))+1)))) fun x1=>Ab (F3 a1 (((x1*x1)*x1)+7)) fun x2=>Ab (Ff x2) fun x3=>Ab (F3 k1 x3) fun x4=>some (x3,k0,x4)
theorem PZ {a0 a1 k0 k1 r}(hm:KQ a0 a1 k0 k1=some r):Sp prog 212 [.d (.i a0),.d (.u a1),.pb 0 0,.pb 1 0] [.box 0 [.d (.i k0)] 3,.box 1 [.d (.u k1)] 24] 2 (is (.d (.u r.1)) [.box 0 [.d (.i r.2.1)] 3,.box 1 [.d (.u r.2.2)] 24] 2):=by
 refine sq ?_;intros;refine bE hm ?_;intro _ hm;refine gA hm GP fun _ q2 hm=>gA hm K3 fun _ q3 hm=>gA hm GP fun _ q4 hm=> ?_;exact AcO hm▸gE
def KP (a0:Int)(a1:UInt64)(k0:UInt64):Option (UInt64×UInt64):=Ab (F3 a1 k0) fun x1=>some (x1,k0)
theorem PY {a0 a1 k0 r}(hm:KP a0 a1 k0=some r):Sp prog 214 [.d (.i a0),.d (.u a1),.pb 0 0] [.box 0 [.d (.u k0)] 24] 1 (is (.d (.u r.1)) [.box 0 [.d (.u r.2)] 24] 1):=by
 refine sq ?_;intros;refine gA hm GP fun _ q1 hm=> ?_;exact AcO hm▸gE
def Gv (i1:Int)(s1:UInt64×UInt64×UInt64×Int×UInt64):Option (UInt64×UInt64×UInt64×Int×UInt64):=Ab (idx [s1.1,s1.2.1,s1.2.2.1] (i1:Int)) fun x3=>Ab (KQ (i1:Int) x3 s1.2.2.2.1 s1.2.2.2.2) fun x4=>Ab (idx [s1.1,s1.2.1,s1.2.2.1] (i1:Int)) fun x5=>bnd (if(i1:Int)=0 then x4.1 else s1.1) fun x6=>bnd (if(i1:Int)=1 then x4.1 else s1.2.1) fun x7=>bnd (if(i1:Int)=2 then x4.1 else s1.2.2.1) fun x8=>some (x6,x7,x8,x4.2.1,x4.2.2)
def Ex (a0:UInt64×UInt64×UInt64)(k0:Int)(k1:UInt64):Option ((UInt64×UInt64×UInt64)×Int×UInt64):=Ab (C8 Gv 3 0 (a0.1,a0.2.1,a0.2.2,k0,k1)) fun x1=>some ((x1.1,x1.2.1,x1.2.2.1),x1.2.2.2.1,x1.2.2.2.2)
theorem Ho {a0 k0 k1 r}(hm:Ex a0 k0 k1=some r):Sp prog 211 [.pb 0 0,.fn (.func 212) [] [.pb 1 0,.pb 2 0]] [.box 0 [.d (.u a0.1),.d (.u a0.2.1),.d (.u a0.2.2)] 273,.box 1 [.d (.i k0)] 3,.box 2 [.d (.u k1)] 24] 3 (is (.tup []) [.box 0 [.d (.u r.1.1),.d (.u r.1.2.1),.d (.u r.1.2.2)] 273,.box 1 [.d (.i r.2.1)] 3,.box 2 [.d (.u r.2.2)] 24] 3):=by
 refine sq ?_;intros;refine oB hm fun _ q1 hm=>gF (EM _ 3 _) q1 (fun p0 (p_0,p_1,p_2,p_3,p_4)=>⟨[(0,.pb 0 0),(1,.fn (.func 212) [] [.pb 1 0,.pb 2 0]),(6,.pb 0 0),(7,.d (.i p0))],[(0,.box 0 [.d (.u p_0),.d (.u p_1),.d (.u p_2)] 273),(1,.box 1 [.d (.i p_3)] 3),(2,.box 2 [.d (.u p_4)] 24)],[],3⟩) fun i1 s1 Jl bl1=>cM bl1 (3:Int) (fun _ q4 bl1=> ?_) fun e=> ?_
 ·refine oB q4 fun _ q6 q4=>R2 (fun _=>q6)<|gldA D.u (fun _=>q6)<|gD q4 PZ fun x4 q7 q4=>oB q4 fun _ q8 q4=>R2 (fun _=>q8)<|bE q4 ?_;intro _ q4;refine bE q4 ?_;intro _ q4;refine bE q4 ?_;intro _ q4;exact gstA D.u x4.1 q8<|gM bl1 lk q4
 subst e;exact AcO hm▸gE
end Go.Proofs.YtflnolcabkandaaGreatDoor
