/- The walks of some functions, by the executor, written by program. Conditions: none. -/
import Derived.Test.YtflnolcabkandaaGreatDoorZj
import Derived.Test.YtflnolcabkandaaGreatDoorZk
set_option linter.unusedSimpArgs false
set_option linter.unusedVariables false
set_option maxHeartbeats 20000000
set_option maxRecDepth 100000
namespace Go.Proofs.YtflnolcabkandaaGreatDoor
open Go Go.Gw Go.Ax Tryz Go.RowKit
attribute [local irreducible] Go.Ax.Go
def Fa (i1:Int)(x2:ByteArray)(s1:Int):Option ((Int)⊕Bool):=if(decide ((w64 (s1+(x2.size:Int)))>1000))=true then some (.inr false)else some (.inl (w64 (s1+(x2.size:Int))))
def Fu (a0:AG):Option Bool:=Ab (Lg Fa a0.Names 0 0) fun x1=>match x1 with| .inr r=>some r| .inl y1=>bnd ((decide ((a0.Names.length:Int)≤20))) fun x3=>some x3
theorem N2 {a0 r}(hm:Fu a0=some r):Sf prog 5 [ag (DB a0)] (.d (.t r)):=by
 refine sq ?_;intros;refine oB hm fun _ q1 hm=>JR 0 (E:=eS) (xs:=a0.Names) 7 fun hle1=>gF (ER _ _ _) q1 (fun p0 p=>⟨[(1,.pb 0 0),(3,.d (.i p)),(7,sl eS a0.Names),(8,.d (.i (a0.Names.length:Int))),(9,.d (.i p0))],[(0,.box 0 [.d (.i a0.Account),sl eS a0.Names,.d (.u a0.Key),.d (.i a0.Life)] 26)],[],1⟩) fun i1 s1 Jl bl1=>cR bl1 (fun _ _ q5 q4 bl1=> ?_) fun e=> ?_
 ·refine gx eS 1 q5<|gi q4 ?_ ?_<;>intro _ q4
  ·obtain rfl:=nT bl1 q4;exact AcO hm▸gE
  exact gT bl1 hle1 q4
 subst e;let y1:=s1;refine bE hm ?_;intro _ hm;exact AcO hm▸gE
def tru (o:List (Int×Int)):List ((Int×Int)×Bool):=o.map fun q=>(q,true)
theorem Wu {p:Int×Int→Bool}: ∀o:List (Int×Int),(lkG p (tru o)).getD false=o.any p
 | []=>rfl
 |a::o=>by
  show(lkG p ((a,true)::tru o)).getD false=_;simp only[lkG,List.any_cons];cases p a
  ·simpa using Wu o
  ·rfl
theorem AbF {p:Int×Int→Bool}{o:List (Int×Int)}(h:o.any p=false):Ix p (tru o) 0=none:=by
 have e:=DN (p:=p) (kv:=tru o) (i:=0);cases hq:Ix p (tru o) 0 with
 |none=>rfl
 |some q=>
  rw[hq]at e;have:=Wu (p:=p) o;rw[←e,h]at this;obtain⟨j,v⟩:=q;obtain⟨k,y,_,h2,_,h4,_⟩:=F4 hq;simp only[tru,Ac9]at h2;obtain⟨z,_,rfl⟩:=AcU.1 h2;cases h4;cases this
theorem h8_14' (n nb:Nat)(i k:Int)(o:List (Int×Int)):Hc prog 69 (Kj f8 (EH 14)) [(11,.d (.i i)),(6,.d (.i k)),(4,.ow n),(12,.pb nb 0)] [mgP n (tru o),.box nb [.d (.i i),.d (.i k)] 91] [40,41,42,43,44,45,46,47,48] (fun _:Unit=>True)
  (fun _=> [(48,.d (.t (i !=k&& !(o.any (eqP (i,k))))))]) (fun _=> [mgP n (tru o),.box nb [.d (.i i),.d (.i k)] 91]):=by
 have:=h8_14 n nb i k (tru o);rw[Wu]at this;exact this
theorem h8_15' (n nb:Nat)(i k:Int)(o o':List (Int×Int))(h:o.any (eqP (i,k))=false)(e:o'=o++[(i,k)]):Hc prog 69 (Kj f8 (EH 15)) [(4,.ow n),(12,.pb nb 0)] [mgP n (tru o),.box nb [.d (.i i),.d (.i k)] 91] [49,50] (fun _:Unit=>True)
  (fun _=> []) (fun _=> [mgP n (tru o'),.box nb [.d (.i i),.d (.i k)] 91]):=by
 have:=h8_15 n nb i k (tru o) (AbF h);have e2:tru o++[((i,k),true)]=tru o':=by rw[e]; simp[tru]
 rw[e2]at this;exact this
def Cj (k:Int)(_:Int)(x:Int)(o:List (Int×Int)):Option (List (Int×Int)):=if(x !=k&& !(o.any (eqP (x,k))))=true then Ab (app 16 o [(x,k)]) fun o'=>some o' else some o
def CS (k:Int)(_:Int)(p:ByteArray)(s:List (ByteArray×List Int)×List (Int×Int)):Option (List (ByteArray×List Int)×List (Int×Int)):=Ab (Iz (Cj k) ((lkG (eqS p) s.1).getD []) 0 s.2) fun o=>Ab (app 8 ((lkG (eqS p) s.1).getD []) [k]) fun zs=>some (upG (eqS p) (p,zs) s.1,o)
def Dx (a0:List g_api_Rule)(k:Int)(s:List (ByteArray×List Int)×List (Int×Int)):Option (List (ByteArray×List Int)×List (Int×Int)):=Ab (idx a0 k) fun r=>Ab (Iz (CS k) r.Pats 0 s) fun y=>some y
def BJ (a0:List g_api_Rule):Option (List (Int×Int)):=Ab (C8 (Dx a0) a0.length 0 ([],[])) fun s=>Ab (ED s.2) fun r=>some r
theorem cv_by {η:Env}{m:Mem}{n:Nat}{h:PH}(r:rep η m (.hp n (.mg ByteArray Int eS D.i [])) h):rep η m (.hp n (.sp VM (AcN []))) h:=
 let ⟨b,e,q⟩:=r
 ⟨b,e,[],rfl,h,PH.emp,q,rfl,PH.disj_emp h,(PH.join_emp h).symm⟩
theorem Gp {a0:List g_api_Rule}{r:List (Int×Int)}(hm:BJ a0=some r):Sp prog 8 [sl Ac a0] [] 0 (is (.ow 2) [.row 2 2 (Int×Int) eP r] 3):=by
 refine sq fun D0 As η0 m0 hd=> ?_;unfold BJ at hm;refine gmkg ByteArray Int eS D.i<|gcv (EH 2) 0 (.hp 0 (.sp VM (AcN []))) (fun _ _ _=>cv_by)<|gmkg (Int×Int) Bool K2 D.t ?_;refine oB hm fun s q1 hm=>JR 0 (E:=Ac) (xs:=a0) 15 fun hle1=>gnilU 0 eP 5 2<|gF (EM _ _ _) q1 (fun p0 p=>⟨[(3,.ow 0),(4,.ow 1),(5,.ow 2),(15,sl Ac a0),(16,.d (.i (a0.length:Int))),(17,.d (.i p0))],[(0,.hp 0 (.sp VM (AcN p.1))),(1,mgP 1 (tru p.2)),(2,.row 2 2 (Int×Int) eP p.2)],[],3⟩) fun i1 s1 Jl bl1=>cM bl1 (a0.length:Int) (fun _ q5 bl1=> ?_) fun e=> ?_
 ·unfold Dx at q5;refine oB q5 fun x5 q7 q5=>gx Ac 7 q7<|oB q5 fun y5 q9 q5=>JR 2 (E:=eS) (xs:=x5.Pats) 23 fun hle2=>gF (E0 _ _ _) q9 (fun p0 p=>⟨[(3,.ow 0),(4,.ow 1),(5,.ow 2),(6,.d (.i (i1:Int))),(15,sl Ac a0),(16,.d (.i (a0.length:Int))),(17,.d (.i (i1:Int))),(23,sl eS x5.Pats),(24,.d (.i (x5.Pats.length:Int))),(25,.d (.i p0))],[(0,.hp 0 (.sp VM (AcN p.1))),(1,mgP 1 (tru p.2)),(2,.row 2 2 (Int×Int) eP p.2)],[],3⟩) fun i2 s2 Jl bl2=>c0 bl2 (fun x7 _ q13 q12 bl2=> ?_) fun e=> ?_
  ·unfold CS at q12;refine oB q12 fun o q15 q12=>oB q12 fun zs q16 q12=>gx eS 1 q13<|ghc (EH 10) [0] (h8_10 0 x7 s2.1) fun es hes=> ?_;have hz:(lkG (eqS x7) s2.1).getD []=zat es x7:=by rw[Zn,hes]
   have hle3:((lkG (eqS x7) s2.1).getD []).length≤9223372036854775807:=by
    have:=(AR q16).1.2;omega
   refine gF (E0 _ _ _) q15 (fun p0 p=>⟨[(3,.ow 0),(4,.ow 1),(5,.ow 2),(6,.d (.i (i1:Int))),(9,.d (.s x7)),(15,sl Ac a0),(16,.d (.i (a0.length:Int))),(17,.d (.i (i1:Int))),(23,sl eS x5.Pats),(24,.d (.i (x5.Pats.length:Int))),(25,.d (.i (i2:Int))),(31,.d (.v (vat es x7))),(32,.d (.i (((lkG (eqS x7) s2.1).getD []).length:Int))),(33,.d (.i p0))],[(0,.hp 0 (.sp VM (AcM es))),(1,mgP 1 (tru p)),(2,.row 2 2 (Int×Int) eP p)],[],3⟩) fun i3 s3 Jl bl3=>c0 bl3 (fun x9 _ q18 q17 bl3=> ?_) fun e=> ?_
   ·unfold Cj at q17;refine ghc (EH 12) [0] (h8_12 0 x7 es i3 x9 (hz▸q18)) fun _ _=>ghc (EH 14) [1,3] (h8_14' 1 3 x9 i1 s3) fun _ _=>gi q17 ?_ ?_<;>intro hc q17
    ·refine oB q17 fun o' q19 q17=>ghc (EH 15) [1,3] (h8_15' 1 3 x9 i1 s3 o' (by cases h:s3.any (eqP (x9,(i1:Int)))with|false=>rfl|true=>rw[h]at hc; simp at hc) ((AcO (AR q19).2).symm)) fun _ _=>gq eP 2 [(x9,(i1:Int))]<|gp eP 2 q19 ?_;exact gM bl3 hle3 q17
    ·exact gM bl3 hle3 q17
   ·subst e;refine ghc (EH 18) [0] (h8_18 0 x7 es i1 zs (hz▸q16)) fun _ _=> ?_;rw[hes];exact gM bl2 hle2 q12
  ·subst e;exact gM bl1 hle1 q5
 ·subst e;refine oB hm fun r' q2 hm=>gco (J5 q2) ?_;exact AcO hm▸gE
def CO (a0:Int)(a1:Int)(a2:Int):Option Bool:=bnd (((decide (a1≤a0))&&(decide (a0≤a2)))) fun x1=>some x1
theorem Eb {a0 a1 a2 r}(hm:CO a0 a1 a2=some r):Sf prog 154 [.d (.i a0),.d (.i a1),.d (.i a2)] (.d (.t r)):=by
 refine sq ?_;intros;refine bE hm ?_;intro _ hm;exact AcO hm▸gE
def DM (a0:g_api_Rule)(i1:Int)(s1:Unit):Option ((Unit)⊕Bool):=Ab (idx a0.Pats (i1:Int)) fun x3=>Ab (B7 x3) fun x4=>Ab (gu (!(x4 !=0)) (cut a0.Pats 0 (i1:Int))) fun x5=>Ab (gu (!(x4 !=0)) (AB x5 x3)) fun x6=>if((x4 !=0)||x6)=true then some (.inr false)else some (.inl ())
def Fx (a0:g_api_Rule):Option Bool:=Ab (E6 (DM a0) a0.Pats.length 0 ()) fun x1=>match x1 with| .inr r=>some r| .inl y1=>Ab (gu (decide ((a0.KeyMin.toNat:Int)≤2305843009213691579)) (CO a0.LifeMax 1 1000)) fun x7=>Ab (gu ((decide ((a0.KeyMin.toNat:Int)≤2305843009213691579))&&x7) (CO a0.Most 0 1000)) fun x8=>bnd ((((decide ((a0.KeyMin.toNat:Int)≤2305843009213691579))&&x7)&&x8)) fun x9=>Ab (if(decide (a0.Most>0))=true then Ab (gu x9 (CO a0.Window 1 1099511627776)) fun x11=>some (x9&&x11)else some (x9&&(a0.Window==0))) fun x10=>Ab (if(!a0.Allow)=true then bnd ((((((a0.KeyMin.toNat:Int)==0)&&(a0.LifeMax==0))&&(a0.Most==0))&&(a0.Window==0))) fun x13=>some x13 else some x10) fun x12=>Ab (Dp a0.Name) fun x14=>Ab (gu x14 (CO (a0.Pats.length:Int) 1 8)) fun x15=>some ((x14&&x15)&&x12)
theorem N5 {a0 r}(hm:Fx a0=some r):Sf prog 97 [ag (Ac a0)] (.d (.t r)):=by
 refine sq fun D0 As η0 m0 hd=>oB hm fun _ q1 hm=>JR 0 (E:=eS) (xs:=a0.Pats) 8 fun hle1=>gF (EN _ _ _) q1 (fun p0 _=>⟨[(1,.pb 0 0),(8,sl eS a0.Pats),(9,.d (.i (a0.Pats.length:Int))),(10,.d (.i p0))],[(0,.box 0 [.d (.s a0.Name),.d (.t a0.Allow),sl eS a0.Pats,.d (.u a0.KeyMin),.d (.i a0.LifeMax),.d (.i a0.Most),.d (.i a0.Window)] 68)],[],1⟩) fun i1 s1 Jl bl1=>cN bl1 (a0.Pats.length:Int) (fun _ q4 bl1=> ?_) fun e=> ?_
 ·refine oB q4 fun _ q6 q4=>gx eS 1 q6<|gA q4 FM fun _ q7 q4=>oB q4 fun _ q8 q4=>gcutG (k:=1) (E:=eS) (fun _=>rfl) (fun h=>YM h q8)<|oB q4 fun _ q9 q4=>gcH q9 CJ<|gi q4 ?_ ?_<;>intro _ q4
  ·obtain rfl:=nT bl1 q4;exact AcO hm▸gE
  exact gT bl1 hle1 q4
 subst e;refine oB hm fun _ q10 hm=>gcH q10 Eb<|oB hm fun _ q11 hm=>gcH q11 Eb<|bE hm ?_;intro _ hm;refine oB hm fun x10 q13 hm=>gj (fun(_:Unit)=>⟨[(1,.pb 0 0),(5,.fn (.func 154) [] []),(6,.d (.t x10))],[(0,.box 0 [.d (.s a0.Name),.d (.t a0.Allow),sl eS a0.Pats,.d (.u a0.KeyMin),.d (.i a0.LifeMax),.d (.i a0.Most),.d (.i a0.Window)] 68)],[],1⟩) (fun _=>True) (fun Jp bk2=> ?_) fun _ _=> ?_
 ·refine gi q13 ?_ ?_<;>intro _ q13
  ·refine oB q13 fun _ q14 q13=>gcH q14 Eb ?_;obtain rfl:=AcO q13;exact gb bk2 hd () trivial
  obtain rfl:=AcO q13;exact gb bk2 hd () trivial
 refine oB hm fun x12 q15 hm=>gj (fun(_:Unit)=>⟨[(1,.pb 0 0),(5,.fn (.func 154) [] []),(6,.d (.t x12))],[(0,.box 0 [.d (.s a0.Name),.d (.t a0.Allow),sl eS a0.Pats,.d (.u a0.KeyMin),.d (.i a0.LifeMax),.d (.i a0.Most),.d (.i a0.Window)] 68)],[],1⟩) (fun _=>True) (fun Jp bk3=> ?_) fun _ _=> ?_
 ·refine gi q15 ?_ ?_<;>intro _ q15
  ·refine bE q15 ?_;intro _ q15;obtain rfl:=AcO q15;exact gb bk3 hd () trivial
  obtain rfl:=AcO q15;exact gb bk3 hd () trivial
 refine gA hm KC fun _ q17 hm=>oB hm fun _ q18 hm=>gcH q18 Eb ?_;exact AcO hm▸gE
def FY (i1:Int)(x2:g_api_Rule)(s1:(List (ByteArray×Bool))):Option (((List (ByteArray×Bool)))⊕Int):=Ab (Fx x2) fun x3=>if((!x3)||(lkB s1 x2.Name))=true then some (.inr 1)else if(lkI s1 x2.Name 0).isNone=true then some (.inl (s1++[(x2.Name,true)]))else none
def E1 (a0:List g_api_Rule):Option Int:=Ab (Lg FY a0 0 ([]:List (ByteArray×Bool))) fun x1=>match x1 with| .inr r=>some r| .inl y1=>if(decide ((a0.length:Int)>32))=true then some 2 else some 0
theorem KD {a0 r}(hm:E1 a0=some r):Sf prog 34 [sl Ac a0] (.d (.i r)):=by
 refine sq ?_;intros;refine gmkm<|oB hm fun _ q1 hm=>JR 0 (E:=Ac) (xs:=a0) 7 fun hle1=>gF (ER _ _ _) q1 (fun p0 p=>⟨[(0,sl Ac a0),(3,.ow 0),(7,sl Ac a0),(8,.d (.i (a0.length:Int))),(9,.d (.i p0)),(6,.ow 0)],[(0,.hp 0 (.mp p))],[],1⟩) fun i1 s1 Jl bl1=>cR bl1 (fun x2 _ q5 q4 bl1=> ?_) fun e=> ?_
 ·refine gx Ac 7 q5<|gA q4 N5 fun _ q6 q4=>glk s1 x2.Name<|gi q4 ?_ ?_<;>intro _ q4
  ·obtain rfl:=nT bl1 q4;exact AcO hm▸gE
  obtain⟨q7,q4⟩:=AR q4;exact gup q7<|gT bl1 hle1 q4
 subst e;let y1:=s1;refine gi hm ?_ ?_<;>intro _ hm
 ·exact AcO hm▸gE
 exact AcO hm▸gE
def DK (a0:List g_api_Rule):Option Int:=Ab (E1 a0) fun x1=>if(x1 !=0)=true then some x1 else Ab (BJ a0) fun x2=>if(decide ((x2.length:Int)>0))=true then some 160 else some 0
theorem IB {a0 r}(hm:DK a0=some r):Sf prog 26 [sl Ac a0] (.d (.i r)):=by
 refine sq ?_;intros;refine gA hm KD fun _ q1 hm=>gi hm ?_ ?_<;>intro _ hm
 ·exact AcO hm▸gE
 refine gD hm Gp fun _ q2 hm=>gi hm ?_ ?_<;>intro _ hm
 ·exact AcO hm▸gE
 exact AcO hm▸gE
def An {σ:Type}(p0:σ→(Int×ByteArray)→Option (Bool×σ))(k0:List ByteArray)(s1:Int×σ):Option ((Int×σ)⊕((σ)⊕((List ByteArray)×σ))):=if(decide (s1.1≥0))=true then Ab (idx k0 s1.1) fun x4=>Ab (p0 s1.2 (s1.1,x4)) fun x5=>if(!x5.1)=true then some (.inr (.inr (k0,x5.2)))else some (.inl ((w64 (s1.1-1)),x5.2))else some (.inr (.inl s1.2))
def A4 {σ:Type}(p0:σ→(Int×ByteArray)→Option (Bool×σ))(k0:List ByteArray)(s0:σ):Option ((List ByteArray)×σ):=bnd ((w64 ((k0.length:Int)-1))) fun x1=>Ab (iter (An p0 k0) ET (x1,s0)) fun x2=>match x2 with| .inr r=>some r| .inl y1=>some (k0,y1)
theorem D9 {σ:Type}{p0:σ→(Int×ByteArray)→Option (Bool×σ)}{k0 s0 r}(hm:A4 p0 k0 s0=some r)(g:Value)(R:σ→Mem→Ow)(hcb:UH prog g (fun x=> [.d (.i x.1),.d (.s x.2)]) R p0):Sp prog 141 [.ow 0,.pb 1 0] [.hp 0 (.cb g σ R s0),.box 1 [sl eS k0] 23] 2 (is (.tup []) [.hp 0 (.cb g σ R r.2),.box 1 [.d (.sl _ eS r.1)] 23] 2):=by
 refine sq ?_;intros;refine bE hm ?_;intro _ hm;refine oB hm fun _ q2 hm=>gI q2 (fun(p_0,p_1)=>⟨[(0,.ow 0),(1,.pb 1 0),(3,.d (.i p_0))],[(0,.box 1 [sl eS k0] 23),(1,.hp 0 (.cb g σ R p_1))],[],2⟩) fun s1 _ Jl q5 bl1=>gi q5 ?_ ?_<;>intro _ q5
 ·refine oB q5 fun x4 q7 q5=>gx eS 1 q7<|oB q5 fun _ q8 q5=>gcb (s1.1,x4) hcb q8<|gi q5 ?_ ?_<;>intro _ q5
  ·obtain rfl:=nR bl1 q5;exact AcO hm▸gE
  exact gN bl1 q5
 obtain rfl:=nR bl1 q5;let y1:=s1.2;exact AcO hm▸gE
def CN (a0:List ByteArray):Option (List ByteArray):=some a0
theorem Ez {a0 r}(hm:CN a0=some r):Sp prog 90 [sl eS a0] [] 0 (is (.fn (.func 141) [] [.pb 0 0]) [.box 0 [sl eS r] 23] 1):=by
 refine sq ?_;intros;exact AcO hm▸gE
def B4 (a1:ByteArray)(a2:Int)(x3:Int)(s1:ByteArray×Int×(List ByteArray)):Option ((ByteArray×Int×(List ByteArray))⊕(ByteArray×Int×(List ByteArray))):=if(decide (s1.2.1<(w64 (x3-1))))=true then Ab (Bc s1.1 a1) fun x8=>if(decide (x8<0))=true then some (.inr (s1.1,s1.2.1,s1.2.2))else Ab (ML s1.1 0 (w64 (x8+a2))) fun x9=>Ab (idx s1.2.2 s1.2.1) fun x10=>bnd (s1.2.2.set s1.2.1.toNat x9) fun x11=>Ab (ML s1.1 (w64 (x8+(a1.size:Int))) (s1.1.size:Int)) fun x12=>some (.inl (x12,(w64 (s1.2.1+1)),x11))else some (.inr (s1.1,s1.2.1,s1.2.2))
def Ef (a0:ByteArray)(a1:ByteArray)(a2:Int)(a3:Int):Option (List ByteArray):=if(a3==0)=true then some ([]:List ByteArray)else if(eqS a1 (⟨#[]⟩:ByteArray))=true then none else Ab (if(decide (a3<0))=true then Ab (Cl a0 a1) fun x2=>some (w64 (x2+1))else some a3) fun x1=>bnd ((Tc x1 (w64 ((a0.size:Int)+1)))) fun x3=>Ab (mkS 16 (ByteArray.empty:ByteArray) x3) fun x4=>Ab (Ab (iter (B4 a1 a2 x3) ET (a0,0,x4)) fun x6=>some (x6.1,x6.2.1,x6.2.2)) fun x5=>Ab (idx x5.2.2 x5.2.1) fun x13=>bnd (x5.2.2.set x5.2.1.toNat x5.1) fun x14=>if(0:Int)≤(w64 (x5.2.1+1))∧(w64 (x5.2.1+1))≤(x14.length:Int)then some (x14.take (w64 (x5.2.1+1)).toNat)else none
theorem Jg {a0 a1 a2 a3 r}(hm:Ef a0 a1 a2 a3=some r):Sp prog 194 [.d (.s a0),.d (.s a1),.d (.i a2),.d (.i a3)] [] 0 (is (.ow 0) [.row 0 1 _ eS r] 1):=by
 refine sq fun D0 As η0 m0 hd=>gi hm ?_ ?_<;>intro _ hm
 ·refine Aab eS 8 1 ?_;exact AcO hm▸gE
 refine gi hm ?_ ?_<;>intro _ hm
 ·cases hm
 refine oB hm fun x1 q1 hm=>gj (fun(_:Unit)=>⟨[(0,.d (.s a0)),(1,.d (.s a1)),(2,.d (.i a2)),(3,.d (.i x1))],[],[],0⟩) (fun _=>True) (fun Jp bk1=> ?_) fun _ _=> ?_
 ·refine gi q1 ?_ ?_<;>intro _ q1
  ·refine gA q1 Hv fun _ q2 q1=> ?_;obtain rfl:=AcO q1;exact gb bk1 hd () trivial
  obtain rfl:=AcO q1;exact gb bk1 hd () trivial
 refine bE hm ?_;intro x3 hm;refine oB hm fun _ q4 hm=>gmks eS (ByteArray.empty:ByteArray) (.s ByteArray.empty) 16 q4 ?_;obtain⟨x5,q5,hm⟩:=Ad hm;refine oB q5 fun x6 q6 q5=>gjU 0 (fun(_:Unit)=>let (y_0,y_1,y_2):=x6; ⟨[(0,.d (.s y_0)),(9,.ow 0),(10,.d (.i y_1))],[(0,.row 0 1 _ eS y_2)],[],1⟩) (fun _=>True) (fun Jp bk3=> ?_) fun _ _=> ?_
 ·refine gI q6 (fun(p_0,p_1,p_2)=>⟨[(0,.d (.s p_0)),(1,.d (.s a1)),(2,.d (.i a2)),(3,.d (.i (w64 (x3-1)))),(9,.ow 0),(10,.d (.i p_1))],[(0,.row 0 1 _ eS p_2)],[],1⟩) fun s1 _ Jl q9 bl1=>gi q9 ?_ ?_<;>intro _ q9
  ·refine gA q9 Hu fun _ q11 q9=>gi q9 ?_ ?_<;>intro _ q9
   ·obtain rfl:=nR bl1 q9;exact gb bk3 hd () trivial
   refine oB q9 fun x9 q12 q9=>QP (fun _=>q12)<|oB q9 fun _ q13 q9=>JS (E:=eS) (fun _=>q13)<|bE q9 ?_;intro _ q9;exact gstO (k:=1) (E:=eS) x9 (fun _=>rfl) q13<|oB q9 fun _ q15 q9=>QP (fun _=>q15)<|gN bl1 q9
  obtain rfl:=nR bl1 q9;exact gb bk3 hd () trivial
 obtain rfl:=AcO q5;let x5:=(x6.1,x6.2.1,x6.2.2);refine oB hm fun _ q16 hm=>JS (E:=eS) (fun _=>q16)<|bE hm ?_;intro _ hm;refine gstO (k:=1) (E:=eS) x5.1 (fun _=>rfl) q16 ?_;obtain⟨⟨q18,q19⟩,hm⟩:=AR hm;refine gcO eS 1 q18 q19 ?_;exact AcO hm▸gE
def FV (a0:ByteArray)(a1:ByteArray):Option (List ByteArray):=Ab (Ef a0 a1 0 (-1)) fun x1=>some x1
theorem LG {a0 a1 r}(hm:FV a0 a1=some r):Sp prog 142 [.d (.s a0),.d (.s a1)] [] 0 (is (.ow 0) [.row 0 1 _ eS r] 1):=by
 refine sq ?_;intros;refine gD hm Jg fun _ q1 hm=> ?_;exact AcO hm▸gE
def EO (a0:ByteArray):Option (List ByteArray):=Ab (Ck a0) fun x1=>if(!x1)=true then some ([]:List ByteArray)else Ab (FV a0 (⟨#[46]⟩:ByteArray)) fun x2=>some x2
theorem M7 {a0 r}(hm:EO a0=some r):Sp prog 91 [.d (.s a0)] [] 0 (is (.ow 0) [.row 0 1 _ eS r] 1):=by
 refine sq ?_;intros;refine gA hm GC fun _ q1 hm=>gi hm ?_ ?_<;>intro _ hm
 ·refine Aab eS 2 1 ?_;exact AcO hm▸gE
 refine gD hm LG fun _ q2 hm=> ?_;exact AcO hm▸gE
def Ca {σ:Type}(p0:σ→ByteArray→Option (Bool×σ))(b4:Int×ByteArray)(s1:(σ)×Nat):Option ((σ)×Nat):=Ab (p0 s1.1 b4.2) fun x4=>if(!x4.1)=true then some (x4.2,1)else some (x4.2,0)
def B6 {σ:Type}(p0:σ→ByteArray→Option (Bool×σ))(k0:ByteArray)(s0:σ):Option (ByteArray×σ):=Ab (EO k0) fun x1=>Ab (CN x1) fun x2=>Ab (A4 (fun(s:(σ)×Nat) (b0:Int×ByteArray)=>if s.2=0 then Ab (Ca p0 b0 s) fun y=>some (y.2==0,y)else none) x2 (s0,0)) fun x3=>if(x3.2).2=0 then some (k0,x3.2.1)else some (k0,x3.2.1)
theorem HA {σ:Type}{p0:σ→ByteArray→Option (Bool×σ)}{k0 s0 r}(hm:B6 p0 k0 s0=some r)(g:Value)(R:σ→Mem→Ow)(hcb:UH prog g (fun x=> [.d (.s x)]) R p0):Sp prog 89 [.ow 0,.pb 1 0] [.hp 0 (.cb g σ R s0),.box 1 [.d (.s k0)] 9] 2 (is (.tup []) [.hp 0 (.cb g σ R r.2),.box 1 [.d (.s r.1)] 9] 2):=
 spR call89 func89 rfl ntmps89 rfl fun D0 As η0 m0 hD hd=>by
  unfold B6 at hm;refine gD hm M7 fun _ q1 hm=>gD hm Ez fun x2 q2 hm=>oB hm fun x3 q3 hm=>H8 hD (n0:=2) 4 4 [⟨3,3,23,[sl eS x2],[sl eS x3.1]⟩] (gt:=7) (ps:=[8,9]) [(2,.pb 2 0),(7,.fn (.func 141) [] [.pb 3 0])] (fun(y1:σ)=> [(0,.box 2 [.ow 0] 119),(1,.box 1 [.d (.s k0)] 9),(2,.hp 0 (.cb g σ R y1))]) (fun(y1:(σ)×Nat)=> [(0,.box 2 [.ow 0] 119),(1,.box 1 [.d (.s k0)] 9),(2,.hp 0 (.cb g σ R y1.1))]) (fun x=> [.d (.i x.1),.d (.s x.2)]) (fun(s1:σ) (b4:Int×ByteArray)=>⟨[(2,.pb 2 0),(4,.d (.s b4.2)),(7,.fn (.func 141) [] [.pb 3 0])],[(0,.box 2 [.ow 0] 119),(1,.box 1 [.d (.s k0)] 9),(2,.hp 0 (.cb g σ R s1))],[],4⟩) (pJ fun x s=>Ca p0 x s) s0 hd (via fJ hyJ rfl fun g R h=>D9 q3 g R h) rfl (fun _=>rfl) (fun _=>rfl) (fun _=>rfl) (fun _=>rfl) ?_ ?_ ?_ ?_
  ·intro s1 b4 s' hp l D0 As η0 m0 hd Ja ba;exact gb ba hd () trivial
  ·intro s1 b4 s' hp l D0 As η0 m0 hd Jb bb Jr br;obtain⟨z1,q4,hp⟩:=AcU.1 hp;subst hp;unfold Ca at q4;dsimp only at q4;refine oB q4 fun x4 q5 q4=>gcb b4.2 hcb q5<|gi q4 ?_ ?_<;>intro _ q4
   ·obtain rfl:=AcO q4;exact YP br hd (x4.2,1) rfl
   obtain rfl:=AcO q4;exact gb bb hd x4.2 rfl
  ·intro x hx;obtain⟨hj1,rfl⟩:=Ty hx;rw[AcZ hj1]at hm;exact AcO hm▸gE
  intro y hy;obtain⟨hj1,rfl⟩:=Tx hy;rw[Ac1 hj1]at hm;exact AcO hm▸gE
def Eh (a0:ByteArray):Option ByteArray:=some a0
theorem Jj {a0 r}(hm:Eh a0=some r):Sp prog 28 [.d (.s a0)] [] 0 (is (.fn (.func 89) [] [.pb 0 0]) [.box 0 [.d (.s r)] 9] 1):=by
 refine sq ?_;intros;exact AcO hm▸gE
def Gt (a0:Int)(k0:List g_api_Node)(k1:ByteArray):Option (Bool×(List g_api_Node)×ByteArray):=Ab (idx k0 a0) fun x1=>some ((eqS x1.Label k1),k0,k1)
theorem MY {a0 k0 k1 r}(hm:Gt a0 k0 k1=some r):Sp prog 93 [.d (.i a0),.pb 0 0,.pb 1 0] [.box 0 [sl Ao k0] 33,.box 1 [.d (.s k1)] 9] 2 (is (.d (.t r.1)) [.box 0 [.d (.sl _ Ao r.2.1)] 33,.box 1 [.d (.s r.2.2)] 9] 2):=by
 refine sq ?_;intros;refine oB hm fun _ q1 hm=>gx Ao 4 q1 ?_;exact AcO hm▸gE
def Cu (a0:List Int)(i1:Int)(s1:(List g_api_Node)×ByteArray):Option (((List g_api_Node)×ByteArray)⊕(Int×(List g_api_Node)×ByteArray)):=Ab (idx a0 (i1:Int)) fun x3=>Ab (Gt x3 s1.1 s1.2) fun x4=>if x4.1=true then some (.inr ((i1:Int),x4.2.1,x4.2.2))else some (.inl (x4.2.1,x4.2.2))
def Bm (a0:List Int)(k0:List g_api_Node)(k1:ByteArray):Option (Int×(List g_api_Node)×ByteArray):=Ab (E6 (Cu a0) a0.length 0 (k0,k1)) fun x1=>match x1 with| .inr r=>some r| .inl y1=>some ((-1),y1.1,y1.2)
theorem EU {a0 k0 k1 r}(hm:Bm a0 k0 k1=some r):Sp prog 92 [sl eI a0,.fn (.func 93) [] [.pb 0 0,.pb 1 0]] [.box 0 [sl Ao k0] 33,.box 1 [.d (.s k1)] 9] 2 (is (.d (.i r.1)) [.box 0 [.d (.sl _ Ao r.2.1)] 33,.box 1 [.d (.s r.2.2)] 9] 2):=by
 refine sq ?_;intros;refine oB hm fun _ q1 hm=>JR 0 (E:=eI) (xs:=a0) 6 fun hle1=>gF (EN _ _ _) q1 (fun p0 (p_0,p_1)=>⟨[(0,sl eI a0),(1,.fn (.func 93) [] [.pb 0 0,.pb 1 0]),(7,.d (.i (a0.length:Int))),(8,.d (.i p0))],[(0,.box 0 [sl Ao p_0] 33),(1,.box 1 [.d (.s p_1)] 9)],[],2⟩) fun i1 s1 Jl bl1=>cN bl1 (a0.length:Int) (fun _ q4 bl1=> ?_) fun e=> ?_
 ·refine oB q4 fun _ q6 q4=>gx eI 1 q6<|gD q4 MY fun _ q7 q4=>gi q4 ?_ ?_<;>intro _ q4
  ·obtain rfl:=nT bl1 q4;exact AcO hm▸gE
  exact gT bl1 hle1 q4
 subst e;let y1:=s1;exact AcO hm▸gE
def DZ (a0:List g_api_Node)(a1:Int)(a2:ByteArray):Option (Int×Bool):=Ab (idx a0 a1) fun x1=>Ab (Bm x1.Kids a0 a2) fun x2=>if(decide (x2.1<0))=true then some (0,false)else Ab (idx x2.2.1 a1) fun x3=>Ab (idx x3.Kids x2.1) fun x4=>some (x4,true)
theorem KF {a0 a1 a2 r}(hm:DZ a0 a1 a2=some r):Sf prog 29 [sl Ao a0,.d (.i a1),.d (.s a2)] (.tup [.d (.i r.1),.d (.t r.2)]):=by
 refine sq ?_;intros;refine oB hm fun _ q1 hm=>gx Ao 4 q1<|gD hm EU fun _ q2 hm=>gi hm ?_ ?_<;>intro _ hm
 ·exact AcO hm▸gE
 refine oB hm fun _ q3 hm=>gx Ao 4 q3<|oB hm fun _ q4 hm=>gx eI 1 q4 ?_;exact AcO hm▸gE
def AW (a0:List g_api_Rule):Option (List g_api_Rule):=Ab (app 80 ([]:List g_api_Rule) a0) fun x1=>some x1
theorem Eo {a0 r}(hm:AW a0=some r):Sp prog 30 [sl Ac a0] [] 0 (is (.ow 0) [.row 0 7 _ Ac r] 1):=by
 refine sq ?_;intros;unfold AW at hm;refine gnq Ac a0 (fun he1=> ?_) ?_
 ·rw[he1]at hm;replace hm:(some ([]:List g_api_Rule))=some _:=hm;refine Aab Ac 2 7 ?_;exact AcO hm▸gE
 refine glit (k:=7) Ac ([]:List g_api_Rule) (fun _=>rfl)<|oB hm fun _ q1 hm=>gp Ac 7 q1 ?_;exact AcO hm▸gE
abbrev NE:=List (g_api_Node×Value)
def EB (e:g_api_Node×Value):List Value:=[vS e.1.Label,vI e.1.Here,vI e.1.Below,e.2]
def Cr (es:NE)(v:Value):List Ow:=row 4 v (es.flatMap EB) es.length::es.map (fun e=>row 1 e.2 (e.1.Kids.map vI) e.1.Kids.length)
def Sh (es:NE)(v:Value):Ow:=sepX (fun _:Unit=>True) fun _=>Cr es v
def NodeR (ns:List g_api_Node)(b:Nat):Ow:=sepX (fun q:NE×Value=>q.1.map (·.1)=ns) fun q=>bx b [q.2] 33::Cr q.1 q.2
def VP (b:Nat):Value:=pt b 0
abbrev ndR (n:Nat)(ns:List g_api_Node):AObj:= .hp n (.sp VP (NodeR ns))
theorem Yz: ∀es:NE,(es.flatMap EB).length=es.length*4
 | []=>rfl
 |e::es=>by rw[Adq,Ac5,Yz es,AcY]; simp[EB]; omega
theorem Vj {m:Mem}{sz n:Nat}{v:Value}{cs:List Value}{y:PH}(h:row sz v cs n y)(hy: ∀k o,y k=some o→m.heap k=some o):SlC m sz v cs n:=by
 rcases h with ⟨e1,rfl,rfl,hx⟩|⟨b,cap,l,e,fr,rfl,rfl,hc,ht,hl,hn,hcm,_⟩
 ·exact⟨by simp,by simp,.inl ⟨rfl,_,_,e1⟩⟩
 ·refine⟨hc,by simp only[maxLen]at hcm; omega,.inr ⟨b,0,cap,l,e,fr,rfl,⟨hn,by simp only[maxLen]at hcm; omega⟩,hy _ _ (by simp[PH.one]),fun j x hx=> ?_⟩⟩;rw[←ht,List.getElem?_take]at hx;split at hx
  ·simpa using hx
  ·cases hx
theorem Tt: ∀zs:List Int,(zs.flatMap eI).length=(zs.map vI).length
 | []=>rfl
 |z::zs=>by rw[Adq,Ac5,Tt zs,Adg,AcY]; simp[eI]; omega
theorem W0 {m:Mem}: ∀zs:List Int,FRL m (zs.flatMap eI) (zs.map vI)
 | []=> .nil
 |z::zs=> .cons (.i z) (W0 zs)
theorem fr_int {m:Mem}{v:Value}{zs:List Int}{y:PH}(h:row 1 v (zs.map vI) zs.length y)(hy: ∀k o,y k=some o→m.heap k=some o):FR m (.sl Int eI zs) v:=
 .sl (sz:=1) (cs:=zs.map vI) (Vj h hy) (fun _ _=>rfl) (Tt zs) (W0 zs).2
theorem Ts {m:Mem}: ∀{es:NE} {x:PH},sepL (es.map fun e=>row 1 e.2 (e.1.Kids.map vI) e.1.Kids.length) x→(∀k o,x k=some o→m.heap k=some o)→FRL m ((es.map (·.1)).flatMap Ao) (es.flatMap EB)
 | [],x,_,_=> .nil
 |e::es,x,⟨h1,h2,a,s,d,ee⟩,hx=>by
  subst ee;have y1: ∀k o,h1 k=some o→m.heap k=some o:=fun k o q=>hx k o (by simp[PH.join,q]);have y2: ∀k o,h2 k=some o→m.heap k=some o:=fun k o q=>hx k o (by
   have e1:h1 k=none:=(d k).resolve_right (by rw[q]; simp);simp[PH.join,e1,q])
  exact .cons (.s _) (.cons (.i _) (.cons (.i _) (.cons (fr_int a y1) (Ts s y2))))
theorem W3 {m:Mem}{es:NE}{v:Value}{x:PH}(h:Sh es v x)(hx: ∀k o,x k=some o→m.heap k=some o):FR m (.sl g_api_Node Ao (es.map (·.1))) v:=by
 obtain⟨_,_,h1,h2,a,s,d,ee⟩:=h;subst ee;have y1: ∀k o,h1 k=some o→m.heap k=some o:=fun k o q=>hx k o (by simp[PH.join,q]);have y2: ∀k o,h2 k=some o→m.heap k=some o:=fun k o q=>hx k o (by
  have e1:h1 k=none:=(d k).resolve_right (by rw[q]; simp);simp[PH.join,e1,q])
 have hf:=Ts s y2;exact .sl (sz:=4) (cs:=es.flatMap EB) (by rw[Adl]; exact Vj a y1) (fun _ _=>rfl) hf.1 hf.2
theorem Kl {η:Env}{m:Mem}{n:Nat}{ns:List g_api_Node}{As:List Ow}{w:World}{v6:Value}(S:St m (rep η m (ndR n ns)::As) w)(r:Rel η m (.pb n 0) v6):
  ∃b es v,η n=some (pt b 0)∧v6=pt b 0∧es.map (·.1)=ns∧St m (bx b [v] 33::(Cr es v++As)) w:=by
 obtain⟨b,hb,S1⟩:=St.openHp S;obtain⟨b',e,hv⟩:=r.pb_inv;rw[hb]at e;have:b=b':=by
  have e:=AcO e;simpa[hkV,VP,pt]using e
 subst this;obtain⟨⟨es,v⟩,he,S2⟩:=St.openX S1;exact⟨b,es,v,hb,hv,he,S2⟩
theorem Ip {η:Env}{m:Mem}{n b:Nat}{ns:List g_api_Node}{As:List Ow}{w:World}{es:NE}{v:Value}(hb:η n=some (pt b 0))(he:es.map (·.1)=ns)(S:St m (bx b [v] 33::(Cr es v++As)) w):St m (rep η m (ndR n ns)::As) w:=
 St.closeHp (q:= .sp VP (NodeR ns)) (b:=b) hb (St.closeX (es,v) he S)
theorem h7_18 (n:Nat)(ns:List g_api_Node):Hc prog 97 (Kj f7 (EH 18)) [(6,.pb n 0)] [ndR n ns] [58,59,15] (fun _:Unit=>True) (fun _=> [(15,.d (.i (ns.length:Int)))]) (fun _=> [ndR n ns]):=by
 intro ρ D0 Q As η m f w r S hk;obtain⟨r6,r⟩:=Et r;obtain⟨b,es,v,hb,h6,he,S1⟩:=Kl S r6;refine Ah<|I8 (i:=0) (agg:=false) (cs:=[v]) S1 h6 rfl isAgg33 sizeOf33 rfl (fun _=>rfl)<|ZI (i:=1) S1 rfl rfl underlying33<|E8 (v:=vI es.length) rfl<|Ap ?_;refine hk () trivial m _ w (Mem.rfl' m) (fun t ht=> ?_) (.cons ?_ .nil) S
 ·repeat (first|exact rfl|refine(Db rfl ht).trans ?_)
 ·rw[←he,Adl]; exact .d (.i _)
theorem h7_16 (n n13:Nat)(ns:List g_api_Node)(ni:Int)(label:ByteArray)(r:Int×Bool)(hq:DZ ns ni label=some r):Hc prog 97 (Kj f7 (EH 16)) [(6,.pb n 0),(13,.pb n13 0),(14,.d (.s label))] [ndR n ns,.box n13 [.d (.i ni)] 3] [50,51,52,53,49,54,55,15,16] (fun _:Unit=>True)
  (fun _=> [(15,.d (.i r.1)),(16,.d (.t r.2))]) (fun _=> [ndR n ns,.box n13 [.d (.i ni)] 3]):=by
 intro ρ D0 Q As η m f w rr S hk;obtain⟨r6,rr⟩:=Et rr;obtain⟨r13,rr⟩:=Et rr;obtain⟨r14,rr⟩:=Et rr;have h14:f 14=vS label:=Qm r14;obtain⟨b,es,v,hb,h6,he,S1⟩:=Kl S r6;have S2:St m (rep η m (.box n13 [.d (.i ni)] 3)::(Sh es v::(bx b [v] 33::As))) w:=by
  have P1:St m (Cr es v++(bx b [v] 33::(rep η m (.box n13 [.d (.i ni)] 3)::As))) w:=S1.perm List.perm_middle.symm;have P2:St m (Sh es v::(bx b [v] 33::(rep η m (.box n13 [.d (.i ni)] 3)::As))) w:=St.closeX () trivial P1;refine P2.perm ?_;exact(Adr _ (.swap ..)).trans (.swap ..)
 obtain⟨b13,vs,e13,rv,ho,S3⟩:=St.openBox S2;have rv0:=rv;obtain⟨v1,us,rfl,q1,rv⟩:=rv.cons_inv;obtain rfl:=rv.nil_inv;have q1:=q1.i_inv;subst q1;obtain⟨b13',e13',h13⟩:=r13.pb_inv;rw[e13]at e13';cases e13';obtain⟨h1,a1,d1,SL⟩:=St.lend (S3.perm (.swap ..));have hcall:=(KF hq).2 none0 {m with heap:=m.heap.join h1} (bx b13 [vI ni] 3::(bx b [v] 33::As)) w [v,vI ni,vS label]
  (.cons (.d (by rw[←he]; exact W3 a1 fun k o q=>Pc d1 q)) (.cons (.d (.i ni)) (.cons (.d (.s label)) .nil))) (fun n h=>absurd rfl h) SL
 refine Ah<|I8 (i:=2) (agg:=false) (cs:=[v]) S3 h6 rfl isAgg33 sizeOf33 rfl (fun _=>rfl)<|I8 (i:=0) (agg:=false) (cs:=[vI ni]) S3 h13 rfl isAgg3 sizeOf3 rfl (fun _=>rfl)<|BH (v:=vS label) h14<|
  CB call29 hcall rfl ?_
 rintro v' w2 ⟨M,η',q,obs',n1,hle,hle2,⟨rfl,rfl,rfl⟩,hd',hv',S5⟩;obtain⟨us,rfl,rt⟩:=hv'.tup_inv;obtain⟨u1,us,rfl,q1,rt⟩:=rt.cons_inv;obtain⟨u2,us,rfl,q2,rt⟩:=rt.cons_inv;obtain rfl:=rt.nil_inv;have q1:=q1.i_inv;have q2:=q2.t_inv;subst q1 q2;have S6:=St.unlend (A:=Sh es v) hle d1 S.tape.2 S5 a1;refine BH (v:= .tuple #[vI r.1,vb r.2]) rfl<|K5 rfl rfl<|K5 rfl rfl<|E8 (v:=vI r.1) rfl<|E8 (v:=vb r.2) rfl<|Ap ?_;refine hk () trivial (Uw M h1) _ w2 (RT hle d1) (fun t ht=> ?_) (.cons (.d (.i _)) (.cons (.d (.t _)) .nil)) ?_
 ·repeat (first|exact rfl|refine(Db rfl ht).trans ?_)
 ·have rv1:RelL η (Uw M h1) [.d (.i ni)] [vI ni]:= .cons (.d (.i ni)) .nil;have S7:St (Uw M h1) (rep η (Uw M h1) (.box n13 [.d (.i ni)] 3)::(Sh es v::(bx b [v] 33::As))) w2:=St.closeBox e13 rv1 ho (S6.perm (.swap ..));have S8:St (Uw M h1) (Sh es v::(bx b [v] 33::(rep η (Uw M h1) (.box n13 [.d (.i ni)] 3)::As))) w2:=S7.perm ((Adu ..).trans (Adr _ (.swap ..)));obtain⟨_,_,S9⟩:=St.openX S8;exact Ip hb he (S9.perm Adw)
theorem Js {e e':g_api_Node×Value}{u:Value}{o:Nat}(ho:o<4)(he:EB e'=(EB e).take o++[u]++(EB e).drop (o+1)): ∀{es:NE} {j:Nat},es[j]? =some e→(es.flatMap EB).take (j*4+o)++[u]++(es.flatMap EB).drop (j*4+o+1)=(es.set j e').flatMap EB
 | [],j,h=>by simp at h
 |a::es,0,h=>by
  cases h;rw[List.set_cons_zero,Adq,Adq,he];match o,ho with
  |0,_=>rfl
  |1,_=>rfl
  |2,_=>rfl
  |3,_=>rfl
 |a::es,j+1,h=>by
  have ih:=Js ho he (es:=es) (j:=j) (by simpa using h);rw[List.set_cons_succ,Adq,Adq,←ih,show(j+1)*4+o=(j*4+o)+1+1+1+1 by omega];rfl
theorem Z1 {m:Mem}{b j:Nat}{v:Value}{es:NE}{e e':g_api_Node×Value}{As:List Ow}{w:World}{cs:List Value}{n:Nat}(h:es[j]? =some e)(hk:e'.2=e.2∧e'.1.Kids=e.1.Kids)(hc:cs=(es.set j e').flatMap EB)(hn:n=es.length)
  (S:St m ((bx b [v] 33::(Cr es v++As)).set 1 (row 4 v cs n)) w):St m (bx b [v] 33::(Cr (es.set j e') v++As)) w:=by
 subst hc hn;have e1:(es.set j e').map (fun e=>row 1 e.2 (e.1.Kids.map vI) e.1.Kids.length)=es.map fun e=>row 1 e.2 (e.1.Kids.map vI) e.1.Kids.length:=by
  rw[List.map_set];apply List.ext_getElem?;intro k;rw[List.getElem?_set];split
  ·rename_i q; subst q;have hl:=(AcX.1 h).1;rw[Ac9,h];simp[hl,hk.1,hk.2]
  ·rfl
 unfold Cr at S⊢;rw[e1,AdK];exact S
theorem Aco {es:NE}{ns:List g_api_Node}(he:es.map (·.1)=ns){ni:Int}{x:g_api_Node}(hx:idx ns ni=some x):0≤ni∧ni<(es.length:Int)∧∃e,es[ni.toNat]? =some e∧e.1=x:=by
 have h:=F5 hx;refine⟨h.1,by rw[←he,Adl]at h; exact h.2,?_⟩;unfold idx at hx;rw[AcZ h.1,←he,Ac9]at hx;obtain⟨e,h1,h2⟩:=AcU.1 hx;exact⟨e,h1,h2⟩
theorem O5 {es:NE}{ns:List g_api_Node}(he:es.map (·.1)=ns)(j:Nat)(e':g_api_Node×Value):(es.set j e').map (·.1)=ns.set j e'.1:=by rw[List.map_set,he]
theorem h7_25 (n n13:Nat)(ns:List g_api_Node)(ni i:Int)(x:g_api_Node)(hx:idx ns ni=some x):Hc prog 97 (Kj f7 (EH 25)) [(6,.pb n 0),(13,.pb n13 0),(7,.d (.i i))] [ndR n ns,.box n13 [.d (.i ni)] 3] [81,82,83,84,85] (fun _:Unit=>True)
  (fun _=> []) (fun _=> [ndR n (ns.set ni.toNat {x with Below:=i}),.box n13 [.d (.i ni)] 3]):=by
 intro ρ D0 Q As η m f w rr S hk;obtain⟨r6,rr⟩:=Et rr;obtain⟨r13,rr⟩:=Et rr;obtain⟨r7,rr⟩:=Et rr;have h7:f 7=vI i:=r7.i_inv;obtain⟨b,es,v,hb,h6,he,S1⟩:=Kl S r6;obtain⟨h0,hn,e,hj,rfl⟩:=Aco he hx;have S2:St m (rep η m (.box n13 [.d (.i ni)] 3)::(bx b [v] 33::(Cr es v++As))) w:=by
  refine S1.perm ?_;have:(bx b [v] 33::(Cr es v++(rep η m (.box n13 [.d (.i ni)] 3)::As))).Perm (bx b [v] 33::(rep η m (.box n13 [.d (.i ni)] 3)::(Cr es v++As))):=Adr _ Adw;exact this.trans (.swap ..)
 obtain⟨b13,vs,e13,rv,ho,S3⟩:=St.openBox S2;have rv0:=rv;obtain⟨v1,us,rfl,q1,rv⟩:=rv.cons_inv;obtain rfl:=rv.nil_inv;have q1:=q1.i_inv;subst q1;obtain⟨b13',e13',h13⟩:=r13.pb_inv;rw[e13]at e13';cases e13';have S4:=S3.perm (Adu ..);have S5:St m (bx b [v] 33::(Cr es v++(bx b13 [vI ni] 3::As))) w:=S4.perm (Adr _ List.perm_middle.symm);have hi13:(bx b [v] 33::(Cr es v++(bx b13 [vI ni] 3::As)))[(Cr es v).length+1]? =some (bx b13 [vI ni] 3):=by
  rw[List.getElem?_cons_succ,AdF (AcV _),Nat.sub_self]; rfl
 refine Ah<|I8 (i:=0) (agg:=false) (cs:=[v]) S5 h6 rfl isAgg33 sizeOf33 rfl (fun _=>rfl)<|I8 (i:=(Cr es v).length+1) (agg:=false) (cs:=[vI ni]) S5 h13 hi13 isAgg3 sizeOf3 rfl (fun _=>rfl)<|BH (v:=vI i) h7<|
  Nv (i:=1) (k:= .i64) (j:=ni) S5 rfl rfl rfl h0 hn underlying33 sizeOf80 fun p hp=>Qg (fo:=2) (n:=0) rfl hp underlying80 rfl rfl sizeOf3 fun p' hp'=>
  X3 (i:=1) (u:=vI i) S5 rfl rfl hp' rfl sizeOf3 (fun c hc=>by simp[Value.cells]at hc; subst hc; rfl) (by rw[Yz]; simp[Value.cells]; omega) fun w' S6=>Ap ?_
 refine hk () trivial m _ w' (Mem.rfl' m) (fun t ht=> ?_) .nil ?_
 ·repeat (first|exact rfl|refine(Db rfl ht).trans ?_)
 ·have S7:=Z1 (e':=({e.1 with Below:=i},e.2)) hj ⟨rfl,rfl⟩ (Js (by decide) rfl hj) rfl S6;have S8:St m (bx b13 [vI ni] 3::(bx b [v] 33::(Cr (es.set ni.toNat ({e.1 with Below:=i},e.2)) v++As))) w':=by
   refine S7.perm ?_;exact(Adr _ Adw).trans (.swap ..)
  have S9:=St.closeBox e13 rv0 ho S8;have S10:St m (bx b [v] 33::(Cr (es.set ni.toNat ({e.1 with Below:=i},e.2)) v++(rep η m (.box n13 [.d (.i ni)] 3)::As))) w':=S9.perm ((Adu ..).trans (Adr _ List.perm_middle.symm));exact Ip hb (O5 he ni.toNat ({e.1 with Below:=i},e.2)) S10
theorem h7_26 (n n13:Nat)(ns:List g_api_Node)(ni i:Int)(x:g_api_Node)(hx:idx ns ni=some x):Hc prog 97 (Kj f7 (EH 26)) [(6,.pb n 0),(13,.pb n13 0),(7,.d (.i i))] [ndR n ns,.box n13 [.d (.i ni)] 3] [86,87,88,89,90] (fun _:Unit=>True)
  (fun _=> []) (fun _=> [ndR n (ns.set ni.toNat {x with Here:=i}),.box n13 [.d (.i ni)] 3]):=by
 intro ρ D0 Q As η m f w rr S hk;obtain⟨r6,rr⟩:=Et rr;obtain⟨r13,rr⟩:=Et rr;obtain⟨r7,rr⟩:=Et rr;have h7:f 7=vI i:=r7.i_inv;obtain⟨b,es,v,hb,h6,he,S1⟩:=Kl S r6;obtain⟨h0,hn,e,hj,rfl⟩:=Aco he hx;have S2:St m (rep η m (.box n13 [.d (.i ni)] 3)::(bx b [v] 33::(Cr es v++As))) w:=by
  refine S1.perm ?_;have:(bx b [v] 33::(Cr es v++(rep η m (.box n13 [.d (.i ni)] 3)::As))).Perm (bx b [v] 33::(rep η m (.box n13 [.d (.i ni)] 3)::(Cr es v++As))):=Adr _ Adw;exact this.trans (.swap ..)
 obtain⟨b13,vs,e13,rv,ho,S3⟩:=St.openBox S2;have rv0:=rv;obtain⟨v1,us,rfl,q1,rv⟩:=rv.cons_inv;obtain rfl:=rv.nil_inv;have q1:=q1.i_inv;subst q1;obtain⟨b13',e13',h13⟩:=r13.pb_inv;rw[e13]at e13';cases e13';have S4:=S3.perm (Adu ..);have S5:St m (bx b [v] 33::(Cr es v++(bx b13 [vI ni] 3::As))) w:=S4.perm (Adr _ List.perm_middle.symm);have hi13:(bx b [v] 33::(Cr es v++(bx b13 [vI ni] 3::As)))[(Cr es v).length+1]? =some (bx b13 [vI ni] 3):=by
  rw[List.getElem?_cons_succ,AdF (AcV _),Nat.sub_self]; rfl
 refine Ah<|I8 (i:=0) (agg:=false) (cs:=[v]) S5 h6 rfl isAgg33 sizeOf33 rfl (fun _=>rfl)<|I8 (i:=(Cr es v).length+1) (agg:=false) (cs:=[vI ni]) S5 h13 hi13 isAgg3 sizeOf3 rfl (fun _=>rfl)<|BH (v:=vI i) h7<|
  Nv (i:=1) (k:= .i64) (j:=ni) S5 rfl rfl rfl h0 hn underlying33 sizeOf80 fun p hp=>Qg (fo:=1) (n:=0) rfl hp underlying80 rfl rfl sizeOf3 fun p' hp'=>
  X3 (i:=1) (u:=vI i) S5 rfl rfl hp' rfl sizeOf3 (fun c hc=>by simp[Value.cells]at hc; subst hc; rfl) (by rw[Yz]; simp[Value.cells]; omega) fun w' S6=>Ap ?_
 refine hk () trivial m _ w' (Mem.rfl' m) (fun t ht=> ?_) .nil ?_
 ·repeat (first|exact rfl|refine(Db rfl ht).trans ?_)
 ·have S7:=Z1 (e':=({e.1 with Here:=i},e.2)) hj ⟨rfl,rfl⟩ (Js (by decide) rfl hj) rfl S6;have S8:St m (bx b13 [vI ni] 3::(bx b [v] 33::(Cr (es.set ni.toNat ({e.1 with Here:=i},e.2)) v++As))) w':=by
   refine S7.perm ?_;exact(Adr _ Adw).trans (.swap ..)
  have S9:=St.closeBox e13 rv0 ho S8;have S10:St m (bx b [v] 33::(Cr (es.set ni.toNat ({e.1 with Here:=i},e.2)) v++(rep η m (.box n13 [.d (.i ni)] 3)::As))) w':=S9.perm ((Adu ..).trans (Adr _ List.perm_middle.symm));exact Ip hb (O5 he ni.toNat ({e.1 with Here:=i},e.2)) S10
structure Q4 where
 l:List Value
 four:l.length=4
 one: ∀v∈l,v.oneCell'=true
instance:GoT Q4 where
 sz:=4
 rep _ cs x:=cs=x.l
 len {_ _ x} h:=by rw[h]; exact x.four
 up _ h:=h
 one {_ _ x} h v hv:=x.one v (h▸hv)
theorem VV {m:Mem}: ∀{zs:List Q4} {cs:List Value},Bj m cs zs→cs=zs.flatMap (·.l)
 | [],cs,h=>h
 |z::zs,cs,⟨c,d,e,h1,h2⟩=>by
  rw[e,VV h2,show c=z.l from h1];rfl
theorem V7 {m:Mem}: ∀zs:List Q4,Bj m (zs.flatMap (·.l)) zs
 | []=>rfl
 |z::zs=>⟨z.l,zs.flatMap (·.l),rfl,rfl,V7 zs⟩
theorem SM: ∀{es:NE} {x:PH},sepL (es.map fun e=>row 1 e.2 (e.1.Kids.map vI) e.1.Kids.length) x→∀e∈es,e.2.oneCell'=true
 | [],_,_,e,he=>by cases he
 |a::es,x,⟨h1,h2,p,s,_,_⟩,e,he=>by
  rcases Ado.1 he with rfl|he
  ·rcases p with ⟨e1,_⟩|⟨b,cap,l,el,fr,e1,_⟩
   ·rw[e1]; rfl
   ·rw[e1]; rfl
  ·exact SM s e he
theorem to_q4: ∀{es:NE},(∀e∈es,e.2.oneCell'=true)→∃qs:List Q4,qs.flatMap (·.l)=es.flatMap EB∧qs.length=es.length
 | [],_=>⟨[],rfl,rfl⟩
 |e::es,h=>by
  obtain⟨qs,h1,h2⟩:=to_q4 (es:=es) fun x hx=>h x (Adh _ hx);refine⟨⟨EB e,rfl,fun v hv=> ?_⟩::qs,?_,by simp[h2]⟩
  ·simp only[EB,Ado,List.not_mem_nil,or_false]at hv;rcases hv with rfl|rfl|rfl|rfl
   ·rfl
   ·rfl
   ·rfl
   ·exact h e (Adb ..)
  ·rw[Adq,Adq,h1]
abbrev FH:Value:= .slice none 0 0
theorem h7_22 (n n17:Nat)(ns ns':List g_api_Node)(label:ByteArray)(he1 be1:Int)(hq:app 56 ns [(⟨label,he1,be1,[]⟩:g_api_Node)]=some ns'):Hc prog 97 (Kj f7 (EH 22)) [(6,.pb n 0),(17,.pb n17 0)] [ndR n ns,.box n17 [.d (.s label),.d (.i he1),.d (.i be1),.d (.v FH)] 80] [75,76,77,78] (fun _:Unit=>True)
  (fun _=> []) (fun _=> [ndR n ns',.box n17 [.d (.s label),.d (.i he1),.d (.i be1),.d (.v FH)] 80]):=by
 intro ρ D0 Q As η m f w rr S hk;obtain⟨r6,rr⟩:=Et rr;obtain⟨r17,rr⟩:=Et rr;obtain⟨b,es,v,hb,h6,he,S1⟩:=Kl S r6;obtain⟨⟨hb1,hb2⟩,hq⟩:=AR hq;cases hq;have S2:St m (rep η m (.box n17 [.d (.s label),.d (.i he1),.d (.i be1),.d (.v FH)] 80)::(bx b [v] 33::(Cr es v++As))) w:=by
  refine S1.perm ?_;have:(bx b [v] 33::(Cr es v++(rep η m (.box n17 [.d (.s label),.d (.i he1),.d (.i be1),.d (.v FH)] 80)::As))).Perm (bx b [v] 33::(rep η m (.box n17 [.d (.s label),.d (.i he1),.d (.i be1),.d (.v FH)] 80)::(Cr es v++As))):=Adr _ Adw;exact this.trans (.swap ..)
 obtain⟨b17,vs,e17,rv,ho,S3⟩:=St.openBox S2;obtain⟨v1,us,rfl,q1,rv⟩:=rv.cons_inv;obtain⟨v2,us,rfl,q2,rv⟩:=rv.cons_inv;obtain⟨v3,us,rfl,q3,rv⟩:=rv.cons_inv;obtain⟨v4,us,rfl,q4,rv⟩:=rv.cons_inv;obtain rfl:=rv.nil_inv;have q1:=Qm q1;have q2:=q2.i_inv;have q3:=q3.i_inv;have q4:=rel_v q4;subst q1 q2 q3 q4;obtain⟨b17',e17',h17⟩:=r17.pb_inv;rw[e17]at e17';cases e17';have S5:St m (bx b [v] 33::(Cr es v++(bx b17 [vS label,vI he1,vI be1,FH] 80::As))) w:=(S3.perm (Adu ..)).perm (Adr _ List.perm_middle.symm);have hi17:(bx b [v] 33::(Cr es v++(bx b17 [vS label,vI he1,vI be1,FH] 80::As)))[(Cr es v).length+1]? =some (bx b17 [vS label,vI he1,vI be1,FH] 80):=by
  rw[List.getElem?_cons_succ,AdF (AcV _),Nat.sub_self]; rfl
 have hone: ∀e∈es,e.2.oneCell'=true:=by
  obtain⟨x,s,_⟩:=S5.own;obtain⟨_,h2,_,s2,_,_⟩:=s;obtain⟨h3,h4,s3,_,_,_⟩:=FQ s2;obtain⟨_,h6',_,s6,_,_⟩:=s3;exact SM s6
 obtain⟨qs,hqs,hql⟩:=to_q4 hone;let q0:Q4:=⟨[vS label,vI he1,vI be1,FH],rfl,fun v hv=>by
  simp only[Ado,List.not_mem_nil,or_false]at hv;rcases hv with rfl|rfl|rfl|rfl<;>rfl⟩
 have hlen:es.length=ns.length:=by rw[←he,Adl]
 have happ:app 56 qs [q0]=some (qs++[q0]):=by
  unfold app;rw[AcZ (by rw[hql,hlen]; exact⟨hb1,hb2⟩)]
 refine Ah<|I8 (i:=0) (agg:=false) (cs:=[v]) S5 h6 rfl isAgg33 sizeOf33 rfl (fun _=>rfl)<|I8 (i:=(Cr es v).length+1) (agg:=true) (cs:=[vS label,vI he1,vI be1,FH]) S5 h17 hi17 isAgg80 sizeOf80 rfl (fun e=>by cases e)<|
  X8 (α:=Q4) (parts:=[.tmp 76]) (vs:=[.agg #[vS label,vI he1,vI be1,FH]]) (xs:=[q0]) S5 underlying33 sizeOf80 zeroValue80 rfl ⟨[vS label,vI he1,vI be1,FH],[],rfl,rfl,rfl⟩ (fun v hv=>by simp at hv; subst hv; rfl) rfl rfl (by decide) (by decide) fun u m1 w1 l1 S6 hu=> ?_
 refine VF (α:=Q4) (i:=1) (xs:=qs) (zs:=qs++[q0]) (bytes:=56) (ti:=t80) S6 (show _=v from rfl) (show _=some (row 4 v (es.flatMap EB) es.length)from rfl) (by rw[←hqs]; exact V7 qs) hql.symm rfl hu happ underlying33 type80 rfl rfl rfl rfl fun v' cs' w2 S7 hr=> ?_;have hcs:=VV hr;rw[List.flatMap_append,hqs]at hcs;have hcs:cs'=(es++[((⟨label,he1,be1,[]⟩:g_api_Node),FH)]).flatMap EB:=by rw[hcs,List.flatMap_append]; rfl
 have hln:(qs++[q0]).length=(es++[((⟨label,he1,be1,[]⟩:g_api_Node),FH)]).length:=by simp[hql]
 obtain⟨⟨a,c,ev'⟩,_⟩:=St.rowVal S7 (i:=1) rfl;have hc1:v'.cells= #[v']:=by rw[ev']; rfl
 have ho1:v'.oneCell'=true:=by rw[ev']; rfl
 refine s_st (i:=0) (u:=v') S7 h6 rfl rfl (by rw[hc1]; exact sizeOf33) (fun c hc=>by rw[hc1]at hc; simp at hc; subst hc; exact ho1) (by rw[hc1]; simp) fun w3 S8=>Ap ?_;refine hk () trivial m1 _ w3 l1 (fun t ht=> ?_) .nil ?_
 ·repeat (first|exact rfl|refine(Db rfl ht).trans ?_)
 ·rw[hcs,hln,hc1]at S8;have S9:St m1 (bx b [v'] 33::(row 4 v' ((es++[((⟨label,he1,be1,[]⟩:g_api_Node),FH)]).flatMap EB) (es++[((⟨label,he1,be1,[]⟩:g_api_Node),FH)]).length::((es.map fun e=>row 1 e.2 (e.1.Kids.map vI) e.1.Kids.length)++(bx b17 [vS label,vI he1,vI be1,FH] 80::As)))) w3:=S8;have S10:=Wm S9;have S11:St m1 (bx b17 [vS label,vI he1,vI be1,FH] 80::(bx b [v'] 33::(Cr (es++[((⟨label,he1,be1,[]⟩:g_api_Node),FH)]) v'++As))) w3:=by
   refine S10.perm ?_;unfold Cr;rw[Adj];have p1:(row 1 FH [] 0::(bx b [v'] 33::(row 4 v' ((es++[((⟨label,he1,be1,[]⟩:g_api_Node),FH)]).flatMap EB) (es++[((⟨label,he1,be1,[]⟩:g_api_Node),FH)]).length::((es.map fun e=>row 1 e.2 (e.1.Kids.map vI) e.1.Kids.length)++(bx b17 [vS label,vI he1,vI be1,FH] 80::As))))).Perm
     (bx b [v'] 33::(row 4 v' ((es++[((⟨label,he1,be1,[]⟩:g_api_Node),FH)]).flatMap EB) (es++[((⟨label,he1,be1,[]⟩:g_api_Node),FH)]).length::((es.map fun e=>row 1 e.2 (e.1.Kids.map vI) e.1.Kids.length)++(row 1 FH [] 0::(bx b17 [vS label,vI he1,vI be1,FH] 80::As))))):=
    (Adu ..).trans (Adr _ ((Adu ..).trans (Adr _ List.perm_middle.symm)))
   refine p1.trans ?_;have p2: ∀(A B C X:Ow) (L R:List Ow),(A::(B::(L++(C::(X::R))))).Perm (X::(A::((B::(L++[C]))++R))):=fun A B C X L R=>by
    have e1:A::(B::(L++(C::(X::R))))=(A::B::(L++[C]))++(X::R):=by simp
    have e2:X::(A::((B::(L++[C]))++R))=X::((A::B::(L++[C]))++R):=by simp
    rw[e1,e2];exact Adw
   exact p2 _ _ _ _ _ _
  have S12:=St.closeBox (cs:=[.d (.s label),.d (.i he1),.d (.i be1),.d (.v FH)]) (η:=η) e17 (.cons (.d (.s _)) (.cons (.d (.i _)) (.cons (.d (.i _)) (.cons (.d (.v _ rfl)) .nil)))) ho S11;have S13:St m1 (bx b [v'] 33::(Cr (es++[((⟨label,he1,be1,[]⟩:g_api_Node),FH)]) v'++(rep η m1 (.box n17 [.d (.s label),.d (.i he1),.d (.i be1),.d (.v FH)] 80)::As))) w3:=S12.perm ((Adu ..).trans (Adr _ List.perm_middle.symm));exact Ip hb (by rw[Adj,he]; rfl) S13
def QF (es:NE):List Ow:=es.map fun e=>row 1 e.2 (e.1.Kids.map vI) e.1.Kids.length
def A21 (es:NE)(v:Value)(b b13:Nat)(ni:Int)(zs:List Int)(As:List Ow)(c:Bool)(u:Value):List Ow:=bx b [v] 33::(row 4 v (es.flatMap EB) es.length::((bif c then(QF es).set ni.toNat (row 1 u (zs.map vI) zs.length)else QF es)++(bx b13 [vI ni] 3::As)))
theorem Aaz {es:NE}{v u:Value}{b b13:Nat}{ni:Int}{zs:List Int}{As:List Ow}{c:Bool}:(A21 es v b b13 ni zs As c u)[es.length+2]? =some (bx b13 [vI ni] 3):=by
 have hl:es.length=(bif c then(QF es).set ni.toNat (row 1 u (zs.map vI) zs.length)else QF es).length:=by
  cases c<;>simp[QF]
 unfold A21;rw[List.getElem?_cons_succ,List.getElem?_cons_succ,AdF (Nat.le_of_eq hl.symm),←hl,Nat.sub_self];rfl
theorem Z2: ∀{l:List Nat} {t:Nat},Cs t l=false→Mj t l=false
 | [],_,_=>rfl
 |a::l,t,h=>by
  simp only[Cs,Mj,Bool.cond_eq_ite]at h⊢;by_cases e:a=t
  ·subst e; simp at h
  ·have e': ¬t=a:=fun q=>e q.symm;simp_all[Z2 (l:=l) (t:=t)]
theorem WX: ∀{es:NE} {j:Nat} {e:g_api_Node×Value},es[j]? =some e→((es.flatMap EB).drop (j*4+3)).take 1=[e.2]
 | [],j,e,h=>by simp at h
 |a::es,0,e,h=>by cases h; rfl
 |a::es,j+1,e,h=>by
  have ih:=WX (es:=es) (j:=j) (by simpa using h);rw[Adq,show(j+1)*4+3=(j*4+3)+1+1+1+1 by omega];exact ih
theorem h7_21 (n n13:Nat)(ns:List g_api_Node)(ni k:Int)(x:g_api_Node)(zs':List Int)(hx:idx ns ni=some x)(hq:app 8 x.Kids [k]=some zs'):Hc prog 97 (Kj f7 (EH 21)) [(6,.pb n 0),(13,.pb n13 0),(15,.d (.i k))] [ndR n ns,.box n13 [.d (.i ni)] 3] [63,64,65,66,67,68,69,70,71,72,73,74] (fun _:Unit=>True)
  (fun _=> []) (fun _=> [ndR n (ns.set ni.toNat {x with Kids:=zs'}),.box n13 [.d (.i ni)] 3]):=by
 intro ρ D0 Q As η m f w rr S hk;obtain⟨r6,rr⟩:=Et rr;obtain⟨r13,rr⟩:=Et rr;obtain⟨r15,rr⟩:=Et rr;have h15:f 15=vI k:=r15.i_inv;obtain⟨b,es,v,hb,h6,he,S1⟩:=Kl S r6;obtain⟨h0,hn,e,hj,rfl⟩:=Aco he hx;have S2:St m (rep η m (.box n13 [.d (.i ni)] 3)::(bx b [v] 33::(Cr es v++As))) w:=by
  refine S1.perm ?_;have:(bx b [v] 33::(Cr es v++(rep η m (.box n13 [.d (.i ni)] 3)::As))).Perm (bx b [v] 33::(rep η m (.box n13 [.d (.i ni)] 3)::(Cr es v++As))):=Adr _ Adw;exact this.trans (.swap ..)
 obtain⟨b13,vs,e13,rv,ho,S3⟩:=St.openBox S2;have rv0:=rv;obtain⟨v1,us,rfl,q1,rv⟩:=rv.cons_inv;obtain rfl:=rv.nil_inv;have q1:=q1.i_inv;subst q1;obtain⟨b13',e13',h13⟩:=r13.pb_inv;rw[e13]at e13';cases e13';have S4:=S3.perm (Adu ..);have S5:St m (A21 es v b b13 ni zs' As false undef) w:=S4.perm (Adr _ List.perm_middle.symm);have hjl:ni.toNat<es.length:=(AcX.1 hj).1;have HM:DT [(63,fun(M:Mem) (u:Value)=>u=v),(64,fun(M:Mem) (u:Value)=>u=vI ni),(65,fun(M:Mem) (u:Value)=>u=v),(66,fun(M:Mem) (u:Value)=>u=vI ni),(67,fun(M:Mem) (u:Value)=> ∃p,u=p∧PtO v p (ni.toNat*4)),(68,fun(M:Mem) (u:Value)=> ∃p,u=p∧PtO v p (ni.toNat*4+3)),(69,fun(M:Mem) (u:Value)=>u=e.2),(70,fun(M:Mem) (u:Value)=>u=vI k),(71,fun(M:Mem) (u:Value)=> ∃p,u=p∧SlR M p [k]),(72,fun _ _=>True),(73,fun(M:Mem) (u:Value)=> ∃p,u=p∧PtO v p (ni.toNat*4)),(74,fun(M:Mem) (u:Value)=> ∃p,u=p∧PtO v p (ni.toNat*4+3))]:=
  ⟨(fun _ _ _ _ h=>h),(fun _ _ _ _ h=>h),(fun _ _ _ _ h=>h),(fun _ _ _ _ h=>h),(fun _ _ _ _ h=>h),(fun _ _ _ _ h=>h),(fun _ _ _ _ h=>h),(fun _ _ _ _ h=>h),(fun _ _ _ l ⟨v1,e,h3⟩=>⟨v1,e,h3.up l⟩),(fun _ _ _ _ h=>h),(fun _ _ _ _ h=>h),(fun _ _ _ _ h=>h),trivial⟩
 refine Jd HM 12 rfl rfl rfl rfl [63,64,65,66,67,68,69,70,71,72,73,74] (fun L f M w=>St M (A21 es v b b13 ni zs' As (L 9) (f 72)) w) (St.drew S5 _) ?_ ?_
 ·refine⟨?_,?_,?_,?_,?_,?_,?_,?_,?_,?_,?_,?_,trivial⟩
  ·intro L f2 w2 hL hd hc ⟨m2,l2,S2,K,hO⟩;obtain⟨u2,rfl⟩:=Bt (N:=97) (L:=[]) hO trivial;exact I8 (i:=0) (agg:=false) (cs:=[v]) S2 h6 rfl isAgg33 sizeOf33 rfl (fun _=>rfl)<|oS HM l2 S2 rfl K rfl rfl rfl DL
  ·intro L f2 w2 hL hd hc ⟨m2,l2,S2,K,hO⟩;obtain⟨u2,rfl⟩:=Bt (N:=97) (L:=[]) hO trivial;exact I8 (i:=es.length+2) (agg:=false) (cs:=[vI ni]) S2 h13 Aaz isAgg3 sizeOf3 rfl (fun _=>rfl)<|oS HM l2 S2 rfl K rfl rfl rfl DL
  ·intro L f2 w2 hL hd hc ⟨m2,l2,S2,K,hO⟩;obtain⟨u2,rfl⟩:=Bt (N:=97) (L:=[]) hO trivial;exact I8 (i:=0) (agg:=false) (cs:=[v]) S2 h6 rfl isAgg33 sizeOf33 rfl (fun _=>rfl)<|oS HM l2 S2 rfl K rfl rfl rfl DL
  ·intro L f2 w2 hL hd hc ⟨m2,l2,S2,K,hO⟩;obtain⟨u2,rfl⟩:=Bt (N:=97) (L:=[]) hO trivial;exact I8 (i:=es.length+2) (agg:=false) (cs:=[vI ni]) S2 h13 Aaz isAgg3 sizeOf3 rfl (fun _=>rfl)<|oS HM l2 S2 rfl K rfl rfl rfl DL
  ·intro L f2 w2 hL hd hc ⟨m2,l2,S2,K,hO⟩;obtain⟨u2,rfl⟩:=Bt (N:=97) (L:=[(65,_),(66,_)]) hO ⟨K 2 (dep hd rfl),K 3 (dep hd rfl),trivial⟩;exact Nv (i:=1) (k:= .i64) (j:=ni) S2 rfl rfl rfl h0 hn underlying33 sizeOf80 fun p hp=>oS HM l2 S2 rfl K rfl rfl ⟨p,rfl,hp⟩ DL
  ·intro L f2 w2 hL hd hc ⟨m2,l2,S2,K,hO⟩;obtain⟨p,ep,hp⟩:=K 4 (dep hd rfl);obtain⟨u2,rfl⟩:=Bt (N:=97) (L:=[(67,_)]) hO ⟨ep,trivial⟩;exact Qg (fo:=3) (n:=0) rfl hp underlying80 rfl rfl sizeOf43 fun p hp=>oS HM l2 S2 rfl K rfl rfl ⟨p,rfl,hp⟩ DL
  ·intro L f2 w2 hL hd hc ⟨m2,l2,S2,K,hO⟩;obtain⟨p,ep,hp⟩:=K 5 (dep hd rfl);obtain⟨u2,rfl⟩:=Bt (N:=97) (L:=[(68,_)]) hO ⟨ep,trivial⟩;exact Aa9 (i:=1) (agg:=false) (d:=[e.2]) S2 rfl hp rfl (WX hj) isAgg43 sizeOf43 (fun _=>rfl)<|oS HM l2 S2 rfl K rfl rfl rfl DL
  ·intro L f2 w2 hL hd hc ⟨m2,l2,S2,K,hO⟩;obtain⟨u2,rfl⟩:=Bt (N:=97) (L:=[]) hO trivial;exact BH (v:=vI k) h15<|oS HM l2 S2 rfl K rfl rfl rfl DL
  ·intro L f2 w2 hL hd hc ⟨m2,l2,S2,K,hO⟩;obtain⟨u2,rfl⟩:=Bt (N:=97) (L:=[(70,_)]) hO ⟨K 7 (dep hd rfl),trivial⟩;exact X8 (α:=Int) (parts:=[.tmp 70]) (vs:=[vI k]) (xs:=[k]) S2 underlying43 sizeOf3 zeroValue3 rfl ⟨[vI k],[],rfl,rfl,rfl⟩ (fun v hv=>by simp at hv; subst hv; rfl) rfl rfl (by decide) (by decide) fun u m3 w3 l3 S3 hu=>
    oS HM (Mem.tr l2 l3) S3 rfl (Tw HM K l3) rfl rfl ⟨u,rfl,hu⟩ DL
  ·intro L f2 w2 hL hd hc ⟨m2,l2,S2,K,hO⟩;have d9:L 9=false:=hL;have S3:St m2 (A21 es v b b13 ni zs' As (L 9) (f2 72)) w2:=S2;rw[d9]at S3;obtain⟨p,ep,hp⟩:=K 8 (dep hd rfl);obtain⟨u2,rfl⟩:=Bt (N:=97) (L:=[(69,_),(71,_)]) hO ⟨K 6 (dep hd rfl),ep,trivial⟩;have hat:(bx b [v] 33::(row 4 v (es.flatMap EB) es.length::(QF es++(bx b13 [vI ni] 3::As))))[ni.toNat+2]? =some (row 1 e.2 (e.1.Kids.map vI) e.1.Kids.length):=by
    rw[List.getElem?_cons_succ,List.getElem?_cons_succ,AdU (by simpa[QF]using hjl)];unfold QF;rw[Ac9,hj];rfl
   refine VF (α:=Int) (i:=ni.toNat+2) (xs:=e.1.Kids) (zs:=zs') (bytes:=8) (ti:=t3) S3 (show _=e.2 from rfl) hat (Pm _) (by simp) rfl hp hq underlying43 type3 rfl rfl rfl rfl fun v' cs' w3 S4 hr=> ?_;obtain rfl:=Lq hr;refine oS HM l2 ?_ rfl K rfl rfl trivial DL;show St m2 (A21 es v b b13 ni zs' As true v') w3;have e1:(A21 es v b b13 ni zs' As false (ups 97 (hv f [63,64,65,66,67,68,69,70,71,72,73,74] u2) [(69,e.2),(71,p)] 72)).set (ni.toNat+2) (row (GoT.sz Int) v' (zs'.map vI) zs'.length)=A21 es v b b13 ni zs' As true v':=by
    show(bx b [v] 33::(row 4 v (es.flatMap EB) es.length::(QF es++(bx b13 [vI ni] 3::As)))).set (ni.toNat+2) _=_;rw[List.set_cons_succ,List.set_cons_succ,List.set_append,AcZ (by simpa[QF]using hjl)];rfl
   rw[←e1];exact S4
  ·intro L f2 w2 hL hd hc ⟨m2,l2,S2,K,hO⟩;obtain⟨u2,rfl⟩:=Bt (N:=97) (L:=[(63,_),(64,_)]) hO ⟨K 0 (dep hd rfl),K 1 (dep hd rfl),trivial⟩;exact Nv (i:=1) (k:= .i64) (j:=ni) S2 rfl rfl rfl h0 hn underlying33 sizeOf80 fun p hp=>oS HM l2 S2 rfl K rfl rfl ⟨p,rfl,hp⟩ DL
  ·intro L f2 w2 hL hd hc ⟨m2,l2,S2,K,hO⟩;obtain⟨p,ep,hp⟩:=K 10 (dep hd rfl);obtain⟨u2,rfl⟩:=Bt (N:=97) (L:=[(73,_)]) hO ⟨ep,trivial⟩;exact Qg (fo:=3) (n:=0) rfl hp underlying80 rfl rfl sizeOf43 fun p hp=>oS HM l2 S2 rfl K rfl rfl ⟨p,rfl,hp⟩ DL
 intro L f2 w2 hall ⟨m2,l2,S2,K,hO⟩;have d9:L 9=true:=hall 9 (by decide);have d11:L 11=true:=hall 11 (by decide);have S3:St m2 (A21 es v b b13 ni zs' As (L 9) (f2 72)) w2:=S2;rw[d9]at S3;obtain⟨v',e72⟩: ∃x,f2 72=x:=⟨_,rfl⟩;rw[e72]at S3;obtain⟨p,ep,hp⟩:=K 11 d11;obtain⟨u2,rfl⟩:=Bt (N:=97) (L:=[(72,_),(74,_)]) hO ⟨e72,ep,trivial⟩;have hat:(A21 es v b b13 ni zs' As true v')[ni.toNat+2]? =some (row 1 v' (zs'.map vI) zs'.length):=by
  show(bx b [v] 33::(row 4 v (es.flatMap EB) es.length::((QF es).set ni.toNat (row 1 v' (zs'.map vI) zs'.length)++(bx b13 [vI ni] 3::As))))[ni.toNat+2]? =_;rw[List.getElem?_cons_succ,List.getElem?_cons_succ,AdU (by simpa[QF]using hjl),List.getElem?_set,AcZ rfl,AcZ (by simpa[QF]using hjl)]
 have hcells:=St.rowCells S3 hat;refine X3 (i:=1) (u:=v') S3 rfl rfl hp rfl (by rw[hcells.1]; exact sizeOf43) (fun c hc=>by rw[hcells.1]at hc; simp at hc; subst hc; exact hcells.2) (by rw[hcells.1,Yz]; simp; omega) fun w' S6=>Ap ?_;refine hk () trivial m2 _ w' l2 (fun t ht=> ?_) .nil ?_
 ·exact(DL:Out [63,64,65,66,67,68,69,70,71,72,73,74] _ f) t (Z2 ht)
 ·rw[hcells.1]at S6;have e2:(QF es).set ni.toNat (row 1 v' (zs'.map vI) zs'.length)=QF (es.set ni.toNat ({e.1 with Kids:=zs'},v')):=by
   unfold QF; rw[List.map_set]
  have S7:St m2 (bx b [v] 33::(Cr (es.set ni.toNat ({e.1 with Kids:=zs'},v')) v++(bx b13 [vI ni] 3::As))) w':=by
   have e3:=Js (e:=e) (e':=({e.1 with Kids:=zs'},v')) (o:=3) (u:=v') (by decide) rfl hj;unfold Cr;show St m2 (bx b [v] 33::(row 4 v ((es.set ni.toNat ({e.1 with Kids:=zs'},v')).flatMap EB) (es.set ni.toNat ({e.1 with Kids:=zs'},v')).length::(QF (es.set ni.toNat ({e.1 with Kids:=zs'},v'))++_))) w';rw[←e3,←e2,AdK];exact S6
  have S8:St m2 (bx b13 [vI ni] 3::(bx b [v] 33::(Cr (es.set ni.toNat ({e.1 with Kids:=zs'},v')) v++As))) w':=by
   refine S7.perm ?_;exact(Adr _ Adw).trans (.swap ..)
  have S9:=St.closeBox (η:=η) e13 (rv0.up Env.le_refl l2) ho S8;have S10:St m2 (bx b [v] 33::(Cr (es.set ni.toNat ({e.1 with Kids:=zs'},v')) v++(rep η m2 (.box n13 [.d (.i ni)] 3)::As))) w':=S9.perm ((Adu ..).trans (Adr _ List.perm_middle.symm));exact Ip hb (O5 he ni.toNat ({e.1 with Kids:=zs'},v')) S10
def blankN:g_api_Node:=⟨⟨#[]⟩,-1,-1,[]⟩
def BY (label:ByteArray)(s:List g_api_Node×Int):Option (List g_api_Node×Int):=Ab (DZ s.1 s.2 label) fun r=>if(!r.2)=true then Ab (idx s.1 s.2) fun x=>Ab (app 8 x.Kids [(s.1.length:Int)]) fun zs=>Ab (app 56 (s.1.set s.2.toNat {x with Kids:=zs}) [(⟨label,-1,-1,[]⟩:g_api_Node)]) fun ns'=>some (ns',(s.1.length:Int))else some (s.1,r.1)
def BZ (i:Int)(_:Int)(p:ByteArray)(ns:List g_api_Node):Option (List g_api_Node):=Ab (BU p (⟨#[42,46]⟩:ByteArray)) fun q=>Ab (Eh q.1) fun x1=>Ab (B6 (fun(s:List g_api_Node×Int) (b0:ByteArray)=>Ab (BY b0 s) fun y=>some (true,y)) x1 (ns,0)) fun x2=>Ab (idx x2.2.1 x2.2.2) fun x=>if q.2=true then some (x2.2.1.set x2.2.2.toNat {x with Below:=i})else some (x2.2.1.set x2.2.2.toNat {x with Here:=i})
def Cm (a0:List g_api_Rule)(i:Int)(ns:List g_api_Node):Option (List g_api_Node):=Ab (idx a0 i) fun r=>Ab (Iz (BZ i) r.Pats 0 ns) fun y=>some y
def Bv (a0:List g_api_Rule):Option (AZ×Int):=Ab (DK a0) fun x1=>if(x1 !=0)=true then some (⟨[],[]⟩,x1)else Ab (C8 (Cm a0) a0.length 0 [blankN]) fun ns=>Ab (AW a0) fun c=>some (⟨c,ns⟩,0)
def eRaw (x:g_api_Node):List D:=[.s x.Label,.i x.Here,.i x.Below,.v FH]
theorem Y7 {nb nr:Nat}{η:Env}{m:Mem}{As:List Ow}{w:World}(S:St m ([.box nb [.ow nr] 33,.row nr 4 _ eRaw [blankN]].map (rep η m)++As) w): ∃m',m≤m'∧St m' ([ndR nb [blankN]].map (rep η m')++As) w:=by
 refine⟨m,Mem.rfl' m,?_⟩;obtain⟨b,vs,hb,rv,ho,S1⟩:=St.openBox (As:=rep η m (.row nr 4 _ eRaw [blankN])::As) S;obtain⟨v,us,rfl,r1,rv⟩:=rv.cons_inv;obtain rfl:=rv.nil_inv;obtain⟨e1,_⟩:=r1.ow_inv;obtain⟨v',cs,e2,h1,h2,h3,S2⟩:=St.openRow (S1.perm (.swap ..));rw[e1]at e2;cases e2;have hcs:cs=[(blankN,FH)].flatMap EB:=by
  have h2:FRL m [.s blankN.Label,.i blankN.Here,.i blankN.Below,.v FH] cs:=h2;obtain⟨u1,us,rfl,q1,h2⟩:=h2.cons_inv;obtain⟨u2,us,rfl,q2,h2⟩:=h2.cons_inv;obtain⟨u3,us,rfl,q3,h2⟩:=h2.cons_inv;obtain⟨u4,us,rfl,q4,h2⟩:=h2.cons_inv;obtain rfl:=h2.nil_inv;cases q1; cases q2; cases q3; cases q4;rfl
 subst hcs;have S3:=Wm S2;have S4:St m (bx b [v] 33::(Cr [(blankN,FH)] v++As)) w:=by
  refine S3.perm ?_;show(row 1 FH [] 0::(row 4 v _ 1::(bx b [v] 33::As))).Perm (bx b [v] 33::(row 4 v _ 1::(row 1 FH [] 0::As)));exact(Adu ..).trans ((Adr _ (.swap ..)).trans (.swap ..))
 exact Ip hb rfl S4
theorem cv_frz {n:Nat}{ns:List g_api_Node}{η:Env}{m:Mem}{As:List Ow}{w:World}(S:St m ([ndR n ns].map (rep η m)++As) w): ∃m',m≤m'∧St m' ([.box n [sl Ao ns] 33].map (rep η m')++As) w:=by
 obtain⟨b,hb,S1⟩:=St.openHp S;obtain⟨⟨es,v⟩,he,S2⟩:=St.openX S1;have P1:St m (Cr es v++(bx b [v] 33::As)) w:=by
  refine St.perm S2 ?_;exact List.perm_middle.symm
 have P2:St m (Sh es v::(bx b [v] 33::As)) w:=St.closeX () trivial P1;obtain⟨h1,a1,d1,SL⟩:=St.lend P2;have hv:v.oneCell'=true:=by
  obtain⟨_,_,x1,x2,a,_⟩:=a1;rcases a with ⟨e1,_⟩|⟨b,cap,l,el,fr,e1,_⟩
  ·rw[e1]; rfl
  ·rw[e1]; rfl
 refine⟨_,Mem.le_join,St.closeBox hb (.cons (.d (by rw[←he]; exact W3 a1 fun k o q=>Pc d1 q)) .nil) (fun u hu=>by simp at hu; subst hu; exact hv) SL⟩
theorem Hf {a0:List g_api_Rule}{r:AZ×Int}(hm:Bv a0=some r):Sf prog 7 [sl Ac a0] (.tup [ag (Ha r.1),.d (.i r.2)]):=
 spR call7 func7 rfl ntmps7 rfl fun D0 As η0 m0 hD hd=>by
  unfold Bv at hm;refine gD hm IB fun x1 q1 hm=>gi hm ?_ ?_<;>intro _ hm
  ·exact AcO hm▸gE
  refine glit (k:=4) eRaw [blankN] (fun _=>rfl)<|gcvG (EH 6) [4,3] [ndR 4 [blankN]] (fun _ _ _ _=>Y7 (nb:=4) (nr:=3)) ?_;refine oB hm fun ns q1 hm=>JR 0 (E:=Ac) (xs:=a0) 27 fun hle1=>gF (EM _ _ _) q1 (fun p0 p=>⟨[(0,sl Ac a0),(2,.pb 0 0),(5,.pb 1 0),(6,.pb 3 0),(27,sl Ac a0),(28,.d (.i (a0.length:Int))),(29,.d (.i p0))],[(0,.box 0 [.d (.v FH),.d (.v FH)] 35),(1,.box 1 [.d (.s ⟨#[]⟩),.d (.i (-1)),.d (.i (-1)),.d (.v FH)] 80),(2,ndR 3 p)],[],4⟩) fun i1 s1 Jl bl1=>cM bl1 (a0.length:Int) (fun _ q5 bl1=> ?_) fun e=> ?_
  ·unfold Cm at q5;refine oB q5 fun x5 q7 q5=>gx Ac 7 q7<|oB q5 fun y5 q9 q5=>JR 2 (E:=eS) (xs:=x5.Pats) 35 fun hle2=>gF (E0 _ _ _) q9 (fun p0 p=>⟨[(0,sl Ac a0),(2,.pb 0 0),(5,.pb 1 0),(6,.pb 3 0),(7,.d (.i (i1:Int))),(27,sl Ac a0),(28,.d (.i (a0.length:Int))),(29,.d (.i (i1:Int))),(35,sl eS x5.Pats),(36,.d (.i (x5.Pats.length:Int))),(37,.d (.i p0))],[(0,.box 0 [.d (.v FH),.d (.v FH)] 35),(1,.box 1 [.d (.s ⟨#[]⟩),.d (.i (-1)),.d (.i (-1)),.d (.v FH)] 80),(2,ndR 3 p)],[],4⟩) fun i2 s2 Jl bl2=>c0 bl2 (fun x7 _ q13 q12 bl2=> ?_) fun e=> ?_
   ·unfold BZ at q12;refine gx eS 1 q13<|gA q12 FK fun q q15 q12=>gD q12 Jj fun x1 q16 q12=>oB q12 fun x2 q17 q12=>H8 hD (n0:=0) 6 6 [⟨5,5,9,[.d (.s x1)],[.d (.s x2.1)]⟩] (gt:=47) (ps:=[48]) [(0,sl Ac a0),(2,.pb 0 0),(5,.pb 1 0),(6,.pb 3 0),(7,.d (.i (i1:Int))),(12,.d (.t q.2)),(13,.pb 4 0),(27,sl Ac a0),(28,.d (.i (a0.length:Int))),(29,.d (.i (i1:Int))),(35,sl eS x5.Pats),(36,.d (.i (x5.Pats.length:Int))),(37,.d (.i (i2:Int))),(47,.fn (.func 89) [] [.pb 5 0])] (fun(y1:List g_api_Node×Int)=> [(0,.box 0 [.d (.v FH),.d (.v FH)] 35),(1,.box 1 [.d (.s ⟨#[]⟩),.d (.i (-1)),.d (.i (-1)),.d (.v FH)] 80),(2,ndR 3 y1.1),(3,.box 4 [.d (.i y1.2)] 3)]) (fun(_:Unit)=> []) (fun x=> [.d (.s x)]) (fun(s1:List g_api_Node×Int) (b6:ByteArray)=>⟨[(0,sl Ac a0),(2,.pb 0 0),(5,.pb 1 0),(6,.pb 3 0),(7,.d (.i (i1:Int))),(12,.d (.t q.2)),(13,.pb 4 0),(14,.d (.s b6)),(27,sl Ac a0),(28,.d (.i (a0.length:Int))),(29,.d (.i (i1:Int))),(35,sl eS x5.Pats),(36,.d (.i (x5.Pats.length:Int))),(37,.d (.i (i2:Int))),(47,.fn (.func 89) [] [.pb 5 0])],[(0,.box 0 [.d (.v FH),.d (.v FH)] 35),(1,.box 1 [.d (.s ⟨#[]⟩),.d (.i (-1)),.d (.i (-1)),.d (.v FH)] 80),(2,ndR 3 s1.1),(3,.box 4 [.d (.i s1.2)] 3)],[],6⟩) (pN fun x s=>BY x s) (s2,0) hd (via Sum.inl hyN rfl fun g R h=>HA q17 g R h) rfl (fun _=>rfl) (fun _=>rfl) (fun _=>rfl) (fun _=>rfl) ?_ ?_ ?_ ?_
    ·intro s1 b6 s' hp l D0 As η0 m0 hd Ja ba;exact gb ba hd () trivial
    ·intro s3 b6 s' hp l D0 As η0 m0 hd Jb bb Jr br;obtain⟨z1,q3,hp⟩:=AcU.1 hp;subst hp;unfold BY at q3;refine oB q3 fun r q4 q3=>ghc (EH 16) [3,4] (h7_16 3 4 s3.1 s3.2 b6 r q4) fun _ _=>gi q3 ?_ ?_<;>intro _ q3
     ·refine oB q3 fun x q5 q3=>oB q3 fun zs q6 q3=>oB q3 fun ns' q7 q3=>ghc (EH 18) [3] (h7_18 3 s3.1) fun _ _=>ghc (EH 21) [3,4] (h7_21 3 4 s3.1 s3.2 s3.1.length x zs q5 q6) fun _ _=>ghc (EH 22) [3,6] (h7_22 3 6 _ ns' b6 (-1) (-1) q7) fun _ _=> ?_;obtain rfl:=AcO q3;exact gb bb hd (ns',(s3.1.length:Int)) rfl
     obtain rfl:=AcO q3;exact gb bb hd (s3.1,r.1) rfl
    ·intro x hx;have hx:=Sum.inl.inj hx;subst hx;refine oB q12 fun x q18 q12=>gi q12 ?_ ?_<;>intro _ q12
     ·refine ghc (EH 25) [3,4] (h7_25 3 4 x2.2.1 x2.2.2 i1 x q18) fun _ _=> ?_;exact gM bl2 hle2 q12
     ·refine ghc (EH 26) [3,4] (h7_26 3 4 x2.2.1 x2.2.2 i1 x q18) fun _ _=> ?_;exact gM bl2 hle2 q12
    ·intro y hy;cases hy
   ·subst e;exact gM bl1 hle1 q5
  ·subst e;refine gcvG (EH 29) [3] [.box 3 [sl Ao ns] 33] (fun _ _ _ _=>cv_frz)<|gD hm Eo fun c q3 hm=> ?_;exact AcO hm▸gE
def wr (bs:List UInt8)(s:ByteArray):Option (List UInt8):=if bs.length+s.size≤140737488355328 then some (bs++s.data.toList)else none
def AbR (xs:List ByteArray):Option ByteArray:=if xs.length≤140737488355328∧(CA xs).length≤140737488355328 then some ⟨(CA xs).toArray⟩else none
def QI (n:Int):Option ByteArray:=if-9223372036854775808≤n∧n≤9223372036854775807 then some ⟨(Lib.itoa n).toArray⟩else none
def XT (u:UInt64):ByteArray:=⟨(Lib.decDigits u.toNat).toArray⟩
def I0 (b:Bool):ByteArray:=bif b then⟨#[97,108,108,111,119,32]⟩else⟨#[114,101,102,117,115,101,32]⟩
def IM:ByteArray:=⟨#[59,32]⟩
def CP (a0:List g_api_Rule)(i:Int)(bs:List UInt8):Option (List UInt8):=Ab (idx a0 i) fun x=>Ab (AbR x.Pats) fun j=>Ab (wr bs (I0 x.Allow++x.Name++⟨#[32,123,32]⟩++j++IM)) fun b1=>Ab (if decide ((x.KeyMin.toNat:Int)>0)=true then wr b1 (⟨#[107,101,121,32]⟩++XT x.KeyMin++IM)else some b1) fun b2=>Ab (if x.Allow=true then Ab (QI x.LifeMax) fun t=>wr b2 (⟨#[108,105,102,101,32]⟩++t++IM)else some b2) fun b3=>Ab (if decide (x.Most>0)=true then Ab (QI x.Most) fun t=>Ab (QI x.Window) fun u=>wr b3 (⟨#[109,111,115,116,32]⟩++t++⟨#[32,112,101,114,32]⟩++u++IM)else some b3) fun b4=>wr b4 ⟨#[125,10]⟩
def Dq (a0:List g_api_Rule):Option (List UInt8×Int):=Ab (E1 a0) fun e=>if(e !=0)=true then some ([],e)else Ab (C8 (CP a0) a0.length 0 []) fun bs=>some (bs,0)
theorem _root_.Go.Gw.St.forget {m:Mem}{A:Ow}{As:List Ow}{w:World}(S:St m (A::As) w):St m As w:=by
 obtain⟨x,⟨h1,h2,a1,s2,d,rfl⟩,dj,g,g',nd⟩:=S.own;exact⟨S.os,S.tape,S.output,h2,s2,(PH.disj_join.1 dj).2,g,((PH.agree_join d).1 g').2,nd.left.join ((nd.right dj).right d)⟩
def LoB (As:List Ow)(b:Nat):Ow:=fun h=>sepL As h∧∀k o,h k=some o→k<b
theorem lob_in {As:List Ow}{m:Mem}{w:World}{b:Nat}(S:St m (LoB As b::[]) w):St m As w:=by
 obtain⟨x,⟨h1,h2,⟨a1,_⟩,s2,d,rfl⟩,dj,g,g',nd⟩:=S.own;have:h2=PH.emp:=s2;subst this;rw[PH.join_emp]at*;exact⟨S.os,S.tape,S.output,h1,a1,dj,g,g',nd⟩
section
variable {ρ:Option Nat}{N:Nat}{D:Dw}{ops:Array Oper}{rest:List Oper}{Q:B9}{f:Fr}{w:World}{dst:Option Nat}{ty t t':TypeId}{pos:String}{af:Array Edge}{x y z:Operand}{m:Mem}{As:List Ow}
theorem K6 {p q:ByteArray}(hx:ev f x=vS p)(hy:ev f y=vS q)(hc:p.size+q.size≤9223372036854775807)(h:wpl ρ prog N D ops rest Q (upo N f dst (vS (p++q))) w):
  wpl ρ prog N D ops (⟨dst,.binOp .add t x y t',ty,pos,af,none⟩::rest) Q f w:=by
 refine Ak (v:=vS (p++q)) (w':=w) rfl (fun _ e=>by cases e) ?_ h;have hc': ¬((9223372036854775807:Int)<(p.size:Int)+(q.size:Int)):=by omega
 simp[execOp,hx,hy,eqGuard,binOp,Op.stringOp,hc']
theorem VG (S:St m As w)(h: ∀b w',(∀k o,m.heap k=some o→k<b)→St m (Ra b []::LoB As b::[]) w'→wpl ρ prog N D ops rest Q (upo N f dst (pt b 0)) w'):
  wpl ρ prog N D ops (⟨dst,.alloc 98,ty,pos,af,none⟩::rest) Q f w:=by
 obtain⟨x,s,d,g,g',nd⟩:=S.own;have hm: ∀k o,m.heap k=some o→k<w.heap.size:=fun k o q=>PH.lt_of_agree g q;have hx: ∀k o,x k=some o→k<w.heap.size:=fun k o q=>PH.lt_of_agree g' q;have S1:St m (LoB As w.heap.size::[]) w:=⟨S.os,S.tape,S.output,x,⟨x,PH.emp,⟨s,hx⟩,rfl,fun k=> .inr rfl,(PH.join_emp x).symm⟩,d,g,g',nd⟩;refine Ak (v:=pt w.heap.size 0) (w':=w.alloc (.cells #[.slice none 0 0,.int .i64 0,.int .i8 0] 98)) rfl (fun _ e=>by cases e) ?_ (h _ _ hm ?_) (Kd.push _ _)
 ·simp only[execOp,Instr.alloc,newVar,newRow,newObj,Ac7,zeroValue98,AcW,Sem.run,Ac6];rfl
 ·have S2:=S1.push (.cells #[.slice none 0 0,.int .i64 0,.int .i8 0] 98 (0,0)) Bw;refine S2.imp (by simp) fun k A B ha hb y hy=> ?_;match k with
  |0=>cases ha; cases hb; exact⟨0,.inl ⟨rfl,hy⟩⟩
  |k+1=>simp only[List.getElem?_cons_succ]at ha hb; rw[ha]at hb; cases hb; exact hy
theorem find4 {w:World}{l:List MapEntry}{kv:List (Bool×ByteArray)}{c:Bool}(h:l.map (fun e=>(e.key,e.val))=kv.map fun q=>(vb q.1,vS q.2)):(Instr.findKey 4 (vb c) l).run prog w= .ok ((Ix (fun b=>c==b) kv 0).map fun q=>(q.1,vS q.2)) w:=by
 have hE: ∀x:Bool,Instr.sameNow .bool (vb c) (vb x)=some (c==x):=fun x=>by cases c<;>cases x<;>rfl
 simp only[Instr.findKey,Ac7,Ac0 underlying4,AcW,RC hE l kv 0 h,Ac6]
theorem Ua (hS:St m As w)(h: ∀b w',St m (mpV b []::As) w'→wpl ρ prog N D ops rest Q (upo N f dst (.map (some b))) w'):
  wpl ρ prog N D ops (⟨dst,.makeMap t none,ty,pos,af,none⟩::rest) Q f w:=by
 have S1:=(hS.push (.map #[] 0) HW).imp0 (B:=mpV w.heap.size []) fun h hh=>⟨#[],0,hh,rfl⟩;refine Ak (v:= .map (some w.heap.size)) (w':=w.alloc (.map #[] 0)) rfl (fun _ e=>by cases e) ?_ (h _ _ S1) (Kd.push _ _);simp only[execOp,Instr.makeMap,Option.map_none,newObj,Ac7,AcW,Sem.run,Ac6];rfl
theorem ZC {b:Nat}{kv:List (Bool×ByteArray)}{c:Bool}{s:ByteArray}(S:St m (mpV b (kv.map fun q=>(vb q.1,vS q.2))::As) w)(hq:Ix (fun b=>c==b) kv 0=none)(hx:ev f x= .map (some b))(hy:ev f y=vb c)(hz:ev f z=vS s)
  (h: ∀w',St m (mpV b ((kv++[(c,s)]).map fun q=>(vb q.1,vS q.2))::As) w'→wpl ρ prog N D ops rest Q (upo N f dst undef) w'):
  wpl ρ prog N D ops (⟨dst,.insert 99 x y z,ty,pos,af,none⟩::rest) Q f w:=by
 obtain⟨ms,cl,hbm,hms,back⟩:=St.mapV (l:=kv.map fun q=>(vb q.1,vS q.2)) S;have hf:=find4 (w:=w) (c:=c) hms;have hck:(Instr.checkKey false 10000 4 (vb c)).run prog w= .ok () w:=MQ (P:=prog) (η:=none0) (m:=m) (f:=9) (a:= .d (.t c)) (by kernel_rfl) (.d (.t c)) false 9990 w;rw[hq]at hf;have S2:=back (ms.push {key:=vb c,val:=vS s,born:=cl}) (cl+1) {w with heap:=w.heap.setIfInBounds b (.map (ms.push {key:=vb c,val:=vS s,born:=cl}) (cl+1))} rfl rfl rfl rfl;have hl:(ms.push {key:=vb c,val:=vS s,born:=cl}).toList.map (fun e=>(e.key,e.val))=(kv++[(c,s)]).map fun q=>(vb q.1,vS q.2):=by
  simp[hms]
 rw[hl]at S2;refine D5 (w':={w with heap:=w.heap.setIfInBounds b (.map (ms.push {key:=vb c,val:=vS s,born:=cl}) (cl+1))}) rfl (fun _ e=>by cases e) ?_ (h _ S2) (Kd.set hbm HW rfl);simp only[execOp,hx,hy,hz,Instr.mapUpdate,Ac7,Ac0 underlying99,AcW,MapKept.run_getObj_map hbm,hck,hf,Option.map_none,MapKept.run_setObj_map _ hbm,Ac6]
theorem Aa8 {b:Nat}{kv:List (Bool×ByteArray)}{c:Bool}{j:Nat}{s:ByteArray}(S:St m (mpV b (kv.map fun q=>(vb q.1,vS q.2))::As) w)(hq:Ix (fun b=>c==b) kv 0=some (j,s))(hx:ev f x= .map (some b))(hy:ev f y=vb c)(h:wpl ρ prog N D ops rest Q (upo N f dst (vS s)) w):
  wpl ρ prog N D ops (⟨dst,.lookup 99 x y false,ty,pos,af,none⟩::rest) Q f w:=by
 obtain⟨ms,cl,hbm,hms,_⟩:=St.mapV (l:=kv.map fun q=>(vb q.1,vS q.2)) S;have hf:=find4 (w:=w) (c:=c) hms;have hck:(Instr.checkKey ms.isEmpty 10000 4 (vb c)).run prog w= .ok () w:=MQ (P:=prog) (η:=none0) (m:=m) (f:=9) (a:= .d (.t c)) (by kernel_rfl) (.d (.t c)) ms.isEmpty 9990 w;rw[hq]at hf;have hrun:(Instr.lookup 99 (.map (some b)) (vb c) false).run prog w= .ok (vS s) w:=by
  simp only[Instr.lookup,Ac7,Ac0 underlying99,AcW,MapKept.run_getObj_map hbm,Ac6,hck,hf];simp
 exact Ak (v:=vS s) (w':=w) rfl (fun _ e=>by cases e) (by simp only[execOp,hx,hy,Ac7,hrun,AcW,Ac6]) h
end
def Z4:List (Bool×ByteArray):=[(true,⟨#[97,108,108,111,119,32]⟩),(false,⟨#[114,101,102,117,115,101,32]⟩)]
theorem AbN (c:Bool): ∃j,Ix (fun b=>c==b) Z4 0=some (j,I0 c):=by
 cases c
 ·exact⟨1,rfl⟩
 ·exact⟨0,rfl⟩
theorem hA_lo {As:List Ow}{b:Nat}: ∀h,sepL [LoB As b] h→∀k o,h k=some o→k<b∨ok5 o:=fun h ⟨h1,h2,a,e,_,q⟩ k o hk=>by
 have:h2=PH.emp:=e;subst this;rw[q,PH.join_emp]at hk;exact .inl (a.2 k o hk)
theorem hA_of {As:List Ow}{b b7:Nat}{l:List Value}: ∀h,sepL [bx b7 l 68,LoB As b] h→∀k o,h k=some o→k<b∨ok5 o:=fun h ⟨h1,h2,a,s,_,q⟩ k o hk=>by
 rw[q]at hk;cases q1:h1 k with
 |none=>exact hA_lo h2 s k o (by simpa[PH.join,q1]using hk)
 |some o1=>
  have:o1=o:=by simpa[PH.join,q1]using hk
  subst this;refine .inr fun c fz e=> ?_;have a:h1=PH.one b7 (cel l 68):=a;rw[a]at q1;unfold PH.one at q1;split at q1
  ·cases q1;cases e
  ·cases q1
theorem N7 {m:Mem}{As:List Ow}{w:World}{v:Value}{a0:List g_api_Rule}{r:List UInt8×Int}(S:St m As w)(hv:SlR m v a0)(hm:Dq a0=some r):
  A6 prog 9 #[v] w fun u w'=> ∃(M:Mem) (u1:Value),m≤M∧St M As w'∧u= .tuple #[u1,vI r.2]∧FR M (.sl UInt8 eB r.1) u1:=by
 unfold Dq at hm;refine Q2 (args:=[v]) func9 rfl ntmps9 (Ac3 rfl)<|AM<|Ah<|E8 (v:= .slice none 0 0) rfl<|E8 (v:=vI 0) rfl<|Ap<|nrm<|AM<|AM<|Ah<|BH (v:=v) rfl ?_;obtain⟨x1,q1,hm⟩:=Ad hm;have hc:=(KD q1).2 none0 m As w [v] (.cons (.d (b_api_Rule.toS hv)) .nil) (fun n h=>absurd rfl h) S;refine CB call34 hc rfl ?_;rintro v' w2 ⟨M,η',q,obs',n1,hle,hle2,⟨rfl,rfl,rfl⟩,hd',hv',S2⟩;have hv':=hv'.i_inv;subst hv';replace S2:St M As w2:=S2;refine E8 (v:=vI x1) rfl<|Ap<|nrm<|AM<|Ah<|BH (v:=vI x1) rfl<|X6 (m:=x1) (n:=0) rfl rfl<|Ap<|nrm<|Ht (t:=(x1 !=0)) rfl (fun hc1=> ?_) (fun hc1=> ?_)
 ·replace hm:=ifT hc1 hm;cases hm;refine AM<|Ah<|BH (v:=vI x1) rfl<|E8 (v:= .slice none 0 0) rfl<|E8 (v:=vI x1) rfl<|Ap<|nrm<|LD<|thR<|We fun we hpd=> ?_;exact outR [_,_] rfl ⟨rfl,rfl,trivial⟩ ⟨M,_,hle,St.pd S2 hpd,rfl,Br.b.toS SlR.nil⟩
 ·replace hm:=ifF hc1 hm;obtain⟨bs,q2,hm⟩:=Ad hm;cases hm;have hv2:=hv.up hle;refine Ga<|nrm<|AM<|Ah<|VG S2 fun b w3 hb S3=>Ap<|nrm<|AM<|AM<|Ah<|BH (v:=v) rfl<|Vz (xs:=a0) rfl hv2 underlying29<|BH (v:=vI 0) rfl<|Ap<|nrm ?_;refine D6<|J4 [7,8,16,17,18,19,20,21,22,23,24,25,26,27,28,29,30,31,32,33,34,35,36,37,38,39,40,41,42,43,44,45,46,47,48,49,50,51,52,53,54,55,56,57,58,59,60,61,62,63,64,65,66,67,68] (fun n1 f' w'=> ∃(i1:Nat) (s1:List UInt8),n1=a0.length-i1∧i1≤a0.length∧C8 (CP a0) (a0.length-i1) (i1:Int) s1=some bs∧St M [Ra b s1,LoB As b] w'∧IA f' [(16,vI (i1:Int))]) a0.length ⟨0,[],rfl,AdI _,q2,S3,⟨rfl,trivial⟩⟩ ?_;rintro n1 f1 w5 ho ⟨i1,s1,hn,hi,q3,S4,ha⟩;obtain⟨u1,rfl⟩:=Bt (N:=70) ho ha;refine AM<|Ah<|Aa7 (m:=(i1:Int)) (n:=(a0.length:Int)) rfl rfl<|Ap<|nrm<|AM<|Ht (t:=decide ((i1:Int)<(a0.length:Int))) rfl (fun hc2=> ?_) (fun hc2=> ?_)
  ·have hlt1:i1<a0.length:=by have:=of_decide_eq_true hc2; omega
   obtain⟨y1,q5,q4⟩:=MJ q3 hlt1;unfold CP at q5;obtain⟨x,qx,q5⟩:=Ad q5;refine Ga<|nrm<|AM<|D6<|AM<|Ah<|Abb (q:=x) rfl rfl hv2 qx underlying29 sizeOf68 ?_;intro p c7 hp rr;obtain⟨pv,rfl,hpv⟩:=IE rr;obtain⟨pa,pc,epv⟩:=hpv.val;have hone:pv.oneCell'=true:=by rw[epv]; rfl
   refine Aba (cs:=[vS x.Name,vb x.Allow,pv,vU x.KeyMin,vI x.LifeMax,vI x.Most,vI x.Window]) S4 rfl hp rfl isAgg68 sizeOf68 (fun e=>by cases e)<|Kh S4 zeroValue68 fun b7 w6 S5=>X4 (i:=0) S5 rfl rfl rfl sizeOf68 (RL rfl (RL rfl (RL hone (RL rfl (RL rfl (RL rfl (RL rfl oneN))))))) rfl fun w7 S6=>Ap<|nrm ?_;replace S6:St M [bx b7 [vS x.Name,vb x.Allow,pv,vU x.KeyMin,vI x.LifeMax,vI x.Most,vI x.Window] 68,Ra b s1,LoB As b] w7:=S6;have S7:St M [Ra b s1,bx b7 [vS x.Name,vb x.Allow,pv,vU x.KeyMin,vI x.LifeMax,vI x.Most,vI x.Window] 68,LoB As b] w7:=S6.perm (.swap ..);clear S6 S5;obtain⟨jk,hjk⟩:=AbN x.Allow;refine AM<|Ah<|Ua S7 fun bm w8 S8=>ZC (kv:=[]) (c:=true) (s:=⟨#[97,108,108,111,119,32]⟩) S8 rfl rfl rfl rfl fun w9 S9=>ZC (kv:=[(true,⟨#[97,108,108,111,119,32]⟩)]) (c:=false) (s:=⟨#[114,101,102,117,115,101,32]⟩) S9 rfl rfl rfl rfl fun w10 S10=>
    BH (v:= .map (some bm)) rfl<|Kg (n:=0) rfl underlying68 rfl rfl sizeOf4<|I8 (i:=2) (agg:=false) (cs:=[vb x.Allow]) S10 rfl rfl isAgg4 sizeOf4 rfl (fun _=>rfl)<|Aa8 (kv:=Z4) (c:=x.Allow) S10 hjk rfl rfl<|E8 (v:=vS (I0 x.Allow)) rfl<|Ap<|nrm ?_
   have S11:St M [Ra b s1,bx b7 [vS x.Name,vb x.Allow,pv,vU x.KeyMin,vI x.LifeMax,vI x.Most,vI x.Window] 68,LoB As b] w10:=S10.forget;clear S7 S8 S9 S10;obtain⟨j,qj,q5⟩:=Ad q5;obtain⟨b1,qb1,q5⟩:=Ad q5;obtain⟨⟨hj1,hj2⟩,ej⟩:=AR qj;have ej:=AcO ej;subst ej;obtain⟨hs1,eb1⟩:=AR qb1;have eb1:=AcO eb1;subst eb1;have hsz:=hs1;have hA: ∀h,sepL [bx b7 [vS x.Name,vb x.Allow,pv,vU x.KeyMin,vI x.LifeMax,vI x.Most,vI x.Window] 68,LoB As b] h→∀k o,h k=some o→k<b∨ok5 o:=hA_of;refine AM ?_;have HM:DT [(25,fv (vS (I0 x.Allow))),(26,fv (pt b7 0)),(27,fv (vS x.Name)),(28,fv (vS (I0 x.Allow++x.Name))),(29,fv (vS (I0 x.Allow++x.Name++⟨#[32,123,32]⟩))),(30,fv (pt b7 2)),(31,fv (pv)),(32,fv (vS ⟨(CA x.Pats).toArray⟩)),(33,fv (vS (I0 x.Allow++x.Name++⟨#[32,123,32]⟩++⟨(CA x.Pats).toArray⟩))),(34,fv (vS (I0 x.Allow++x.Name++⟨#[32,123,32]⟩++⟨(CA x.Pats).toArray⟩++IM)))]:=⟨(fun _ _ _ _ h=>h),(fun _ _ _ _ h=>h),(fun _ _ _ _ h=>h),(fun _ _ _ _ h=>h),(fun _ _ _ _ h=>h),(fun _ _ _ _ h=>h),(fun _ _ _ _ h=>h),(fun _ _ _ _ h=>h),(fun _ _ _ _ h=>h),(fun _ _ _ _ h=>h),trivial⟩;refine Jd HM 10 rfl rfl rfl rfl [25,26,27,28,29,30,31,32,33,34] (fun L f M1 w=>M1=M∧St M [Ra b s1,bx b7 [vS x.Name,vb x.Allow,pv,vU x.KeyMin,vI x.LifeMax,vI x.Most,vI x.Window] 68,LoB As b] w) ⟨rfl,St.drew S11 _⟩ ?_ ?_
   ·refine⟨?_,?_,?_,?_,?_,?_,?_,?_,?_,?_,trivial⟩
    ·intro L f2 w2 hL hd hc ⟨m2,l2,⟨em,S2⟩,K,hO⟩;obtain⟨u2,rfl⟩:=Bt (N:=70) (L:=[]) hO trivial;exact BH (v:=vS (I0 x.Allow)) rfl<|oS HM l2 ⟨em,S2⟩ rfl K rfl rfl rfl DL
    ·intro L f2 w2 hL hd hc ⟨m2,l2,⟨em,S2⟩,K,hO⟩;obtain⟨u2,rfl⟩:=Bt (N:=70) (L:=[]) hO trivial;exact Kg (n:=0) rfl underlying68 rfl rfl sizeOf9<|oS HM l2 ⟨em,S2⟩ rfl K rfl rfl rfl DL
    ·intro L f2 w2 hL hd hc ⟨m2,l2,⟨em,S2⟩,K,hO⟩;obtain⟨u2,rfl⟩:=Bt (N:=70) (L:=[(26,_)]) hO ⟨K 1 (dep hd rfl),trivial⟩;exact I8 (i:=1) (agg:=false) (cs:=[vS x.Name]) S2 rfl rfl isAgg9 sizeOf9 rfl (fun _=>rfl)<|oS HM l2 ⟨em,S2⟩ rfl K rfl rfl rfl DL
    ·intro L f2 w2 hL hd hc ⟨m2,l2,⟨em,S2⟩,K,hO⟩;obtain⟨u2,rfl⟩:=Bt (N:=70) (L:=[(25,_),(27,_)]) hO ⟨K 0 (dep hd rfl),K 2 (dep hd rfl),trivial⟩;exact K6 (p:=I0 x.Allow) (q:=x.Name) rfl rfl (by simp only[ByteArray.size_append]at hsz⊢; omega)<|oS HM l2 ⟨em,S2⟩ rfl K rfl rfl rfl DL
    ·intro L f2 w2 hL hd hc ⟨m2,l2,⟨em,S2⟩,K,hO⟩;obtain⟨u2,rfl⟩:=Bt (N:=70) (L:=[(28,_)]) hO ⟨K 3 (dep hd rfl),trivial⟩;exact K6 (p:=I0 x.Allow++x.Name) (q:=⟨#[32,123,32]⟩) rfl rfl (by simp only[ByteArray.size_append]at hsz⊢; omega)<|oS HM l2 ⟨em,S2⟩ rfl K rfl rfl rfl DL
    ·intro L f2 w2 hL hd hc ⟨m2,l2,⟨em,S2⟩,K,hO⟩;obtain⟨u2,rfl⟩:=Bt (N:=70) (L:=[]) hO trivial;exact Kg (n:=0) rfl underlying68 rfl rfl sizeOf23<|oS HM l2 ⟨em,S2⟩ rfl K rfl rfl rfl DL
    ·intro L f2 w2 hL hd hc ⟨m2,l2,⟨em,S2⟩,K,hO⟩;obtain⟨u2,rfl⟩:=Bt (N:=70) (L:=[(30,_)]) hO ⟨K 5 (dep hd rfl),trivial⟩;exact I8 (i:=1) (agg:=false) (cs:=[pv]) S2 rfl rfl isAgg23 sizeOf23 rfl (fun _=>rfl)<|oS HM l2 ⟨em,S2⟩ rfl K rfl rfl rfl DL
    ·intro L f2 w2 hL hd hc ⟨m2,l2,⟨em,S2⟩,K,hO⟩;obtain⟨u2,rfl⟩:=Bt (N:=70) (L:=[(31,_)]) hO ⟨K 6 (dep hd rfl),trivial⟩;exact CB call36 (Xr S2 (join36 S2 hpv hj1 hj2)) rfl (fun v3 w3 hr=>by obtain⟨rfl,S3⟩:=hr; exact oS HM l2 ⟨em,S3⟩ rfl K rfl rfl rfl DL)
    ·intro L f2 w2 hL hd hc ⟨m2,l2,⟨em,S2⟩,K,hO⟩;obtain⟨u2,rfl⟩:=Bt (N:=70) (L:=[(29,_),(32,_)]) hO ⟨K 4 (dep hd rfl),K 7 (dep hd rfl),trivial⟩;exact K6 (p:=I0 x.Allow++x.Name++⟨#[32,123,32]⟩) (q:=⟨(CA x.Pats).toArray⟩) rfl rfl (by simp only[ByteArray.size_append]at hsz⊢; omega)<|oS HM l2 ⟨em,S2⟩ rfl K rfl rfl rfl DL
    ·intro L f2 w2 hL hd hc ⟨m2,l2,⟨em,S2⟩,K,hO⟩;obtain⟨u2,rfl⟩:=Bt (N:=70) (L:=[(33,_)]) hO ⟨K 8 (dep hd rfl),trivial⟩;exact K6 (p:=I0 x.Allow++x.Name++⟨#[32,123,32]⟩++⟨(CA x.Pats).toArray⟩) (q:=IM) rfl rfl (by simp only[ByteArray.size_append]at hsz⊢; omega)<|oS HM l2 ⟨em,S2⟩ rfl K rfl rfl rfl DL
   intro L f2 w2 hall ⟨m2,l2,⟨em,S2⟩,K,hO⟩;have dl:L 9=true:=hall 9 (by decide);obtain⟨u2,rfl⟩:=Bt (N:=70) (L:=[(34,_)]) hO ⟨K 9 dl,trivial⟩;refine CB call35 (Ia S2 hb hA hs1) rfl (fun v3 w11 hr=> ?_);obtain⟨rfl,S12⟩:=hr;refine Ap<|nrm ?_;obtain⟨b2,qb2,q5⟩:=Ad q5;refine AM<|GM [36,37,38,39,40,41,42,43,44] (fun f' w'=>St M [Ra b b2,bx b7 [vS x.Name,vb x.Allow,pv,vU x.KeyMin,vI x.LifeMax,vI x.Most,vI x.Window] 68,LoB As b] w') ?_ ?_
   ·refine AM<|Ah<|Kg (n:=0) rfl underlying68 rfl rfl sizeOf24<|I8 (i:=1) (agg:=false) (cs:=[vU x.KeyMin]) S12 rfl rfl isAgg24 sizeOf24 rfl (fun _=>rfl)<|Ya (m:=(x.KeyMin.toNat:Int)) (n:=0) rfl rfl<|Ap<|nrm<|Ht (t:=decide ((x.KeyMin.toNat:Int)>0)) rfl (fun hc3=> ?_) (fun hc3=> ?_)
    ·replace qb2:=ifT hc3 qb2;obtain⟨hs2,eb⟩:=AR qb2;have eb:=AcO eb;subst eb;have hsz:=hs2;refine Ah<|Kg (n:=0) rfl underlying68 rfl rfl sizeOf24<|I8 (i:=1) (agg:=false) (cs:=[vU x.KeyMin]) S12 rfl rfl isAgg24 sizeOf24 rfl (fun _=>rfl)<|CB call37 (Xr S12 (fmt37 x.KeyMin.toNat x.KeyMin.toNat_lt _ (Qb S12))) rfl fun v4 w12 hr=> ?_;obtain⟨rfl,S13⟩:=hr;refine K6 (p:=⟨#[107,101,121,32]⟩) (q:=XT x.KeyMin) rfl rfl (by simp only[ByteArray.size_append]at hsz⊢; omega)<|K6 (p:=⟨#[107,101,121,32]⟩++XT x.KeyMin) (q:=IM) rfl rfl (by simp only[ByteArray.size_append]at hsz⊢; omega)<|CB call35 (Ia S13 hb hA hs2) rfl fun v4 w13 hr=> ?_;obtain⟨rfl,S14⟩:=hr;exact Ap ⟨DL,S14⟩
    ·replace qb2:=ifF hc3 qb2;have eb:=AcO qb2;subst eb;exact Ga ⟨DL,S12⟩
   intro f3 w13 ho3 S13;obtain⟨u3,rfl⟩:=Bt (N:=70) (L:=[]) ho3 trivial;clear ho3 S12;obtain⟨b3,qb3,q5⟩:=Ad q5;refine AM<|GM [45,46,47,48,49,50,51,52] (fun f' w'=>St M [Ra b b3,bx b7 [vS x.Name,vb x.Allow,pv,vU x.KeyMin,vI x.LifeMax,vI x.Most,vI x.Window] 68,LoB As b] w') ?_ ?_
   ·refine AM<|Ah<|Kg (n:=0) rfl underlying68 rfl rfl sizeOf4<|I8 (i:=1) (agg:=false) (cs:=[vb x.Allow]) S13 rfl rfl isAgg4 sizeOf4 rfl (fun _=>rfl)<|Ap<|nrm<|Ht (t:=x.Allow) rfl (fun hc3=> ?_) (fun hc3=> ?_)
    ·replace qb3:=ifT hc3 qb3;obtain⟨tt,qt,qb3⟩:=Ad qb3;obtain⟨⟨ht1,ht2⟩,et⟩:=AR qt;have et:=AcO et;subst et;obtain⟨hs2,eb⟩:=AR qb3;have eb:=AcO eb;subst eb;have hsz:=hs2;refine Ah<|Kg (n:=0) rfl underlying68 rfl rfl sizeOf3<|I8 (i:=1) (agg:=false) (cs:=[vI x.LifeMax]) S13 rfl rfl isAgg3 sizeOf3 rfl (fun _=>rfl)<|CB call38 (Xr S13 (WG x.LifeMax ht1 ht2 _ (Qb S13))) rfl fun v4 w12 hr=> ?_;obtain⟨rfl,S14⟩:=hr;refine K6 (p:=⟨#[108,105,102,101,32]⟩) (q:=⟨(Lib.itoa x.LifeMax).toArray⟩) rfl rfl (by simp only[ByteArray.size_append]at hsz⊢; omega)<|K6 (p:=⟨#[108,105,102,101,32]⟩++⟨(Lib.itoa x.LifeMax).toArray⟩) (q:=IM) rfl rfl (by simp only[ByteArray.size_append]at hsz⊢; omega)<|CB call35 (Ia S14 hb hA hs2) rfl fun v4 w13 hr=> ?_;obtain⟨rfl,S15⟩:=hr;exact Ap ⟨DL,S15⟩
    ·replace qb3:=ifF hc3 qb3;have eb:=AcO qb3;subst eb;exact Ga ⟨DL,S13⟩
   intro f4 w14 ho4 S14;obtain⟨u4,rfl⟩:=Bt (N:=70) (L:=[]) ho4 trivial;clear ho4 S13;obtain⟨b4,qb4,q5⟩:=Ad q5;refine AM<|GM [53,54,55,56,57,58,59,60,61,62,63,64,65,66] (fun f' w'=>St M [Ra b b4,bx b7 [vS x.Name,vb x.Allow,pv,vU x.KeyMin,vI x.LifeMax,vI x.Most,vI x.Window] 68,LoB As b] w') ?_ ?_
   ·refine AM<|Ah<|Kg (n:=0) rfl underlying68 rfl rfl sizeOf3<|I8 (i:=1) (agg:=false) (cs:=[vI x.Most]) S14 rfl rfl isAgg3 sizeOf3 rfl (fun _=>rfl)<|Ya (m:=x.Most) (n:=0) rfl rfl<|Ap<|nrm<|Ht (t:=decide (x.Most>0)) rfl (fun hc3=> ?_) (fun hc3=> ?_)
    ·replace qb4:=ifT hc3 qb4;obtain⟨tt,qt,qb4⟩:=Ad qb4;obtain⟨⟨ht1,ht2⟩,et⟩:=AR qt;have et:=AcO et;subst et;obtain⟨uu,qu,qb4⟩:=Ad qb4;obtain⟨⟨hu1,hu2⟩,eu⟩:=AR qu;have eu:=AcO eu;subst eu;obtain⟨hs2,eb⟩:=AR qb4;have eb:=AcO eb;subst eb;have hsz:=hs2;have HM:DT [(56,fv (pt b7 5)),(57,fv (vI x.Most)),(58,fv (vS ⟨(Lib.itoa x.Most).toArray⟩)),(59,fv (vS (⟨#[109,111,115,116,32]⟩++⟨(Lib.itoa x.Most).toArray⟩))),(60,fv (vS (⟨#[109,111,115,116,32]⟩++⟨(Lib.itoa x.Most).toArray⟩++⟨#[32,112,101,114,32]⟩))),(61,fv (pt b7 6)),(62,fv (vI x.Window)),(63,fv (vS ⟨(Lib.itoa x.Window).toArray⟩)),(64,fv (vS (⟨#[109,111,115,116,32]⟩++⟨(Lib.itoa x.Most).toArray⟩++⟨#[32,112,101,114,32]⟩++⟨(Lib.itoa x.Window).toArray⟩))),(65,fv (vS (⟨#[109,111,115,116,32]⟩++⟨(Lib.itoa x.Most).toArray⟩++⟨#[32,112,101,114,32]⟩++⟨(Lib.itoa x.Window).toArray⟩++IM)))]:=⟨(fun _ _ _ _ h=>h),(fun _ _ _ _ h=>h),(fun _ _ _ _ h=>h),(fun _ _ _ _ h=>h),(fun _ _ _ _ h=>h),(fun _ _ _ _ h=>h),(fun _ _ _ _ h=>h),(fun _ _ _ _ h=>h),(fun _ _ _ _ h=>h),(fun _ _ _ _ h=>h),trivial⟩;refine Jd HM 10 rfl rfl rfl rfl [56,57,58,59,60,61,62,63,64,65] (fun L f M1 w=>M1=M∧St M [Ra b b3,bx b7 [vS x.Name,vb x.Allow,pv,vU x.KeyMin,vI x.LifeMax,vI x.Most,vI x.Window] 68,LoB As b] w) ⟨rfl,St.drew S14 _⟩ ?_ ?_
     ·refine⟨?_,?_,?_,?_,?_,?_,?_,?_,?_,?_,trivial⟩
      ·intro L f2 w2 hL hd hc ⟨m2,l2,⟨em,S2⟩,K,hO⟩;obtain⟨u2,rfl⟩:=Bt (N:=70) (L:=[]) hO trivial;exact Kg (n:=0) rfl underlying68 rfl rfl sizeOf3<|oS HM l2 ⟨em,S2⟩ rfl K rfl rfl rfl DL
      ·intro L f2 w2 hL hd hc ⟨m2,l2,⟨em,S2⟩,K,hO⟩;obtain⟨u2,rfl⟩:=Bt (N:=70) (L:=[(56,_)]) hO ⟨K 0 (dep hd rfl),trivial⟩;exact I8 (i:=1) (agg:=false) (cs:=[vI x.Most]) S2 rfl rfl isAgg3 sizeOf3 rfl (fun _=>rfl)<|oS HM l2 ⟨em,S2⟩ rfl K rfl rfl rfl DL
      ·intro L f2 w2 hL hd hc ⟨m2,l2,⟨em,S2⟩,K,hO⟩;obtain⟨u2,rfl⟩:=Bt (N:=70) (L:=[(57,_)]) hO ⟨K 1 (dep hd rfl),trivial⟩;exact CB call38 (Xr S2 (WG x.Most ht1 ht2 _ (Qb S2))) rfl (fun v3 w3 hr=>by obtain⟨rfl,S3⟩:=hr; exact oS HM l2 ⟨em,S3⟩ rfl K rfl rfl rfl DL)
      ·intro L f2 w2 hL hd hc ⟨m2,l2,⟨em,S2⟩,K,hO⟩;obtain⟨u2,rfl⟩:=Bt (N:=70) (L:=[(58,_)]) hO ⟨K 2 (dep hd rfl),trivial⟩;exact K6 (p:=⟨#[109,111,115,116,32]⟩) (q:=⟨(Lib.itoa x.Most).toArray⟩) rfl rfl (by simp only[ByteArray.size_append]at hsz⊢; omega)<|oS HM l2 ⟨em,S2⟩ rfl K rfl rfl rfl DL
      ·intro L f2 w2 hL hd hc ⟨m2,l2,⟨em,S2⟩,K,hO⟩;obtain⟨u2,rfl⟩:=Bt (N:=70) (L:=[(59,_)]) hO ⟨K 3 (dep hd rfl),trivial⟩;exact K6 (p:=⟨#[109,111,115,116,32]⟩++⟨(Lib.itoa x.Most).toArray⟩) (q:=⟨#[32,112,101,114,32]⟩) rfl rfl (by simp only[ByteArray.size_append]at hsz⊢; omega)<|oS HM l2 ⟨em,S2⟩ rfl K rfl rfl rfl DL
      ·intro L f2 w2 hL hd hc ⟨m2,l2,⟨em,S2⟩,K,hO⟩;obtain⟨u2,rfl⟩:=Bt (N:=70) (L:=[]) hO trivial;exact Kg (n:=0) rfl underlying68 rfl rfl sizeOf3<|oS HM l2 ⟨em,S2⟩ rfl K rfl rfl rfl DL
      ·intro L f2 w2 hL hd hc ⟨m2,l2,⟨em,S2⟩,K,hO⟩;obtain⟨u2,rfl⟩:=Bt (N:=70) (L:=[(61,_)]) hO ⟨K 5 (dep hd rfl),trivial⟩;exact I8 (i:=1) (agg:=false) (cs:=[vI x.Window]) S2 rfl rfl isAgg3 sizeOf3 rfl (fun _=>rfl)<|oS HM l2 ⟨em,S2⟩ rfl K rfl rfl rfl DL
      ·intro L f2 w2 hL hd hc ⟨m2,l2,⟨em,S2⟩,K,hO⟩;obtain⟨u2,rfl⟩:=Bt (N:=70) (L:=[(62,_)]) hO ⟨K 6 (dep hd rfl),trivial⟩;exact CB call38 (Xr S2 (WG x.Window hu1 hu2 _ (Qb S2))) rfl (fun v3 w3 hr=>by obtain⟨rfl,S3⟩:=hr; exact oS HM l2 ⟨em,S3⟩ rfl K rfl rfl rfl DL)
      ·intro L f2 w2 hL hd hc ⟨m2,l2,⟨em,S2⟩,K,hO⟩;obtain⟨u2,rfl⟩:=Bt (N:=70) (L:=[(60,_),(63,_)]) hO ⟨K 4 (dep hd rfl),K 7 (dep hd rfl),trivial⟩;exact K6 (p:=⟨#[109,111,115,116,32]⟩++⟨(Lib.itoa x.Most).toArray⟩++⟨#[32,112,101,114,32]⟩) (q:=⟨(Lib.itoa x.Window).toArray⟩) rfl rfl (by simp only[ByteArray.size_append]at hsz⊢; omega)<|oS HM l2 ⟨em,S2⟩ rfl K rfl rfl rfl DL
      ·intro L f2 w2 hL hd hc ⟨m2,l2,⟨em,S2⟩,K,hO⟩;obtain⟨u2,rfl⟩:=Bt (N:=70) (L:=[(64,_)]) hO ⟨K 8 (dep hd rfl),trivial⟩;exact K6 (p:=⟨#[109,111,115,116,32]⟩++⟨(Lib.itoa x.Most).toArray⟩++⟨#[32,112,101,114,32]⟩++⟨(Lib.itoa x.Window).toArray⟩) (q:=IM) rfl rfl (by simp only[ByteArray.size_append]at hsz⊢; omega)<|oS HM l2 ⟨em,S2⟩ rfl K rfl rfl rfl DL
     intro L f2 w2 hall ⟨m2,l2,⟨em,S2⟩,K,hO⟩;have dl:L 9=true:=hall 9 (by decide);obtain⟨u2,rfl⟩:=Bt (N:=70) (L:=[(65,_)]) hO ⟨K 9 dl,trivial⟩;refine CB call35 (Ia S2 hb hA hs2) rfl (fun v3 w11 hr=> ?_);obtain⟨rfl,S15⟩:=hr;exact Ap ⟨DL,S15⟩
    ·replace qb4:=ifF hc3 qb4;have eb:=AcO qb4;subst eb;exact Ga ⟨DL,S14⟩
   intro f5 w15 ho5 S15;obtain⟨u5,rfl⟩:=Bt (N:=70) (L:=[]) ho5 trivial;clear ho5 S14;obtain⟨hs5,eb⟩:=AR q5;have eb:=AcO eb;subst eb;refine Ah<|CB call35 (Ia S15 hb hA hs5) rfl fun v3 w16 hr=> ?_;obtain⟨rfl,S16⟩:=hr;have S17:St M [Ra b _,LoB As b] w16:=(S16.perm (.swap ..)).forget;refine Ap<|nrmB<|nrm<|Ah<|VH (m:=(i1:Int)) (n:=1) rfl rfl<|BH (v:=vI (w64 ((i1:Int)+1))) rfl<|Ap<|nrm ?_;exact⟨DL,_,(by omega),⟨i1+1,_,rfl,hlt1,q4,S17,⟨Adp (Value.int .i64) (Ll hlt1 hv.le),trivial⟩⟩⟩
  ·have:=of_decide_eq_false hc2;have hnlt: ¬i1<a0.length:=by omega
   have:=Ks q3 hnlt;subst this;refine Lk<|thE<|thE<|exB<|nrm<|AM<|Ah<|CB call39 (Xs S4 hb hA_lo) rfl fun u1 w6 hr=> ?_;obtain⟨m6,l6,S5,hfr⟩:=hr;refine E8 (v:=u1) rfl<|E8 (v:=vI 0) rfl<|Ap<|nrm<|LD<|We fun we hpd=> ?_;exact outR [_,_] rfl ⟨rfl,rfl,trivial⟩ ⟨m6,u1,Mem.tr hle l6,St.pd (lob_in S5) hpd,rfl,hfr⟩
theorem PX {a0:List g_api_Rule}{r:List UInt8×Int}(hm:Dq a0=some r):Sf prog 9 [sl Ac a0] (.tup [sl eB r.1,.d (.i r.2)]):=by
 refine⟨call9,fun η m As w vs hv hd S=> ?_⟩;obtain⟨v,us,rfl,r0,hv⟩:=hv.cons_inv;obtain rfl:=hv.nil_inv;have hf:FR m (.sl g_api_Rule Ac a0) v:=by cases r0 with|d h=>exact h
 have S':St m As w:=by simpa using S
 refine Calls.mono (N7 S' (b_api_Rule.ofS hf) hm) fun e w' ⟨u,e1,kd,M,u1,hle,S2,eu,hfr⟩=> ?_;subst eu;have rt:RelL η M [sl eB r.1,.d (.i r.2)] [u1,vI r.2]:= .cons (.d hfr) (.cons (.d (.i _)) .nil);have rt2:Rel η M (.tup [sl eB r.1,.d (.i r.2)]) (.tuple #[u1,vI r.2]):= .tup rt.1 rt.2;exact⟨_,e1,kd,M,η,_,[],0,hle,Env.le_refl,⟨rfl,rfl,rfl⟩,hd,rt2,by simpa using S2⟩
def BV (a0:List ByteArray)(a1:List ByteArray)(i1:Int)(s1:Unit):Option ((Unit)⊕Bool):=Ab (idx a0 (i1:Int)) fun x3=>Ab (idx a1 (i1:Int)) fun x4=>if(!eqS x3 x4)=true then some (.inr false)else some (.inl ())
def BE (a0:List ByteArray)(a1:List ByteArray):Option Bool:=if((a0.length:Int) !=(a1.length:Int))=true then some false else Ab (E6 (BV a0 a1) a0.length 0 ()) fun x1=>match x1 with| .inr r=>some r| .inl y1=>some true
theorem Fo {a0 a1 r}(hm:BE a0 a1=some r):Sf prog 42 [sl eS a0,sl eS a1] (.d (.t r)):=by
 refine sq ?_;intros;refine gi hm ?_ ?_<;>intro _ hm
 ·exact AcO hm▸gE
 refine oB hm fun _ q1 hm=>JR 0 (E:=eS) (xs:=a0) 11 fun hle1=>gF (EN _ _ _) q1 (fun p0 _=>⟨[(0,sl eS a0),(1,sl eS a1),(12,.d (.i (a0.length:Int))),(13,.d (.i p0))],[],[],0⟩) fun i1 s1 Jl bl1=>cN bl1 (a0.length:Int) (fun _ q4 bl1=> ?_) fun e=> ?_
 ·refine oB q4 fun _ q6 q4=>gx eS 1 q6<|oB q4 fun _ q7 q4=>gx eS 1 q7<|gi q4 ?_ ?_<;>intro _ q4
  ·obtain rfl:=nT bl1 q4;exact AcO hm▸gE
  exact gT bl1 hle1 q4
 subst e;exact AcO hm▸gE
def Fy (a0:g_api_Rule)(a1:g_api_Rule):Option Bool:=Ab (gu ((eqS a0.Name a1.Name)&&(a0.Allow==a1.Allow)) (BE a0.Pats a1.Pats)) fun x1=>bnd ((((((((eqS a0.Name a1.Name)&&(a0.Allow==a1.Allow))&&x1)&&((a0.KeyMin.toNat:Int)==(a1.KeyMin.toNat:Int)))&&(a0.LifeMax==a1.LifeMax))&&(a0.Most==a1.Most))&&(a0.Window==a1.Window))) fun x2=>some x2
theorem N6 {a0 a1 r}(hm:Fy a0 a1=some r):Sf prog 41 [ag (Ac a0),ag (Ac a1)] (.d (.t r)):=by
 refine sq ?_;intros;refine oB hm fun _ q1 hm=>gcH q1 Fo<|bE hm ?_;intro _ hm;exact AcO hm▸gE
def AA (a0:List g_api_Rule)(a1:List g_api_Rule)(i1:Int)(s1:Unit):Option ((Unit)⊕Bool):=Ab (idx a0 (i1:Int)) fun x3=>Ab (idx a1 (i1:Int)) fun x4=>Ab (Fy x3 x4) fun x5=>if(!x5)=true then some (.inr false)else some (.inl ())
def AF (a0:List g_api_Rule)(a1:List g_api_Rule):Option Bool:=if((a0.length:Int) !=(a1.length:Int))=true then some false else Ab (E6 (AA a0 a1) a0.length 0 ()) fun x1=>match x1 with| .inr r=>some r| .inl y1=>some true
theorem B2 {a0 a1 r}(hm:AF a0 a1=some r):Sf prog 40 [sl Ac a0,sl Ac a1,.fn (.func 41) [] []] (.d (.t r)):=by
 refine sq ?_;intros;refine gi hm ?_ ?_<;>intro _ hm
 ·exact AcO hm▸gE
 refine oB hm fun _ q1 hm=>JR 0 (E:=Ac) (xs:=a0) 15 fun hle1=>gF (EN _ _ _) q1 (fun p0 _=>⟨[(1,sl Ac a1),(2,.fn (.func 41) [] []),(15,sl Ac a0),(16,.d (.i (a0.length:Int))),(17,.d (.i p0))],[],[],0⟩) fun i1 s1 Jl bl1=>cN bl1 (a0.length:Int) (fun _ q4 bl1=> ?_) fun e=> ?_
 ·refine oB q4 fun _ q6 q4=>gx Ac 7 q6<|oB q4 fun _ q7 q4=>gx Ac 7 q7<|gA q4 N6 fun _ q8 q4=>gi q4 ?_ ?_<;>intro _ q4
  ·obtain rfl:=nT bl1 q4;exact AcO hm▸gE
  exact gT bl1 hle1 q4
 subst e;exact AcO hm▸gE
def FX (a0:List g_api_Rule)(a1:List g_api_Rule):Option Bool:=Ab (AF a0 a1) fun x1=>some x1
theorem Rh {a0 a1 r}(hm:FX a0 a1=some r):Sf prog 10 [sl Ac a0,sl Ac a1] (.d (.t r)):=by
 refine sq ?_;intros;refine gA hm B2 fun _ q1 hm=> ?_;exact AcO hm▸gE
def Cz (a0:List Int)(a1:List Int)(i1:Int)(s1:Unit):Option ((Unit)⊕Bool):=Ab (idx a0 (i1:Int)) fun x3=>Ab (idx a1 (i1:Int)) fun x4=>if(x3 !=x4)=true then some (.inr false)else some (.inl ())
def Co (a0:List Int)(a1:List Int):Option Bool:=if((a0.length:Int) !=(a1.length:Int))=true then some false else Ab (E6 (Cz a0 a1) a0.length 0 ()) fun x1=>match x1 with| .inr r=>some r| .inl y1=>some true
theorem Hk {a0 a1 r}(hm:Co a0 a1=some r):Sf prog 165 [sl eI a0,sl eI a1] (.d (.t r)):=by
 refine sq ?_;intros;refine gi hm ?_ ?_<;>intro _ hm
 ·exact AcO hm▸gE
 refine oB hm fun _ q1 hm=>JR 0 (E:=eI) (xs:=a0) 11 fun hle1=>gF (EN _ _ _) q1 (fun p0 _=>⟨[(0,sl eI a0),(1,sl eI a1),(12,.d (.i (a0.length:Int))),(13,.d (.i p0))],[],[],0⟩) fun i1 s1 Jl bl1=>cN bl1 (a0.length:Int) (fun _ q4 bl1=> ?_) fun e=> ?_
 ·refine oB q4 fun _ q6 q4=>gx eI 1 q6<|oB q4 fun _ q7 q4=>gx eI 1 q7<|gi q4 ?_ ?_<;>intro _ q4
  ·obtain rfl:=nT bl1 q4;exact AcO hm▸gE
  exact gT bl1 hle1 q4
 subst e;exact AcO hm▸gE
def FA (a0:g_api_Node)(a1:g_api_Node):Option Bool:=Ab (gu (((eqS a0.Label a1.Label)&&(a0.Here==a1.Here))&&(a0.Below==a1.Below)) (Co a0.Kids a1.Kids)) fun x1=>bnd (((((eqS a0.Label a1.Label)&&(a0.Here==a1.Here))&&(a0.Below==a1.Below))&&x1)) fun x2=>some x2
theorem N8 {a0 a1 r}(hm:FA a0 a1=some r):Sf prog 106 [ag (Ao a0),ag (Ao a1)] (.d (.t r)):=by
 refine sq ?_;intros;refine oB hm fun _ q1 hm=>gcH q1 Hk<|bE hm ?_;intro _ hm;exact AcO hm▸gE
def Ay (a0:List g_api_Node)(a1:List g_api_Node)(i1:Int)(s1:Unit):Option ((Unit)⊕Bool):=Ab (idx a0 (i1:Int)) fun x3=>Ab (idx a1 (i1:Int)) fun x4=>Ab (FA x3 x4) fun x5=>if(!x5)=true then some (.inr false)else some (.inl ())
def Aj (a0:List g_api_Node)(a1:List g_api_Node):Option Bool:=if((a0.length:Int) !=(a1.length:Int))=true then some false else Ab (E6 (Ay a0 a1) a0.length 0 ()) fun x1=>match x1 with| .inr r=>some r| .inl y1=>some true
theorem BT {a0 a1 r}(hm:Aj a0 a1=some r):Sf prog 105 [sl Ao a0,sl Ao a1,.fn (.func 106) [] []] (.d (.t r)):=by
 refine sq ?_;intros;refine gi hm ?_ ?_<;>intro _ hm
 ·exact AcO hm▸gE
 refine oB hm fun _ q1 hm=>JR 0 (E:=Ao) (xs:=a0) 15 fun hle1=>gF (EN _ _ _) q1 (fun p0 _=>⟨[(1,sl Ao a1),(2,.fn (.func 106) [] []),(15,sl Ao a0),(16,.d (.i (a0.length:Int))),(17,.d (.i p0))],[],[],0⟩) fun i1 s1 Jl bl1=>cN bl1 (a0.length:Int) (fun _ q4 bl1=> ?_) fun e=> ?_
 ·refine oB q4 fun _ q6 q4=>gx Ao 4 q6<|oB q4 fun _ q7 q4=>gx Ao 4 q7<|gA q4 N8 fun _ q8 q4=>gi q4 ?_ ?_<;>intro _ q4
  ·obtain rfl:=nT bl1 q4;exact AcO hm▸gE
  exact gT bl1 hle1 q4
 subst e;exact AcO hm▸gE
def EL (a0:AZ):Option Int:=Ab (Bv a0.Rules) fun x1=>Ab (Ab (gu (x1.2==0) (Aj x1.1.Nodes a0.Nodes)) fun x3=>if((x1.2==0)&&(!x3))=true then some 1 else some x1.2) fun x2=>some x2
theorem M6 {a0 r}(hm:EL a0=some r):Sf prog 43 [ag (Ha a0)] (.d (.i r)):=by
 refine sq fun D0 As η0 m0 hd=>gA hm Hf fun x1 q1 hm=> ?_;obtain⟨x2,q2,hm⟩:=Ad hm;refine oB q2 fun _ q3 q2=>gcH q3 BT<|gj (fun(_:Unit)=>⟨[(4,.d (.i x2)),(3,.pb 1 0),(1,.pb 0 0)],[(0,.box 1 [sl Ac x1.1.Rules,sl Ao x1.1.Nodes] 35),(1,.box 0 [sl Ac a0.Rules,sl Ao a0.Nodes] 35)],[],2⟩) (fun _=>True) (fun Jp bk1=> ?_) fun _ _=> ?_
 ·refine gi q2 ?_ ?_<;>intro _ q2
  ·obtain rfl:=AcO q2;exact gb bk1 hd () trivial
  obtain rfl:=AcO q2;exact gb bk1 hd () trivial
 exact AcO hm▸gE
def Cx (a0:ByteArray):Option Int:=Ab (Ck a0) fun x1=>Ab (E3 x1) fun x2=>some x2
theorem Jk {a0 r}(hm:Cx a0=some r):Sf prog 51 [.d (.s a0)] (.d (.i r)):=by
 refine sq ?_;intros;refine gA hm GC fun _ q1 hm=>gA hm KG fun _ q2 hm=> ?_;exact AcO hm▸gE
def EJ (a0:Int):Option Bool:=bnd (((decide (a0≥0))&&(decide (a0≤1099511627776)))) fun x1=>some x1
theorem IC {a0 r}(hm:EJ a0=some r):Sf prog 107 [.d (.i a0)] (.d (.t r)):=by
 refine sq ?_;intros;refine bE hm ?_;intro _ hm;exact AcO hm▸gE
def F0 (i1:Int)(x2:ByteArray)(s1:(List (ByteArray×Bool))):Option (((List (ByteArray×Bool)))⊕Bool):=Ab (Cx x2) fun x3=>if((x3 !=0)||(lkB s1 x2))=true then some (.inr false)else if(lkI s1 x2 0).isNone=true then some (.inl (s1++[(x2,true)]))else none
def E2 (a0:AG):Option Bool:=Ab (Lg F0 a0.Names 0 ([]:List (ByteArray×Bool))) fun x1=>match x1 with| .inr r=>some r| .inl y1=>Ab (EJ a0.Account) fun x4=>Ab (gu x4 (EJ a0.Life)) fun x5=>bnd ((((x4&&x5)&&(decide ((a0.Names.length:Int)≥1)))&&(decide ((a0.Names.length:Int)≤8)))) fun x6=>some x6
theorem KE {a0 r}(hm:E2 a0=some r):Sf prog 44 [ag (DB a0)] (.d (.t r)):=by
 refine sq ?_;intros;refine gmkm<|oB hm fun _ q1 hm=>JR 0 (E:=eS) (xs:=a0.Names) 9 fun hle1=>gF (ER _ _ _) q1 (fun p0 p=>⟨[(1,.pb 0 0),(3,.fn (.func 107) [] []),(4,.ow 1),(9,sl eS a0.Names),(10,.d (.i (a0.Names.length:Int))),(11,.d (.i p0)),(7,.ow 1)],[(0,.hp 1 (.mp p)),(1,.box 0 [.d (.i a0.Account),sl eS a0.Names,.d (.u a0.Key),.d (.i a0.Life)] 26)],[],2⟩) fun i1 s1 Jl bl1=>cR bl1 (fun x2 _ q5 q4 bl1=> ?_) fun e=> ?_
 ·refine gx eS 1 q5<|gA q4 Jk fun _ q6 q4=>glk s1 x2<|gi q4 ?_ ?_<;>intro _ q4
  ·obtain rfl:=nT bl1 q4;exact AcO hm▸gE
  obtain⟨q7,q4⟩:=AR q4;exact gup q7<|gT bl1 hle1 q4
 subst e;let y1:=s1;refine gA hm IC fun _ q8 hm=>oB hm fun _ q9 hm=>gcH q9 IC<|bE hm ?_;intro _ hm;exact AcO hm▸gE
def BP (k0:AZ)(b6:ByteArray)(s1:(Int×Int×Int)×Nat):Option ((Int×Int×Int)×Nat):=Ab (Ab (idx k0.Nodes s1.1.2.1) fun x4=>if(x4.Below !=(-1))=true then Ab (idx k0.Nodes s1.1.2.1) fun x5=>some x5.Below else some s1.1.1) fun x3=>Ab (DZ k0.Nodes s1.1.2.1 b6) fun x6=>if(!x6.2)=true then some ((x3,s1.1.2.1,x3),1)else some ((x3,x6.1,s1.1.2.2),0)
def BW (a0:ByteArray)(k0:AZ):Option (Int×AZ):=Ab (Eh a0) fun x1=>Ab (B6 (fun(s:(Int×Int×Int)×Nat) (b0:ByteArray)=>if s.2=0 then Ab (BP k0 b0 s) fun y=>some (y.2==0,y)else none) x1 (((-1),0,0),0)) fun x2=>if(x2.2).2=0 then Ab (idx k0.Nodes x2.2.1.2.1) fun x7=>if(x7.Here !=(-1))=true then Ab (idx k0.Nodes x2.2.1.2.1) fun x8=>some (x8.Here,k0)else some (x2.2.1.1,k0)else some (x2.2.1.2.2,k0)
theorem J6 {a0 k0 r}(hm:BW a0 k0=some r):Sp prog 108 [.d (.s a0),.pb 0 0] [.box 0 [sl Ac k0.Rules,sl Ao k0.Nodes] 35] 1 (is (.d (.i r.1)) [.box 0 [.d (.sl _ Ac r.2.Rules),.d (.sl _ Ao r.2.Nodes)] 35] 1):=
 spR call108 func108 rfl ntmps108 rfl fun D0 As η0 m0 hD hd=>by
  unfold BW at hm;refine gD hm Jj fun x1 q1 hm=>oB hm fun x2 q2 hm=>H8 hD (n0:=1) 5 5 [⟨4,4,9,[.d (.s x1)],[.d (.s x2.1)]⟩] (gt:=10) (ps:=[11]) [(1,.pb 0 0),(3,.pb 1 0),(4,.pb 2 0),(5,.pb 3 0),(10,.fn (.func 89) [] [.pb 4 0])] (fun(y1:Int×Int×Int)=> [(0,.box 3 [.d (.i y1.1)] 3),(1,.box 2 [.d (.i y1.2.1)] 3),(2,.box 1 [.d (.i y1.2.2)] 3),(3,.box 0 [sl Ac k0.Rules,sl Ao k0.Nodes] 35)]) (fun(y1:(Int×Int×Int)×Nat)=> [(0,.box 3 [.d (.i y1.1.1)] 3),(1,.box 2 [.d (.i y1.1.2.1)] 3),(2,.box 1 [.d (.i y1.1.2.2)] 3),(3,.box 0 [sl Ac k0.Rules,sl Ao k0.Nodes] 35)]) (fun x=> [.d (.s x)]) (fun(s1:Int×Int×Int) (b6:ByteArray)=>⟨[(1,.pb 0 0),(3,.pb 1 0),(4,.pb 2 0),(5,.pb 3 0),(6,.d (.s b6)),(10,.fn (.func 89) [] [.pb 4 0])],[(0,.box 3 [.d (.i s1.1)] 3),(1,.box 2 [.d (.i s1.2.1)] 3),(2,.box 1 [.d (.i s1.2.2)] 3),(3,.box 0 [sl Ac k0.Rules,sl Ao k0.Nodes] 35)],[],5⟩) (pJ fun x s=>BP k0 x s) ((-1),0,0) hd (via fJ hyJ rfl fun g R h=>HA q2 g R h) rfl (fun _=>rfl) (fun _=>rfl) (fun _=>rfl) (fun _=>rfl) ?_ ?_ ?_ ?_
  ·intro s1 b6 s' hp l D0 As η0 m0 hd Ja ba;exact gb ba hd () trivial
  ·intro s1 b6 s' hp l D0 As η0 m0 hd Jb bb Jr br;obtain⟨z1,q3,hp⟩:=AcU.1 hp;subst hp;unfold BP at q3;dsimp only at q3;obtain⟨x3,q4,q3⟩:=Ad q3;refine oB q4 fun _ q5 q4=>gx Ao 4 q5<|gj (fun(_:Unit)=>⟨[(1,.pb 0 0),(3,.pb 1 0),(4,.pb 2 0),(5,.pb 3 0),(6,.d (.s b6)),(10,.fn (.func 89) [] [.pb 4 0])],[(0,.box 3 [.d (.i x3)] 3),(1,.box 2 [.d (.i s1.2.1)] 3),(2,.box 1 [.d (.i s1.2.2)] 3),(3,.box 0 [sl Ac k0.Rules,sl Ao k0.Nodes] 35)],[],5⟩) (fun _=>True) (fun Jp bk1=> ?_) fun _ _=> ?_
   ·refine gi q4 ?_ ?_<;>intro _ q4
    ·refine oB q4 fun _ q6 q4=>gx Ao 4 q6 ?_;obtain rfl:=AcO q4;exact gb bk1 hd () trivial
    obtain rfl:=AcO q4;exact gb bk1 hd () trivial
   refine gA q3 KF fun x6 q7 q3=>gi q3 ?_ ?_<;>intro _ q3
   ·obtain rfl:=AcO q3;exact YP br hd ((x3,s1.2.1,x3),1) rfl
   obtain rfl:=AcO q3;exact gb bb hd (x3,x6.1,s1.2.2) rfl
  ·intro x hx;obtain⟨hj1,rfl⟩:=Ty hx;rw[AcZ hj1]at hm;refine oB hm fun _ q8 hm=>gx Ao 4 q8<|gi hm ?_ ?_<;>intro _ hm
   ·refine oB hm fun _ q9 hm=>gx Ao 4 q9 ?_;exact AcO hm▸gE
   exact AcO hm▸gE
  intro y hy;obtain⟨hj1,rfl⟩:=Tx hy;rw[Ac1 hj1]at hm;exact AcO hm▸gE
def FZ (a0:AZ):Option AZ:=some a0
theorem LI {a0 r}(hm:FZ a0=some r):Sp prog 46 [ag (Ha a0)] [] 0 (is (.fn (.func 108) [] [.pb 0 0]) [.box 0 [sl Ac r.Rules,sl Ao r.Nodes] 35] 1):=by
 refine sq ?_;intros;exact AcO hm▸gE
def CR (a0:List g_api_Rule)(a1:AG)(i1:Int)(s1:Bool×Int×(List Int)×(List g_api_Rule)×(List g_api_Node)):Option (Bool×Int×(List Int)×(List g_api_Rule)×(List g_api_Node)):=Ab (Ab (idx a1.Names (i1:Int)) fun x5=>Ab (BW x5 (⟨s1.2.2.2.1,s1.2.2.2.2⟩:AZ)) fun x6=>Ab (app 8 s1.2.2.1 ([x6.1]:List Int)) fun x7=>Ab (gu (x6.1 !=(-1)) (idx a0 x6.1)) fun x8=>Ab (gu ((x6.1 !=(-1))&&x8.Allow) (idx a0 x6.1)) fun x9=>Ab (gu ((((x6.1 !=(-1))&&x8.Allow)&&(decide ((a1.Key.toNat:Int)≥(x9.KeyMin.toNat:Int))))&&(decide (a1.Life>0))) (idx a0 x6.1)) fun x10=>bnd ((((((x6.1 !=(-1))&&x8.Allow)&&(decide ((a1.Key.toNat:Int)≥(x9.KeyMin.toNat:Int))))&&(decide (a1.Life>0)))&&(decide (a1.Life≤x10.LifeMax)))) fun x11=>if(s1.1&&(!x11))=true then some (false,(i1:Int),x7,x6.2.Rules,x6.2.Nodes)else some (s1.1,s1.2.1,x7,x6.2.Rules,x6.2.Nodes)) fun x4=>some (x4.1,x4.2.1,x4.2.2.1,x4.2.2.2.1,x4.2.2.2.2)
def BC (a0:List g_api_Rule)(a1:AG)(k0:AZ):Option (AL×AZ):=Ab (Ab (C8 (CR a0 a1) a1.Names.length 0 (true,0,([]:List Int),k0.Rules,k0.Nodes)) fun x2=>some (x2.1,x2.2.1,x2.2.2.1,x2.2.2.2.1,x2.2.2.2.2)) fun x1=>some ((⟨x1.1,x1.2.1,x1.2.2.1⟩:AL),(⟨x1.2.2.2.1,x1.2.2.2.2⟩:AZ))
theorem Hz {a0 a1 k0 r}(hm:BC a0 a1 k0=some r):Sp prog 45 [sl Ac a0,ag (DB a1),.fn (.func 108) [] [.pb 0 0]] [.box 0 [sl Ac k0.Rules,sl Ao k0.Nodes] 35] 1 (is (ag (FE r.1)) [.box 0 [.d (.sl _ Ac r.2.Rules),.d (.sl _ Ao r.2.Nodes)] 35] 1):=by
 refine sq fun D0 As η0 m0 hd=> ?_;unfold BC at hm;obtain⟨x1,q1,hm⟩:=Ad hm;refine oB q1 fun _ q2 q1=>Tr 0 eI 7 2 1<|JR 0 (E:=eS) (xs:=a1.Names) 14 fun hle1=>gF (EM _ _ _) q2 (fun p0 (p_0,p_1,p_2,p_3,p_4)=>⟨[(0,sl Ac a0),(2,.fn (.func 108) [] [.pb 0 0]),(4,.pb 1 0),(6,.pb 2 0),(7,.pb 3 0),(14,sl eS a1.Names),(15,.d (.i (a1.Names.length:Int))),(16,.d (.i p0))],[(0,.row 4 1 _ eI p_2),(1,.box 3 [.d (.t p_0),.d (.i p_1),.ow 4] 45),(2,.box 2 [.d (.t false),.d (.i 0),sl eI []] 45),(3,.box 1 [.d (.i a1.Account),sl eS a1.Names,.d (.u a1.Key),.d (.i a1.Life)] 26),(4,.box 0 [sl Ac p_3,sl Ao p_4] 35)],[],5⟩) fun i1 s1 Jl bl1=>cM bl1 (a1.Names.length:Int) (fun _ q5 bl1=> ?_) fun e=> ?_
 ·refine oB q5 fun x4 q7 q5=>gjU 1 (fun(_:Unit)=>let (y_0,y_1,y_2,y_3,y_4):=x4; ⟨[(0,sl Ac a0),(2,.fn (.func 108) [] [.pb 0 0]),(4,.pb 1 0),(6,.pb 2 0),(7,.pb 3 0),(14,sl eS a1.Names),(15,.d (.i (a1.Names.length:Int))),(16,.d (.i (i1:Int)))],[(0,.row 4 1 _ eI y_2),(1,.box 3 [.d (.t y_0),.d (.i y_1),.ow 4] 45),(2,.box 2 [.d (.t false),.d (.i 0),sl eI []] 45),(3,.box 1 [.d (.i a1.Account),sl eS a1.Names,.d (.u a1.Key),.d (.i a1.Life)] 26),(4,.box 0 [sl Ac y_3,sl Ao y_4] 35)],[],5⟩) (fun _=>True) (fun Jp bk3=> ?_) fun _ _=> ?_
  ·refine oB q7 fun _ q8 q7=>gx eS 1 q8<|gD q7 J6 fun x6 q9 q7=>gq eI 1 [x6.1]<|oB q7 fun _ q10 q7=>gp eI 1 q10<|oB q7 fun _ q11 q7=>gxG Ac 7 q11<|oB q7 fun _ q12 q7=>gxG Ac 7 q12<|oB q7 fun _ q13 q7=>gxG Ac 7 q13<|bE q7 ?_;intro _ q7;refine gi q7 ?_ ?_<;>intro _ q7
   ·obtain rfl:=AcO q7;exact gb bk3 hd () trivial
   obtain rfl:=AcO q7;exact gb bk3 hd () trivial
  exact gM bl1 hle1 q5
 subst e;obtain rfl:=AcO q1;exact AcO hm▸gE
end Go.Proofs.YtflnolcabkandaaGreatDoor
