/- Several texts, one behind the other. Conditions: none. -/
import Derived.Test.YtbajlmaijjcbmaaGreatDoorZi
import Derived.Test.YtbajlmaijjcbmaaGreatDoorZb
import Derived.Test.YtbajlmaijjcbmaaGreatDoorZh
import Derived.Test.YtbajlmaijjcbmaaGreatDoorCards
import Derived.Test.YtbajlmaijjcbmaaGreatDoorTie
import Derived.WalkKit
import Derived.ProofKit
import Derived.OpenShut
import Derived.Deep.DeepHandedRow
import Derived.Lib.LaidTab
import Derived.SevenTiedAt
import Derived.Stop.LaidErr
set_option linter.unusedSimpArgs false
set_option linter.unusedVariables false
set_option maxHeartbeats 4000000
set_option maxRecDepth 100000
section
namespace Go.Proofs.YtbajlmaijjcbmaaGreatDoor
open Go Go.Gw Go.Ax
theorem iter_any {α:Type}{step:Bool×Int→Option ((Bool×Int)⊕Bool)}(l:List α)(p:α→Bool)(hs: ∀(i:Nat) (x:α) (b:Bool),l[i]? =some x→step (b,(i:Int))=some (.inl (b||p x,((i+1:Nat):Int))))
  (he: ∀b,step (b,(l.length:Int))=some (.inr b)): ∀(r:List α) (i n:Nat) (b:Bool),l.drop i=r→i≤l.length→r.length<n→iter step n (b,(i:Int))=some (b||r.any p)
 |r,i,0,b,_,_,h=>by omega
 | [],i,n+1,b,hd,hi,_=>by
  have:l.length≤i:=List.drop_eq_nil_iff.1 hd;have e:i=l.length:=by omega
  rw[e,CA (he b)]; simp
 |x::r,i,n+1,b,hd,hi,hn=>by
  obtain⟨hc,hr,hlt⟩:=F4 hd;rw[Ci (hs i x b hc),iter_any l p hs he r (i+1) n _ hr hlt (by simp only[List.length_cons]at hn; omega),List.any_cons,Bool.or_assoc]
theorem FUEL_mil:1000001≤C7:=Nat.le_of_ble_eq_true rfl
theorem iter_any0 {α:Type}{step:Bool×Int→Option ((Bool×Int)⊕Bool)}(l:List α)(p:α→Bool)(hl:l.length≤1000000)(hs: ∀(i:Nat) (x:α) (b:Bool),l[i]? =some x→step (b,(i:Int))=some (.inl (b||p x,((i+1:Nat):Int))))
  (he: ∀b,step (b,(l.length:Int))=some (.inr b)) (b:Bool):iter step C7 (b,0)=some (b||l.any p):=
 iter_any l p hs he l 0 C7 b rfl (Nat.zero_le _) (by have:=FUEL_mil; omega)
def fndI {α τ:Type}(f:Nat→α→Option τ):Nat→List α→Unit⊕τ
 |_,[]=> .inl ()
 |i,x::l=>match f i x with|some t=> .inr t|none=>fndI f (i+1) l
theorem gu_ttN {α:Type} [Inhabited α](o:Option α):gu (!false) o=o:=rfl
def abvB (a b:g_api_Cert):Bool:=(b.Ca&&eqS b.Subject a.Issuer)&&(Xw b.Key (Jm a) a.Sig==0)
def letB (c:g_api_Cert)(l:List ByteArray)(below now:Int):Bool:=if(l.all fun n=>((c.Permit.length:Int)==0)||Vv c n)=true then((c.Ca&&(decide (c.Depth≥below)))&&(decide (c.From≤now)))&&(decide (now<c.Until))else false
end Go.Proofs.YtbajlmaijjcbmaaGreatDoor
end
section
namespace Go.Proofs.YtbajlmaijjcbmaaGreatDoor
open Go Go.Gw Go.Ax
def Pb {σ α:Type}(y:σ→α→Option (Bool×σ)):List α→σ→Option (σ⊕σ)
 | [],s=>some (.inl s)
 |x::l,s=>Ae (y s x) fun r=>if r.1=true then Pb y l r.2 else some (.inr r.2)
theorem run_app {σ α:Type}{y:σ→α→Option (Bool×σ)}: ∀(a b:List α) (s:σ),Pb y (a++b) s=Ae (Pb y a s) fun t=>match t with
  | .inl s=>Pb y b s
  | .inr s=>some (.inr s)
 | [],b,s=>rfl
 |x::a,b,s=>by
  show Ae (y s x) _=Ae (Ae (y s x) _) _;cases y s x with
  |none=>rfl
  |some r=>
   rw[Ab,Ab];cases h:r.1
   ·rfl
   ·exact run_app a b r.2
def two {σ:Type}:σ⊕σ→(σ⊕σ)⊕(σ⊕σ)
 | .inl s=> .inl (.inl s)
 | .inr s=> .inr (.inr s)
def strp {σ:Type}:σ⊕σ→σ
 | .inl s=>s
 | .inr s=>s
theorem strp_two {σ:Type}(t:σ⊕σ):strp (two t)=t:=by cases t<;>rfl
theorem run_wp {σ:Type}{y:σ→List g_api_Cert→Option (Bool×σ)}: ∀(l:List (List g_api_Cert)) (s:σ),Pb (M9 (wp y)) l (.inl s)=(Pb y l s).map two
 | [],s=>rfl
 |x::l,s=>by
  show Ae ((wp y s x).map fun r=>(isL r,r)) _=(Ae (y s x) _).map two;unfold wp;cases y s x with
  |none=>rfl
  |some r=>
   rw[Ab,Ab];obtain⟨b,s'⟩:=r;cases b
   ·rfl
   ·exact run_wp l s'
def lkB (a:Option g_api_Cert)(b:g_api_Cert):Bool:=match a with|some a=>BY a b==some 0|none=>false
def JZ (f:List OC→List g_api_Cert→List (List g_api_Cert))(pool:List OC)(ch:List g_api_Cert):Nat→List OC→List (List g_api_Cert)
 |_,[]=> []
 |i,none::r=>JZ f pool ch (i+1) r
 |i,some d::r=>(if lkB ch.getLast? d=true then f (pool.set i none) (ch++[d])else [])++JZ f pool ch (i+1) r
def HD:Nat→List OC→List g_api_Cert→List (List g_api_Cert)
 |0,_,_=> []
 |n+1,pool,ch=>ch::(if ch.length=4 then []else JZ (HD n) pool ch 0 pool)
theorem ways_eq: ∀(n:Nat) {σ:Type} (y:σ→List g_api_Cert→Option (Bool×σ)) (pool:List OC) (ch:List g_api_Cert) (s:σ),4<n+ch.length→ch≠[]→ch.length≤4→pool.length≤1000→
  FZ n σ y pool ch s=(Pb y (HD n pool ch) s).map strp
 |0,σ,y,pool,ch,s,h,_,h4,_=>by omega
 |n+1,σ,y,pool,ch,s,h,hne,h4,hp=>by
  have each: ∀(r:List OC) (i:Nat) (s:σ),pool.drop i=r→ch.length≠4→Ds (El (FZ n (σ⊕σ)) y pool ch) r (i:Int) s=Pb y (JZ (HD n) pool ch i r) s:=by
   intro r;induction r with
   |nil=>intro i s _ _; rfl
   |cons c r ih=>
    intro i s hd h5;obtain⟨hc,hr,hlt⟩:=F4 hd;have ih':=fun s=>ih (i+1) s hr h5;have e1:((i+1:Nat):Int)=(i:Int)+1:=by omega
    simp only[e1]at ih';show Ae (El _ y pool ch (i:Int) c s) _=_;cases c with
    |none=>
     show Ae (some (Sum.inl s)) _=_;rw[Ab];exact ih' s
    |some d=>
     obtain⟨x,hx,hi⟩:=QR hne (by omega);obtain⟨k,hk⟩:=VC x d;show _=Pb y (_++_) s;rw[run_app];have e2:El (FZ n (σ⊕σ)) y pool ch (i:Int) (some d) s=Pb y (if lkB ch.getLast? d=true then HD n (pool.set i none) (ch++[d])else []) s:=by
      show Ae (idx ch (w64 ((ch.length:Int)-1))) _=_;rw[hi,Ab,hk,Ab,hx];show _=Pb y (if(BY x d==some 0)=true then _ else []) s;rw[hk];by_cases hz:k=0
      ·subst hz;rw[if_neg (by decide),if_pos (by decide)];have e3:B8 pool=some pool:=by
        unfold B8;rw[Hw 8 (by simp; omega) (by simp; omega),Ab,List.nil_append]
       rw[e3,Ab,CB hc,Ab,Hw 168 (by simp; omega) (by simp; omega),Ab,Int.toNat_natCast];rw[ways_eq n _ _ _ _ (by simp; omega) (by simp) (by simp; omega) (by simp; omega),run_wp,Option.map_map];show(Pb y _ s).map _=_;have:(strp∘two:σ⊕σ→σ⊕σ)=id:=funext strp_two;rw[this,Option.map_id_fun,id]
      ·rw[if_pos (by simpa using hz),if_neg (by simpa using hz)];rfl
     rw[e2];congr 1;funext t;cases t with
     |inl s=>exact ih' s
     |inr s=>rfl
  show Ae (y s ch) _=(Ae (y s ch) _).map strp;cases y s ch with
  |none=>rfl
  |some r=>
   rw[Ab,Ab];obtain⟨b,s'⟩:=r;cases b with
   |false=>rfl
   |true=>
    by_cases h5:ch.length=4
    ·rw[if_pos h5,if_pos (by simp[h5])];rfl
    ·have hb: ¬((!true||((ch.length:Int)==4))=true):=by
      simp only[Bool.not_true,Bool.false_or,beq_iff_eq]; omega
     rw[if_neg hb,if_neg h5];rw[show Ds (El (FZ n (σ⊕σ)) y pool ch) pool 0 s'=_ from each pool 0 s' rfl h5];show _=(Pb y _ s').map strp;cases Pb y (JZ (HD n) pool ch 0 pool) s' with
     |none=>rfl
     |some t=>cases t<;>rfl
end Go.Proofs.YtbajlmaijjcbmaaGreatDoor
end
section
namespace Go.Proofs.YtbajlmaijjcbmaaGreatDoor
open Go Go.Gw Go.Ax
theorem all_loop: ∀(r:List g_api_Cert) (i:Int) (acc:List OC),acc.length+r.length≤1000→Ds FN r i acc=some (.inl (acc++r.map some))
 | [],i,acc,_=>by show some (Sum.inl acc)=_; simp
 |c::r,i,acc,h=>by
  simp only[List.length_cons]at h;show Ae (FN i c acc) _=_;unfold FN;rw[Hw 8 (by simp; omega) (by simp; omega),Ab,Ab];show Ds FN r (i+1) (acc++[some c])=_;rw[all_loop r (i+1) (acc++[some c]) (by simp; omega),List.append_assoc];rfl
theorem run_build {roots:List g_api_Cert}{name:ByteArray}{now:Int}: ∀(l:List (List g_api_Cert)) (out:List (List g_api_Cert)),(∀x∈l,x.length≤1000)→out.length+l.length≤1000000000→
  Pb (M9 (FM roots name now)) l (.inl out)=some (.inl (.inl (out++l.filter fun x=>JG roots x name now==0)))
 | [],out,_,_=>by show some (Sum.inl (Sum.inl out))=_; simp
 |x::l,out,h,hn=>by
  simp only[List.length_cons]at hn;have hx:=h x List.mem_cons_self;have e:FM roots name now out x=some (.inl (out++[x].filter fun x=>JG roots x name now==0)):=by
   unfold FM;rw[PG,Ab,List.filter_cons,List.filter_nil];cases JG roots x name now==0 with
   |true=>
    rw[if_pos rfl,if_pos rfl];unfold AE;rw[Hw 168 (by simp; omega) (by simp; omega),Ab,Ab,List.nil_append,Hw 24 (by simp; omega) (by simp; omega),Ab]
   |false=>rw[if_neg (by decide),if_neg (by decide),List.append_nil]
  show Ae ((FM roots name now out x).map fun r=>(isL r,r)) _=_;rw[e];show Pb (M9 (FM roots name now)) l (.inl (out++[x].filter fun x=>JG roots x name now==0))=_;have hf:([x].filter fun x=>JG roots x name now==0).length≤1:=List.length_filter_le _ _;rw[run_build l _ (fun y hy=>h y (List.mem_cons_of_mem _ hy)) (by rw[List.length_append]; omega),List.append_assoc,←List.filter_append];rfl
theorem waysI_len {f:List OC→List g_api_Cert→List (List g_api_Cert)}{pool:List OC}{ch:List g_api_Cert}(B:Nat)(h: ∀i c,(f (pool.set i none) c).length≤B): ∀(r:List OC) (i:Nat),(JZ f pool ch i r).length≤r.length*B
 | [],i=>by simp[JZ]
 |none::r,i=>by
  have:=waysI_len (ch:=ch) B h r (i+1);show(JZ f pool ch (i+1) r).length≤_;rw[List.length_cons,Nat.succ_mul]; omega
 |some d::r,i=>by
  have:=waysI_len (ch:=ch) B h r (i+1);show(_++JZ f pool ch (i+1) r).length≤_;rw[List.length_append,List.length_cons,Nat.succ_mul];have:(if lkB ch.getLast? d=true then f (pool.set i none) (ch++[d])else []).length≤B:=by
   split
   ·exact h i _
   ·exact Nat.zero_le _
  omega
theorem waysL_len: ∀(n:Nat) (pool:List OC) (ch:List g_api_Cert),pool.length≤8→(HD n pool ch).length≤9^n
 |0,_,_,_=>Nat.zero_le _
 |n+1,pool,ch,h=>by
  unfold HD;have ih: ∀(i:Nat) (c:List g_api_Cert),(HD n (pool.set i none) c).length≤9^n:=fun i c=>waysL_len n _ c (by rw[List.length_set]; exact h);rw[List.length_cons];have h9:1≤9^n:=Nat.one_le_pow _ _ (by decide);have:(if ch.length=4 then []else JZ (HD n) pool ch 0 pool).length≤8*9^n:=by
   split
   ·exact Nat.zero_le _
   ·exact Nat.le_trans (waysI_len (9^n) ih pool 0) (Nat.mul_le_mul_right _ h)
  rw[Nat.pow_succ];omega
theorem waysL_mem: ∀(n:Nat) (pool:List OC) (ch:List g_api_Cert),ch.length≤4→∀x∈HD n pool ch,x.length≤4∧∃t,x=ch++t∧∀c∈t,some c∈pool
 |0,_,_,_,x,hx=>by cases hx
 |n+1,pool,ch,h,x,hx=>by
  unfold HD at hx;rcases List.mem_cons.1 hx with rfl|hx
  ·exact⟨h,[],by simp,fun c hc=>by cases hc⟩
  split at hx
  ·cases hx
  rename_i h4;have each: ∀(r:List OC) (i:Nat),pool.drop i=r→x∈JZ (HD n) pool ch i r→x.length≤4∧∃t,x=ch++t∧∀c∈t,some c∈pool:=by
   intro r;induction r with
   |nil=>intro i _ hx; cases hx
   |cons c r ih=>
    intro i hd hx;obtain⟨hc,hr,hlt⟩:=F4 hd;cases c with
    |none=>exact ih (i+1) hr hx
    |some d=>
     have hx:x∈(if lkB ch.getLast? d=true then HD n (pool.set i none) (ch++[d])else [])++JZ (HD n) pool ch (i+1) r:=hx;rcases List.mem_append.1 hx with hx|hx
     ·split at hx
      ·obtain⟨h1,t,h2,h3⟩:=waysL_mem n (pool.set i none) (ch++[d]) (by simp; omega) x hx;refine⟨h1,d::t,by rw[h2]; simp,fun e he=> ?_⟩;rcases List.mem_cons.1 he with rfl|he
       ·exact List.mem_of_getElem? hc
       ·rcases List.mem_or_eq_of_mem_set (h3 e he)with q|q
        ·exact q
        ·cases q
      ·cases hx
     ·exact ih (i+1) hr hx
  exact each pool 0 rfl hx
def Wc (roots pool:List g_api_Cert)(leaf:g_api_Cert)(name:ByteArray)(now:Int):List (List g_api_Cert):=(HD 8 (pool.map some) [leaf]).filter fun x=>JG roots x name now==0
theorem build_eq (a0 a1:List g_api_Cert)(a2:g_api_Cert)(a3:ByteArray)(a4:Int)(h:a1.length≤8):EA a0 a1 a2 a3 a4=some (Wc a0 a1 a2 a3 a4):=by
 unfold EA Wc;have hp:(a1.map some).length≤8:=by rw[List.length_map]; exact h
 have hlen:=waysL_len 8 (a1.map some) [a2] hp;have hmem:=waysL_mem 8 (a1.map some) [a2] (by simp);rw[if_neg (fun q=>by have:=of_decide_eq_true q; omega),all_loop a1 0 [] (by simp; omega),Ab,List.nil_append];dsimp only;rw[ways_eq 8 _ _ _ _ (by simp) (by simp) (by simp) (by omega),run_build _ [] (fun x hx=>by have:=(hmem x hx).1; omega) (by simp; omega),List.nil_append];rfl
theorem bld_mem {a0 a1:List g_api_Cert}{a2:g_api_Cert}{a3:ByteArray}{a4:Int}{x:List g_api_Cert}(h:x∈Wc a0 a1 a2 a3 a4):JG a0 x a3 a4=0∧∃t,x=a2::t∧t.length≤3∧∀c∈t,c∈a1:=by
 unfold Wc at h;obtain⟨h1,h2⟩:=List.mem_filter.1 h;obtain⟨h3,t,h4,h5⟩:=waysL_mem 8 (a1.map some) [a2] (by simp) x h1;refine⟨by simpa using h2,t,by simpa using h4,?_,fun c hc=>by simpa using h5 c hc⟩;rw[h4]at h3; simp at h3; omega
theorem sameV (a b:g_api_Cert): ∃r,CS a b=some r∧(a=b→r=true):=by
 obtain⟨r,h1,h2⟩:=Qv a b;exact⟨r,h1,h2.2⟩
def Xy (a b:g_api_Cert):Bool:=(CS a b).getD false
theorem sam_eq (a b:g_api_Cert):CS a b=some (Xy a b):=by
 obtain⟨r,h,_⟩:=sameV a b;unfold Xy; rw[h]; rfl
theorem sam_self (a:g_api_Cert):Xy a a=true:=by unfold Xy; rw[LW]; rfl
theorem found_b4 {a1:List g_api_Cert}{x4:List (List g_api_Cert)}{x:List g_api_Cert}{c:g_api_Cert}{i k:Nat}(hx:x4[i]? =some x)(hc:x[k]? =some c)(hl:a1.length≤1000000):iter (BO a1 x4 (i:Int) (k:Int)) C7 (false,0)=some (a1.any fun p=>Xy p c):=by
 rw[iter_any0 a1 (fun p=>Xy p c) hl (fun j y b hy=> ?_) (fun b=> ?_) false,Bool.false_or]
 ·have hj:=(List.getElem?_eq_some_iff.1 hy).1;unfold BO;dsimp only;rw[if_pos (decide_eq_true (show(j:Int)<(a1.length:Int)from by omega)),KJ (by omega),CB hy,CB hx];cases b with
  |true=>rfl
  |false=>
   rw[gu_ttN,Ab,gu_ttN,Ab,CB hc,gu_ttN,Ab,sam_eq,gu_ttN,Ab]
 ·unfold BO;dsimp only;rw[if_neg (fun h=>by have:=of_decide_eq_true h; omega)]
theorem found_b3 {a1:List g_api_Cert}{x4:List (List g_api_Cert)}{a2:g_api_Cert}{t:List g_api_Cert}{i:Nat}(hx:x4[i]? =some (a2::t))(ht:t.length≤3)(hm: ∀c∈t,c∈a1)(hl:a1.length≤1000000):iter (BB a1 x4 (i:Int)) C7 1=some (.inl ()):=by
 have key: ∀(r:List g_api_Cert) (k n:Nat),(a2::t).drop k=r→1≤k→k≤(a2::t).length→r.length<n→iter (BB a1 x4 (i:Int)) n (k:Int)=some (.inl ()):=by
  intro r;induction r with
  |nil=>
   intro k n hd h1 hi hn;obtain⟨n,rfl⟩: ∃q,n=q+1:=⟨n-1,by omega⟩;have:(a2::t).length≤k:=List.drop_eq_nil_iff.1 hd;refine CA ?_;unfold BB;rw[CB hx,Ab,if_neg (fun h=>by have:=of_decide_eq_true h; omega)]
  |cons c r ih=>
   intro k n hd h1 hi hn;obtain⟨n,rfl⟩: ∃q,n=q+1:=⟨n-1,by omega⟩;obtain⟨hc,hr,hlt⟩:=F4 hd;obtain⟨j,rfl⟩: ∃j,k=j+1:=⟨k-1,by omega⟩;have hcm:c∈t:=List.mem_of_getElem? (i:=j) (by simpa using hc);have hl4:(a2::t).length≤4:=by simp only[List.length_cons]; omega
   refine(Ci ?_).trans (ih (j+2) n hr (by omega) (by omega) (by simp only[List.length_cons]at hn; omega));unfold BB;rw[CB hx,Ab,if_pos (decide_eq_true (show((j+1:Nat):Int)<((a2::t).length:Int)from by omega)),found_b4 hx hc hl,Ab,Ab,(show(a1.any fun p=>Xy p c)=true from List.any_eq_true.2 ⟨c,hm c hcm,sam_self c⟩),if_neg (by decide),KJ (by omega)]
 exact key t 1 C7 rfl (Nat.le_refl _) (by simp) (by have:=FUEL_mil; omega)
theorem found_loop {a0 a1:List g_api_Cert}{a2:g_api_Cert}{a3:ByteArray}{a4:Int}{x4:List (List g_api_Cert)}(hx: ∀x∈x4,x∈Wc a0 a1 a2 a3 a4)(hl:a1.length≤1000000)(hn:x4.length≤100000000):
  iter (BC a0 a1 a2 a3 a4 x4) C7 0=some (.inl ()):=by
 have key: ∀(r:List (List g_api_Cert)) (k n:Nat),x4.drop k=r→k≤x4.length→r.length<n→iter (BC a0 a1 a2 a3 a4 x4) n (k:Int)=some (.inl ()):=by
  intro r;induction r with
  |nil=>
   intro k n hd hi hnn;obtain⟨n,rfl⟩: ∃q,n=q+1:=⟨n-1,by omega⟩;have:x4.length≤k:=List.drop_eq_nil_iff.1 hd;refine CA ?_;unfold BC;rw[if_neg (fun h=>by have:=of_decide_eq_true h; omega)]
  |cons x r ih=>
   intro k n hd hi hnn;obtain⟨n,rfl⟩: ∃q,n=q+1:=⟨n-1,by omega⟩;obtain⟨hc,hr,hlt⟩:=F4 hd;obtain⟨hv,t,rfl,ht,hm⟩:=bld_mem (hx x (List.mem_of_getElem? hc));refine(Ci ?_).trans (ih (k+1) n hr (by omega) (by simp only[List.length_cons]at hnn; omega));have d1:decide (((a2::t).length:Int)<1)=false:=decide_eq_false (by simp only[List.length_cons]; omega);have e3:=found_b3 hc ht hm hl;unfold BC;rw[if_pos (decide_eq_true (show(k:Int)<(x4.length:Int)from by omega)),CB hc,Ab,d1];show Ae (some (a2::t)) _=_;rw[Ab,PG,hv];show Ae (some (0:Int)) _=_;rw[Ab];show Ae (some (a2::t)) _=_;rw[Ab];show Ae (some a2) _=_;rw[Ab,LW];show Ae (some true) _=_;rw[Ab,if_neg (by decide),e3,Ab];show some (Sum.inl (w64 ((k:Int)+1)))=_;rw[Ez (by omega) (by omega)];rfl
 exact key x4 0 C7 rfl (Nat.zero_le _) (by have:100000001≤C7:=Nat.le_of_ble_eq_true rfl; omega)
theorem bld_len (a0 a1:List g_api_Cert)(a2:g_api_Cert)(a3:ByteArray)(a4:Int)(h:a1.length≤8):(Wc a0 a1 a2 a3 a4).length≤100000000:=by
 unfold Wc;have h1:=waysL_len 8 (a1.map some) [a2] (by rw[List.length_map]; exact h);have h2:=List.length_filter_le (fun x=>JG a0 x a3 a4==0) (HD 8 (a1.map some) [a2]);have:(9:Nat)^8≤100000000:=by decide
 omega
theorem bld_first {a0 a1:List g_api_Cert}{a2:g_api_Cert}{a3:ByteArray}{a4:Int}(h:JG a0 [a2] a3 a4=0): ∃r,Wc a0 a1 a2 a3 a4=[a2]::r:=by
 unfold Wc HD;rw[List.filter_cons,if_pos (by simpa using h)];exact⟨_,rfl⟩
theorem found_true (a0 a1:List g_api_Cert)(a2:g_api_Cert)(a3:ByteArray)(a4:Int):C2 a0 a1 a2 a3 a4=some true:=by
 unfold C2;rw[PU,Ab,if_neg (by decide)];obtain⟨b,hb,h⟩:=Ud a0 [a2] a3;obtain⟨b',hb',h'⟩:=Ud [] a1 ⟨#[]⟩;rw[hb,Ab,hb'];cases b with
 |false=>rfl
 |true=>
  rw[show gu (!(!true)) (some b')=some b' from rfl,Ab];cases b' with
  |false=>rfl
  |true=>
   obtain⟨_,_,hl,_⟩:=h' rfl;rw[if_neg (by decide),build_eq _ _ _ _ _ (by omega),Ab,found_loop (fun x hx=>hx) (by omega) (bld_len a0 a1 a2 a3 a4 (by omega)),Ab];dsimp only;rw[PG,Ab];by_cases hz:JG a0 [a2] a3 a4=0
   ·obtain⟨r,hr⟩:=bld_first (a1:=a1) hz;rw[hz,hr];have d1:decide ((([a2]::r).length:Int)>0)=true:=decide_eq_true (by simp only[List.length_cons]; omega);rw[d1];rfl
   ·have d:(JG a0 [a2] a3 a4==0)=false:=by simpa using hz
    rw[d];rfl
end Go.Proofs.YtbajlmaijjcbmaaGreatDoor
end
section
namespace Go.Proofs.YtbajlmaijjcbmaaGreatDoor.lawPathFound
open Go Go.Gw Go.ChangeShapes Go.WideShapes Go.ChangeAt Go.RowKit
theorem own:ownKnob Tryz.prog.godebug=none:=by kernel_rfl
theorem tab_ir:Ir Tryz.prog 180 (.agg [.agg [.lit (.int .i64 1),.held [103,114,101,97,116,115,101,97,108,47,100,101,114,46,107,105,110,100,115,36,49]],.agg [.lit (.int .i64 2),.held [103,114,101,97,116,115,101,97,108,47,100,101,114,46,108,101,97,115,116]],.agg [.lit (.int .i64 4),.held [103,114,101,97,116,115,101,97,108,47,100,101,114,46,107,105,110,100,115,36,50]],.agg [.lit (.int .i64 12),.held [103,114,101,97,116,115,101,97,108,47,100,101,114,46,107,105,110,100,115,36,51]],.agg [.lit (.int .i64 48),.held [103,114,101,97,116,115,101,97,108,47,100,101,114,46,107,105,110,100,115,36,52]]]) [[.int .i64 1,.func (.func 252) #[] #[]],[.int .i64 2,.func (.func 157) #[] #[]],[.int .i64 4,.func (.func 253) #[] #[]],[.int .i64 12,.func (.func 254) #[] #[]],[.int .i64 48,.func (.func 257) #[] #[]]].flatten:=
 Ir.arr (n:=5) (k:=2) Tryz.underlying180 (by kernel_rfl) (by kernel_rfl) rfl rfl fun i d c h1 h2=>by
  match i,h1,h2 with
  |0,h1,h2=>cases h1; cases h2; exact Ir.pair Tryz.underlying146 rfl rfl rfl (by kernel_rfl) rfl rfl (by kernel_rfl) (by kernel_rfl) (Ir.int Tryz.underlying3) (Ir.fn Tryz.underlying144 Tryz.func252 (by kernel_rfl) (by kernel_rfl))
  |1,h1,h2=>cases h1; cases h2; exact Ir.pair Tryz.underlying146 rfl rfl rfl (by kernel_rfl) rfl rfl (by kernel_rfl) (by kernel_rfl) (Ir.int Tryz.underlying3) (Ir.fn Tryz.underlying144 Tryz.func157 (by kernel_rfl) (by kernel_rfl))
  |2,h1,h2=>cases h1; cases h2; exact Ir.pair Tryz.underlying146 rfl rfl rfl (by kernel_rfl) rfl rfl (by kernel_rfl) (by kernel_rfl) (Ir.int Tryz.underlying3) (Ir.fn Tryz.underlying144 Tryz.func253 (by kernel_rfl) (by kernel_rfl))
  |3,h1,h2=>cases h1; cases h2; exact Ir.pair Tryz.underlying146 rfl rfl rfl (by kernel_rfl) rfl rfl (by kernel_rfl) (by kernel_rfl) (Ir.int Tryz.underlying3) (Ir.fn Tryz.underlying144 Tryz.func254 (by kernel_rfl) (by kernel_rfl))
  |4,h1,h2=>cases h1; cases h2; exact Ir.pair Tryz.underlying146 rfl rfl rfl (by kernel_rfl) rfl rfl (by kernel_rfl) (by kernel_rfl) (Ir.int Tryz.underlying3) (Ir.fn Tryz.underlying144 Tryz.func257 (by kernel_rfl) (by kernel_rfl))
  |n+5,h1,h2=>cases h1
theorem gB {W:World}(h:laidMetH Tryz.prog Rows.pathFoundRow.laid W):GB (memOf W):=fun p hp=>by
 obtain rfl:=List.mem_singleton.1 hp;exact gb_of (name:= "greatseal/der.kinds") (by kernel_rfl) (by kernel_rfl) (laidMetH.funcs h (d:= .agg [.agg [.lit (.int .i64 1),.iface "func" (.lit (.string [103,114,101,97,116,115,101,97,108,47,100,101,114,46,107,105,110,100,115,36,49]))],.agg [.lit (.int .i64 2),.iface "func" (.lit (.string [103,114,101,97,116,115,101,97,108,47,100,101,114,46,108,101,97,115,116]))],.agg [.lit (.int .i64 4),.iface "func" (.lit (.string [103,114,101,97,116,115,101,97,108,47,100,101,114,46,107,105,110,100,115,36,50]))],.agg [.lit (.int .i64 12),.iface "func" (.lit (.string [103,114,101,97,116,115,101,97,108,47,100,101,114,46,107,105,110,100,115,36,51]))],.agg [.lit (.int .i64 48),.iface "func" (.lit (.string [103,114,101,97,116,115,101,97,108,47,100,101,114,46,107,105,110,100,115,36,52]))]]) (List.Mem.tail _ (List.Mem.head _))) tab_ir
theorem rd3:Rd Tryz.prog 3 (Int):=Rd.int Tryz.underlying3
theorem rd9:Rd Tryz.prog 9 (ByteArray):=Rd.str Tryz.underlying9
theorem rd22:Rd Tryz.prog 22 (UInt64):=Rd.u64 Tryz.underlying22
theorem rd23:Rd Tryz.prog 23 (List ByteArray):=Rd.slice Tryz.underlying23 rd9 (by kernel_rfl) (by decide)
theorem rd4:Rd Tryz.prog 4 (Bool):=Rd.bool Tryz.underlying4
theorem rd84:Rd Tryz.prog 84 (UInt64×UInt64):=Rd.arr2 Tryz.underlying84 rd22 (by kernel_rfl) (by kernel_rfl)
theorem rd26:Rd Tryz.prog 26 (g_api_Sig):=Rd.struct Tryz.underlying26 (Km.more rfl rd22 (by kernel_rfl) (Km.last rfl rd22 (by kernel_rfl))) (by kernel_rfl) (fun b=>⟨b.1,b.2⟩) (fun h=>h)
theorem rd86:Rd Tryz.prog 86 (g_api_Promise):=Rd.struct Tryz.underlying86 (Km.more rfl rd3 (by kernel_rfl) (Km.more rfl rd3 (by kernel_rfl) (Km.more rfl rd84 (by kernel_rfl) (Km.last rfl rd26 (by kernel_rfl))))) (by kernel_rfl) (fun b=>⟨b.1,b.2.1,b.2.2.1,b.2.2.2⟩) (fun h=>h)
theorem rd24:Rd Tryz.prog 24 (List g_api_Promise):=Rd.slice Tryz.underlying24 rd86 (by kernel_rfl) (by decide)
theorem rd28:Rd Tryz.prog 28 (g_api_Cert):=Rd.struct Tryz.underlying28 (Km.more rfl rd3 (by kernel_rfl) (Km.more rfl rd9 (by kernel_rfl) (Km.more rfl rd9 (by kernel_rfl) (Km.more rfl rd22 (by kernel_rfl) (Km.more rfl rd23 (by kernel_rfl) (Km.more rfl rd3 (by kernel_rfl) (Km.more rfl rd3 (by kernel_rfl) (Km.more rfl rd4 (by kernel_rfl) (Km.more rfl rd3 (by kernel_rfl) (Km.more rfl rd23 (by kernel_rfl) (Km.more rfl rd24 (by kernel_rfl) (Km.last rfl rd26 (by kernel_rfl))))))))))))) (by kernel_rfl) (fun b=>⟨b.1,b.2.1,b.2.2.1,b.2.2.2.1,b.2.2.2.2.1,b.2.2.2.2.2.1,b.2.2.2.2.2.2.1,b.2.2.2.2.2.2.2.1,b.2.2.2.2.2.2.2.2.1,b.2.2.2.2.2.2.2.2.2.1,b.2.2.2.2.2.2.2.2.2.2.1,b.2.2.2.2.2.2.2.2.2.2.2⟩) (fun h=>h)
theorem rd31:Rd Tryz.prog 31 (List g_api_Cert):=Rd.slice Tryz.underlying31 rd28 (by kernel_rfl) (by decide)
theorem rp_g_api_Cert {m:Mem}{cs:List Value}{x:g_api_Cert}(h:GoT.rep m cs x): ∃v1,∃v2,∃v3,cs=[vI x.Serial,vS x.Issuer,vS x.Subject,vU x.Key,v1,vI x.From,vI x.Until,vb x.Ca,vI x.Depth,v2,v3,vU x.Sig.E,vU x.Sig.S]∧SlR m v1 x.Names∧SlR m v2 x.Permit∧SlR m v3 x.Proms:=by
 obtain⟨_,_,rfl,rfl,⟨_,_,rfl,rfl,⟨_,_,rfl,rfl,⟨_,_,rfl,rfl,⟨_,_,rfl,⟨v1,rfl,h1⟩,⟨_,_,rfl,rfl,⟨_,_,rfl,rfl,⟨_,_,rfl,rfl,⟨_,_,rfl,rfl,⟨_,_,rfl,⟨v2,rfl,h2⟩,⟨_,_,rfl,⟨v3,rfl,h3⟩,⟨_,_,rfl,rfl,rfl⟩⟩⟩⟩⟩⟩⟩⟩⟩⟩⟩⟩:=h;exact⟨v1,v2,v3,rfl,h1,h2,h3⟩
theorem contract (H:Type)(enc:TypeId×Value→H)(W:World)(base:Nat)(args:Array Value)(ds gs:List (DataW H))(before:List MemPlace)
  (hval: ∀(j:Nat) t v,Tryz.f10.params[j]? =some t→args[j]? =some v→Value.okWide Tryz.prog W .any base t v)
  (hW:DataW.Whole enc Tryz.prog Tryz.f10.params.toList Rows.pathFoundSpec.vars false W args.toList ds gs before) (hL:laidMetH Tryz.prog Rows.pathFoundRow.laid W):
  Calls Tryz.prog 10 args W fun e W'=> ∃v,e= .returned v∧Rows.pathFoundSpec.post enc Tryz.prog Tryz.f10 false true false false W args v W':=by
 have hW':=hW;obtain⟨p,q,hA0,hV,rfl,hfz,hnd⟩:=hW;obtain⟨rfl,rfl⟩:=trodVars_none hV;rw[List.append_nil]at hW';have hA:DataW.TrodAll enc Tryz.prog W 0 (fun _=>true) true Tryz.f10.params.toList args.toList ds p:=hA0;have hA1:=hA;have hpl:Tryz.f10.params.toList=[31,31,28,9,3]:=by rw[Tryz.params10]
 rw[hpl]at hA1;obtain⟨v0,w0,d0,e0,p0,q0,ha0,he0,hp0,h0,r0⟩:=trodAll_cons hA1;obtain⟨v1,w1,d1,e1,p1,q1,ha1,he1,hp1,h1,r1⟩:=trodAll_cons r0;obtain⟨v2,w2,d2,e2,p2,q2,ha2,he2,hp2,h2,r2⟩:=trodAll_cons r1;obtain⟨v3,w3,d3,e3,p3,q3,ha3,he3,hp3,h3,r3⟩:=trodAll_cons r2;obtain⟨v4,w4,d4,e4,p4,q4,ha4,he4,hp4,h4,r4⟩:=trodAll_cons r3;obtain⟨z1,z2,z3⟩:=trodAll_nil r4;obtain rfl:args= #[v0,v1,v2,v3,v4]:=by
  apply Array.ext'; rw[ha0,ha1,ha2,ha3,ha4,z1]
 obtain rfl:ds=[d0,d1,d2,d3,d4]:=by rw[he0,he1,he2,he3,he4,z2]
 rw[Tryz.params10]at hval;obtain⟨x0,l0,c0,rfl⟩:=okWide_slice Tryz.underlying31 (hval 0 31 v0 rfl rfl);obtain⟨a0,s0⟩:=rd31.openS h0;obtain⟨x1,l1,c1,rfl⟩:=okWide_slice Tryz.underlying31 (hval 1 31 v1 rfl rfl);obtain⟨a1,s1⟩:=rd31.openS h1;obtain⟨c2,rfl,_⟩:=okWide_struct Tryz.underlying28 (hval 2 28 v2 rfl rfl);obtain⟨a2,s2⟩:=rd28.openA h2;obtain⟨z2_0,z2_1,z2_2,o2,y2_0,y2_1,y2_2⟩:=rp_g_api_Cert s2;obtain rfl:=arr_of o2;obtain⟨a3,rfl⟩:=okWide_string Tryz.underlying9 (hval 3 9 v3 rfl rfl);obtain⟨a4,rfl,_,_,_⟩:=open_int Tryz.underlying3 (hval 4 3 v4 rfl rfl) h4;have hc:=Jz (St.of W (gB hL)) s0 s1 y2_0 y2_1 y2_2 (found_true a0 a1 a2 a3 a4);refine Calls.mono hc ?_;rintro e W' ⟨v,rfl,hk,M,hle,S,rfl⟩;refine⟨.bool true,rfl,Ti (tb:=4) (by kernel_rfl) (by kernel_rfl) rfl (by kernel_rfl) Tryz.underlying4 hW' hA rfl rfl rfl hle S hk⟩
noncomputable def K9 (os:Os):World:=
 {World.holding Tryz.prog os ⟨#[], #[],[]⟩with heap:=((((World.holding Tryz.prog os ⟨#[], #[],[]⟩).heap.modify 5 fun| .cells _ t fr=> .cells #[.int .u8 128,.int .u8 191,.int .u8 160,.int .u8 191,.int .u8 128,.int .u8 159,.int .u8 144,.int .u8 191,.int .u8 128,.int .u8 143,.int .u8 0,.int .u8 0,.int .u8 0,.int .u8 0,.int .u8 0,.int .u8 0,.int .u8 0,.int .u8 0,.int .u8 0,.int .u8 0,.int .u8 0,.int .u8 0,.int .u8 0,.int .u8 0,.int .u8 0,.int .u8 0,.int .u8 0,.int .u8 0,.int .u8 0,.int .u8 0,.int .u8 0,.int .u8 0] t fr|o=>o).modify 0 fun| .cells _ t fr=> .cells [[.int .i64 1,.func (.func 252) #[] #[]],[.int .i64 2,.func (.func 157) #[] #[]],[.int .i64 4,.func (.func 253) #[] #[]],[.int .i64 12,.func (.func 254) #[] #[]],[.int .i64 48,.func (.func 257) #[] #[]]].flatten.toArray t fr|o=>o).modify 4 fun| .cells _ t fr=> .cells ((List.replicate 128 240++List.replicate 66 241++List.replicate 30 2++[19]++List.replicate 12 3++[35,3,3,52,4,4,4,68]++List.replicate 11 241:List Int).map fun n=>Value.int .u8 n).toArray t fr|o=>o)}
theorem laid_met (os:Os):laidMetH Tryz.prog Rows.pathFoundRow.laid ((K9 os).forCall (fun _ _=>0) ⟨#[], #[(.slice none 0 0:Value),(.slice none 0 0:Value),(.agg #[.int .i64 0,.string ⟨#[]⟩,.string ⟨#[]⟩,.int .u64 0,.slice none 0 0,.int .i64 0,.int .i64 0,.bool false,.int .i64 0,.slice none 0 0,.slice none 0 0,.int .u64 0,.int .u64 0]:Value),(.string ⟨#[]⟩:Value),(.int .i64 0:Value)],[]⟩).memory:=
 laidMetH_of_parts3 (fuel:=8) (laidMet_of_run' 8 (by kernel_rfl) (by kernel_rfl)) (by kernel_rfl) (by kernel_rfl)
theorem reads (os:Os){H:Type}(enc:TypeId×Value→H): ∃places,DataW.whole enc Tryz.prog ((K9 os).forCall (fun _ _=>0) ⟨#[], #[(.slice none 0 0:Value),(.slice none 0 0:Value),(.agg #[.int .i64 0,.string ⟨#[]⟩,.string ⟨#[]⟩,.int .u64 0,.slice none 0 0,.int .i64 0,.int .i64 0,.bool false,.int .i64 0,.slice none 0 0,.slice none 0 0,.int .u64 0,.int .u64 0]:Value),(.string ⟨#[]⟩:Value),(.int .i64 0:Value)],[]⟩).memory Tryz.f10.params.toList Rows.pathFoundSpec.vars false #[(.slice none 0 0:Value),(.slice none 0 0:Value),(.agg #[.int .i64 0,.string ⟨#[]⟩,.string ⟨#[]⟩,.int .u64 0,.slice none 0 0,.int .i64 0,.int .i64 0,.bool false,.int .i64 0,.slice none 0 0,.slice none 0 0,.int .u64 0,.int .u64 0]:Value),(.string ⟨#[]⟩:Value),(.int .i64 0:Value)].toList 8=some ([.nil,.nil,.agg [.lit (.int .i64 0),.lit (.string []),.lit (.string []),.lit (.int .u64 0),.nil,.lit (.int .i64 0),.lit (.int .i64 0),.lit (.bool false),.lit (.int .i64 0),.nil,.nil,.agg [.lit (.int .u64 0),.lit (.int .u64 0)]],.lit (.string []),.lit (.int .i64 0)],[],places):=
 ⟨[],by kernel_rfl⟩
theorem lifted (os:Os)(started:os.Started)(H:Type)(enc:TypeId×Value→H)(F:Stop.Interp):
  ReturnsInHanded {} Tryz.checked os 10 .any ((OpenSpec.ofChange Rows.pathFoundSpec).preRow enc Tryz.prog Tryz.f10 Rows.pathFoundRow.domain false Rows.pathFoundRow.laid) (((OpenSpec.ofChange Rows.pathFoundSpec).at F).post enc Tryz.prog Tryz.f10 false true false false):=by
 obtain⟨places,hx⟩:=reads os enc;refine returnsInHanded_of_row (C:=Tryz.checked) (s:=OpenSpec.ofChange Rows.pathFoundSpec) own started (by kernel_rfl) Tryz.func10
  (witness_row_at (enc:=enc) (C:=Tryz.checked) false (K9 os) #[(.slice none 0 0:Value),(.slice none 0 0:Value),(.agg #[.int .i64 0,.string ⟨#[]⟩,.string ⟨#[]⟩,.int .u64 0,.slice none 0 0,.int .i64 0,.int .i64 0,.bool false,.int .i64 0,.slice none 0 0,.slice none 0 0,.int .u64 0,.int .u64 0]:Value),(.string ⟨#[]⟩:Value),(.int .i64 0:Value)] rfl (by kernel_rfl) (by kernel_rfl) (by kernel_rfl)
   (OpenSpec.preRow_of_cond 8 hx (by kernel_rfl) (fun k hk=>by cases hk) (by kernel_rfl) (laid_met os))) ?_
 intro W base args ds gs before hval hW _ _ _ hL _ _;exact contract H enc W base args ds gs before hval hW hL
theorem j0:laidOutB Tryz.prog=true:=by kernel_rfl
theorem j1:mapsRowed Tryz.prog=true:=by kernel_rfl
theorem j2:(Rows.pathFoundRow.inPlace==Tryz.prog.inPlace 10)=true:=by kernel_rfl
theorem j3:(Rows.pathFoundRow.unfollowed==Tryz.prog.unfollowed 10)=true:=by kernel_rfl
theorem j4:(Rows.pathFoundRow.recurses==Tryz.prog.recurses 10)=true:=by kernel_rfl
theorem j5:(Rows.pathFoundRow.named==Tryz.prog.varsNamed 10)=true:=by kernel_rfl
theorem joined:joinedFacts Tryz.prog 10 Tryz.f10 (OpenSpec.ofChange Rows.pathFoundSpec).bare Rows.pathFoundRow=true:=by
 unfold joinedFacts;rw[j0,j1,j2,j3,j4,j5];kernel_rfl
theorem s1:Tryz.pinned.checked.prog.funcNamed Rows.pathFoundRow.func=some 10:=by kernel_rfl
theorem s2:Tryz.f10.isInstance Tryz.pinned.checked.prog Rows.pathFoundRow.origin Rows.pathFoundRow.targs:=of_decide_eq_true (by kernel_rfl)
theorem s3:Tryz.f10.isWrapper Tryz.pinned.checked.prog Rows.pathFoundRow.wrapper Rows.pathFoundRow.mainSum:=by unfold Func.isWrapper; first|(rw[if_pos (by decide+kernel)]; kernel_rfl)|(rw[if_neg (by decide+kernel)]; exact⟨rfl,rfl⟩)
theorem s4:joinedFacts Tryz.pinned.checked.prog 10 Tryz.f10 (OpenSpec.ofChange Rows.pathFoundSpec).bare Rows.pathFoundRow=true:=joined
theorem s5 (os:Os)(started:os.Started)(H:Type)(enc:TypeId×Value→H)(F:Stop.Interp):ReturnsInHanded Rows.pathFoundRow.assume Tryz.pinned.checked os 10 .any (Rows.pathFoundRow.pre enc Tryz.pinned.checked.prog Tryz.f10 (OpenSpec.ofChange Rows.pathFoundSpec)) (((OpenSpec.ofChange Rows.pathFoundSpec).at F).post enc Tryz.pinned.checked.prog Tryz.f10 Rows.pathFoundRow.apart Rows.pathFoundRow.fresh Rows.pathFoundRow.handsOn Rows.pathFoundRow.again):=by rw[OpenClaim.pre_eq_preRow]; exact lifted os started H enc F
theorem said:Rows.PathFoundSaid:=
 OpenClaim.holds_of_cond 10 Tryz.f10 rfl rfl rfl rfl rfl rfl rfl ⟨rfl,rfl,rfl,rfl,rfl⟩ rfl rfl rfl rfl rfl s1 Tryz.func10 s4 s2 s3 (fun os started H enc _ F=>s5 os started H enc F)
theorem plain (f:FuncId)(fn:Func)(hf:Tryz.pinned.checked.prog.funcNamed "greatseal/greatseallaw19.PathFound" =some f)(hfn:Tryz.pinned.checked.prog.funcs[f]? =some fn):
  false=Tryz.pinned.checked.prog.looks []∧∀(j:Nat) t,fn.params[j]? =some t→Tryz.pinned.checked.prog.wantsStandIn t=false:=by
 obtain rfl:f=10:=Option.some.inj ((show Tryz.prog.funcNamed "greatseal/greatseallaw19.PathFound" =some 10 by kernel_rfl).symm.trans hf)|>.symm;obtain rfl:fn=Tryz.f10:=(Option.some.inj (Tryz.func10.symm.trans hfn)).symm;refine⟨by kernel_rfl,fun j t ht=> ?_⟩;rw[Tryz.params10]at ht;have hm:t∈[31,31,28,9,3]:=by simpa using Array.mem_of_getElem? ht
 have hall:([31,31,28,9,3].all fun u=> !Tryz.prog.wantsStandIn u)=true:=by kernel_rfl
 exact(show Tryz.prog.wantsStandIn t=false by simpa using List.all_eq_true.1 hall t hm)
theorem card:Rows.PathFoundCardSaid:=
 Claim7.holds_tied_plain_at .later [] _ _ _ _ said (fun _ h=>by cases h) (by kernel_rfl) (fun _ h=>by cases h) pathFound_row_tie rfl ⟨rfl,rfl⟩ (by kernel_rfl) rfl plain (by kernel_rfl)
end Go.Proofs.YtbajlmaijjcbmaaGreatDoor.lawPathFound
end
