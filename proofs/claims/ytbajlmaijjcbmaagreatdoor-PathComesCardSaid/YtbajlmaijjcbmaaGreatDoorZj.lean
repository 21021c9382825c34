/- Several texts, one behind the other. Conditions: none. -/
import Derived.Test.YtbajlmaijjcbmaaGreatDoorZi
import Derived.Test.YtbajlmaijjcbmaaGreatDoorZb
import Derived.Test.YtbajlmaijjcbmaaGreatDoorZh
import Derived.Test.YtbajlmaijjcbmaaGreatDoorCards
import Derived.Test.YtbajlmaijjcbmaaGreatDoorTie
import Derived.WalkKit
import Derived.ProofKit
import Derived.OpenShut
import Derived.Deep.DeepHandedRow
import Derived.Lib.LaidTab
import Derived.SevenTiedAt
import Derived.Stop.LaidErr
set_option linter.unusedSimpArgs false
set_option linter.unusedVariables false
set_option maxHeartbeats 4000000
set_option maxRecDepth 100000
section
namespace Go.Proofs.YtbajlmaijjcbmaaGreatDoor
open Go Go.Gw Go.Ax
theorem iter_any {α:Type}{step:Bool×Int→Option ((Bool×Int)⊕Bool)}(l:List α)(p:α→Bool)(hs: ∀(i:Nat) (x:α) (b:Bool),l[i]? =some x→step (b,(i:Int))=some (.inl (b||p x,((i+1:Nat):Int))))
  (he: ∀b,step (b,(l.length:Int))=some (.inr b)): ∀(r:List α) (i n:Nat) (b:Bool),l.drop i=r→i≤l.length→r.length<n→iter step n (b,(i:Int))=some (b||r.any p)
 |r,i,0,b,_,_,h=>by omega
 | [],i,n+1,b,hd,hi,_=>by
  have:l.length≤i:=List.drop_eq_nil_iff.1 hd;have e:i=l.length:=by omega
  rw[e,Ce (he b)]; simp
 |x::r,i,n+1,b,hd,hi,hn=>by
  obtain⟨hc,hr,hlt⟩:=GN hd;rw[Cb (hs i x b hc),iter_any l p hs he r (i+1) n _ hr hlt (by simp only[List.length_cons]at hn; omega),List.any_cons,Bool.or_assoc]
theorem FUEL_mil:1000001≤CO:=Nat.le_of_ble_eq_true rfl
theorem iter_any0 {α:Type}{step:Bool×Int→Option ((Bool×Int)⊕Bool)}(l:List α)(p:α→Bool)(hl:l.length≤1000000)(hs: ∀(i:Nat) (x:α) (b:Bool),l[i]? =some x→step (b,(i:Int))=some (.inl (b||p x,((i+1:Nat):Int))))
  (he: ∀b,step (b,(l.length:Int))=some (.inr b)) (b:Bool):iter step CO (b,0)=some (b||l.any p):=
 iter_any l p hs he l 0 CO b rfl (Nat.zero_le _) (by have:=FUEL_mil; omega)
def fndI {α τ:Type}(f:Nat→α→Option τ):Nat→List α→Unit⊕τ
 |_,[]=> .inl ()
 |i,x::l=>match f i x with|some t=> .inr t|none=>fndI f (i+1) l
theorem iter_fnd {α τ:Type}{step:Int→Option (Int⊕(Unit⊕τ))}(l:List α)(f:Nat→α→Option τ)(hs: ∀(i:Nat) (x:α),l[i]? =some x→step (i:Int)=some (match f i x with|some t=> .inr (.inr t)|none=> .inl ((i+1:Nat):Int)))
  (he:step (l.length:Int)=some (.inr (.inl ()))): ∀(r:List α) (i n:Nat),l.drop i=r→i≤l.length→r.length<n→iter step n (i:Int)=some (fndI f i r)
 |r,i,0,_,_,h=>by omega
 | [],i,n+1,hd,hi,_=>by
  have:l.length≤i:=List.drop_eq_nil_iff.1 hd;have e:i=l.length:=by omega
  rw[e,Ce he]; rfl
 |x::r,i,n+1,hd,hi,hn=>by
  obtain⟨hc,hr,hlt⟩:=GN hd;have h:=hs i x hc;unfold fndI;cases hf:f i x with
  |some t=>rw[hf]at h; rw[Ce h]
  |none=>
   rw[hf]at h;rw[Cb h];exact iter_fnd l f hs he r (i+1) n hr hlt (by simp only[List.length_cons]at hn; omega)
theorem iter_fnd0 {α τ:Type}{step:Int→Option (Int⊕(Unit⊕τ))}(l:List α)(f:Nat→α→Option τ)(hl:l.length≤1000000)(hs: ∀(i:Nat) (x:α),l[i]? =some x→step (i:Int)=some (match f i x with|some t=> .inr (.inr t)|none=> .inl ((i+1:Nat):Int)))
  (he:step (l.length:Int)=some (.inr (.inl ()))):iter step CO 0=some (fndI f 0 l):=
 iter_fnd l f hs he l 0 CO rfl (Nat.zero_le _) (by have:=FUEL_mil; omega)
theorem fndI_all {α:Type}(p:α→Bool): ∀(l:List α) (i:Nat),fndI (fun _ x=>if p x=true then none else some false) i l=if l.all p=true then .inl ()else .inr false
 | [],i=>rfl
 |x::l,i=>by
  unfold fndI;rw[List.all_cons];cases h:p x with
  |true=>exact fndI_all p l (i+1)
  |false=>rfl
theorem gu_ttN {α:Type} [Inhabited α](o:Option α):gu (!false) o=o:=rfl
def abvB (a b:g_api_Cert):Bool:=(b.Ca&&eqS b.Subject a.Issuer)&&(Wh b.Key (HZ a) a.Sig==0)
theorem above_eq {a:g_api_Cert}(b:g_api_Cert)(h:checkV a=0):D2 a b=some (abvB a b):=by
 unfold D2 abvB;rw[Q0 (okc h),Ab];show Ae (gu ((((0:Int)==0)&&b.Ca)&&(eqS b.Subject a.Issuer)) (Cg b.Key (HZ a) a.Sig)) _=_;rw[Wg _ _ (by have:=P3 (okc h); omega)];cases b.Ca<;>cases eqS b.Subject a.Issuer<;>rfl
theorem above_ok {a b:g_api_Cert}(h:Il a b=0):abvB a b=true:=by
 obtain⟨_,_,h1,h2,h3⟩:=Jd h;unfold abvB;rw[h1,T9,h2,h3]; rfl
def letB (c:g_api_Cert)(l:List ByteArray)(below now:Int):Bool:=if(l.all fun n=>((c.Permit.length:Int)==0)||PK c n)=true then((c.Ca&&(decide (c.Depth≥below)))&&(decide (c.From≤now)))&&(decide (now<c.Until))else false
theorem let_b3 {c:g_api_Cert}{l:List ByteArray}{k:Nat}{n:ByteArray}(hk:l[k]? =some n)(hp:c.Permit.length≤1000000)(b:Bool):
  iter (Dp c l (k:Int)) CO (b,0)=some (b||PK c n):=by
 refine iter_any0 c.Permit (fun p=>Yb p n) hp (fun i x b hx=> ?_) (fun b=> ?_) b
 ·unfold Dp;dsimp only;have hi:=(List.getElem?_eq_some_iff.1 hx).1;rw[if_pos (decide_eq_true (show(i:Int)<(c.Permit.length:Int)from by omega)),HA (by omega),CI hx,CI hk];cases b with
  |true=>rfl
  |false=>
   rw[gu_ttN,Ab,gu_ttN,Ab,QG,gu_ttN,Ab]
 ·unfold Dp;dsimp only;rw[if_neg (fun h=>by have:=of_decide_eq_true h; omega)]
theorem let_eq {c:g_api_Cert}{l:List ByteArray}(below now:Int)(hp:c.Permit.length≤1000000)(hl:l.length≤1000000):Fh c l below now=some (letB c l below now):=by
 unfold Fh letB;have e:=iter_fnd0 (step:=Dq c l) l (fun _ n=>if(((c.Permit.length:Int)==0)||PK c n)=true then none else some false) hl (fun i n hn=>by
  have hi:=(List.getElem?_eq_some_iff.1 hn).1;unfold Dq;rw[if_pos (decide_eq_true (show(i:Int)<(l.length:Int)from by omega)),Cs,let_b3 hn hp,Ab,Ab,HA (by omega)];cases ((c.Permit.length:Int)==0)||PK c n<;>rfl) (by
  unfold Dq;rw[if_neg (fun h=>by have:=of_decide_eq_true h; omega)])
 rw[e,Ab,fndI_all];cases l.all fun n=>((c.Permit.length:Int)==0)||PK c n<;>rfl
theorem linksV_get: ∀{l:List g_api_Cert} {i:Nat} {a b:g_api_Cert},linksV l=0→l[i]? =some a→l[i+1]? =some b→Il a b=0
 | [],i,a,b,_,h,_=>by cases h
 | [c],i,a,b,_,_,h=>by cases h
 |c::d::r,0,a,b,h,ha,hb=>by
  cases ha; cases hb;unfold linksV at h;split at h
  ·contradiction
  ·rename_i q; simpa using q
 |c::d::r,i+1,a,b,h,ha,hb=>by
  unfold linksV at h;split at h
  ·contradiction
  ·exact linksV_get h (i:=i) (by simpa using ha) (by simpa using hb)
theorem caB_get: ∀{l:List g_api_Cert} {i k:Nat} {c:g_api_Cert},caB i l=true→l[k]? =some c→c.Ca=decide (0<i+k)
 | [],i,k,c,_,h=>by cases h
 |d::r,i,0,c,h,hc=>by
  cases hc;unfold caB at h;rw[Bool.and_eq_true]at h;simpa using h.1
 |d::r,i,k+1,c,h,hc=>by
  unfold caB at h;rw[Bool.and_eq_true]at h;rw[caB_get h.2 (k:=k) (by simpa using hc)];congr 1;rw[show i+1+k=i+(k+1)from by omega]
theorem over_ok {names:List ByteArray}{i:Nat}{c:g_api_Cert}(h:Oy names i c=0):(i:Int)≤c.Depth∧(names.all fun n=>((c.Permit.length:Int)==0)||PK c n)=true:=by
 unfold Oy at h;split at h
 ·cases h
 split at h
 ·cases h
 rename_i h1 h2;refine⟨by omega,List.all_eq_true.2 fun n hn=> ?_⟩;by_cases h0:c.Permit.length=0
 ·rw[h0]; rfl
 ·cases hm:PK c n with
  |true=>rw[Bool.or_true]
  |false=>exact absurd ⟨by omega,List.any_eq_true.2 ⟨n,hn,by rw[hm]; rfl⟩⟩ h2
theorem time_ok {c:g_api_Cert}{now:Int}(h:timeB c now=true):c.From≤now∧now<c.Until:=by
 unfold timeB at h;simp only[Bool.and_eq_true,decide_eq_true_eq]at h;exact⟨h.1,h.2⟩
theorem let_ok {c:g_api_Cert}{names:List ByteArray}{i:Nat}{now:Int}(h:Oy names i c=0)(hc:c.Ca=true)(ht:timeB c now=true):letB c names (i:Int) now=true:=by
 obtain⟨h1,h2⟩:=over_ok h;obtain⟨h3,h4⟩:=time_ok ht;unfold letB;rw[if_pos h2,hc,decide_eq_true h1,decide_eq_true h3,decide_eq_true h4]; rfl
theorem trust_ok {chain roots:List g_api_Cert}{now:Int}(h:IV chain now roots=0): ∃r∈roots,byV chain now r=0:=by
 unfold IV at h;cases q:roots.any fun r=>byV chain now r==0 with
 |true=>
  obtain⟨r,h1,h2⟩:=List.any_eq_true.1 q;exact⟨r,h1,by simpa using h2⟩
 |false=>
  rw[q,if_neg (by decide)]at h;cases roots with
  |nil=>cases h
  |cons r l=>
   have:byV chain now r=0:=h;rw[List.any_cons,this]at q;simp at q
theorem by_ok {leaf r:g_api_Cert}{more:List g_api_Cert}{now:Int}(h:byV (leaf::more) now r=0): ∃last,(leaf::more).getLast? =some last∧Il last r=0∧timeB r now=true∧∀k c,(more++[r])[k]? =some c→Oy leaf.Names k c=0:=by
 unfold byV at h;dsimp only at h;split at h
 ·contradiction
 split at h
 ·cases h
 rename_i h1 h2;refine⟨_,List.getLast?_eq_some_getLast (by simp),by simpa using h1,by simpa using h2,fun k c hc=> ?_⟩;have:=(Lc _ _ _).1 h k c hc;rwa [Nat.zero_add]at this
end Go.Proofs.YtbajlmaijjcbmaaGreatDoor
end
section
namespace Go.Proofs.YtbajlmaijjcbmaaGreatDoor
open Go Go.Gw Go.Ax
theorem names_any {leaf:g_api_Cert}{more:List g_api_Cert}{s:ByteArray}(hn:leaf.Names.length≤1000000):iter (BK (leaf::more) s) CO (false,0)=some (leaf.Names.any fun x=>eqS x s):=by
 rw[iter_any0 leaf.Names (fun x=>eqS x s) hn (fun i x b hx=> ?_) (fun b=> ?_) false,Bool.false_or]
 ·have hi:=(List.getElem?_eq_some_iff.1 hx).1;unfold BK;show Ae (some leaf) _=_;rw[Ab,if_pos (decide_eq_true (show(i:Int)<(leaf.Names.length:Int)from by omega))];dsimp only;rw[HA (by omega)];cases b with
  |true=>rfl
  |false=>
   show Ae (some leaf) _=_;rw[Ab,CI hx];rfl
 ·unfold BK;show Ae (some leaf) _=_;rw[Ab,if_neg (fun h=>by have:=of_decide_eq_true h; omega)]
theorem comes_above {roots:List g_api_Cert}{leaf:g_api_Cert}{more:List g_api_Cert}{name:ByteArray}{now:Int}(P:Q8 roots leaf more name now)(hF: ∀c∈leaf::more,FewP c)
  (ho: ∀k c,more[k]? =some c→Oy leaf.Names k c=0):iter (Bx (leaf::more) now) CO 1=some (.inl ()):=by
 have hm:=P.len;have key: ∀(r:List g_api_Cert) (i n:Nat),(leaf::more).drop i=r→1≤i→i≤(leaf::more).length→r.length<n→iter (Bx (leaf::more) now) n (i:Int)=some (.inl ()):=by
  intro r;induction r with
  |nil=>
   intro i n hd h1 hi hn;obtain⟨n,rfl⟩: ∃q,n=q+1:=⟨n-1,by omega⟩;have:(leaf::more).length≤i:=List.drop_eq_nil_iff.1 hd;refine Ce ?_;unfold Bx;rw[if_neg (fun h=>by have:=of_decide_eq_true h; omega)]
  |cons c r ih=>
   intro i n hd h1 hi hn;obtain⟨n,rfl⟩: ∃q,n=q+1:=⟨n-1,by omega⟩;obtain⟨hc,hr,hlt⟩:=GN hd;obtain⟨j,rfl⟩: ∃j,i=j+1:=⟨i-1,by omega⟩;obtain⟨a,ha⟩: ∃a,(leaf::more)[j]? =some a:=⟨_,List.getElem?_eq_getElem (by omega)⟩;have hl:(leaf::more).length≤4:=by simp only[List.length_cons]; omega
   have hlink:=linksV_get P.lnk ha hc;have hab:=above_ok hlink;have hca:checkV a=0:=(Jd hlink).1;have hcm:more[j]? =some c:=by simpa using hc
   have hCa:c.Ca=true:=by
    have:=caB_get P.kin hc;rw[this]; exact decide_eq_true (by omega)
   have hmem:c∈leaf::more:=List.mem_of_getElem? hc;have hlet:=let_ok (ho j c hcm) hCa (P.tim c hmem);have e1:w64 (((j+1:Nat):Int)-1)=(j:Int):=by
    rw[Ds (by omega) (by omega)]; omega
   refine(Cb ?_).trans (ih (j+2) n hr (by omega) (by omega) (by simp only[List.length_cons]at hn; omega));unfold Bx;rw[if_pos (decide_eq_true (show((j+1:Nat):Int)<((leaf::more).length:Int)from by omega)),e1,CI ha,Ab,CI hc,Ab,above_eq _ hca,Ab,hab];show Ae (some c) _=_;rw[Ab];show Ae (some leaf) _=_;rw[Ab,let_eq _ _ (by have:=(hF c hmem).npermit; omega) (by have:=(hF leaf List.mem_cons_self).nnames; omega),hlet];show some (Sum.inl (w64 (((j+1:Nat):Int)+1)))=_;rw[HA (by omega)]
 exact key more 1 CO rfl (Nat.le_refl _) (by simp) (by have:=FUEL_mil; omega)
theorem comes_trust {roots:List g_api_Cert}{leaf:g_api_Cert}{more:List g_api_Cert}{name:ByteArray}{now:Int}(P:Q8 roots leaf more name now)(hF: ∀c∈leaf::more,FewP c)(hR: ∀c∈roots,FewP c)
  (ht:IV (leaf::more) now roots=0):iter (BJ roots (leaf::more) now) CO (false,0)=some true:=by
 have hm:=P.len;obtain⟨r,hr,hb⟩:=trust_ok ht;obtain⟨last,hl,hlink,htime,hover⟩:=by_ok hb;obtain⟨x,hx,hi⟩:=QJ (l:=leaf::more) (by simp) (by simp only[List.length_cons]; omega);rw[hl]at hx; cases hx;have hcl:checkV last=0:=(Jd hlink).1;have en:w64 (((leaf::more).length:Int)-1)=((more.length:Nat):Int):=by
  have:((leaf::more).length:Int)-1=(more.length:Int):=by simp
  rw[this,Ds (by omega) (by omega)]
 have hlet:letB r leaf.Names ((more.length:Nat):Int) now=true:=by
  refine let_ok (hover more.length r ?_) (Jd hlink).2.2.1 htime;rw[List.getElem?_append_right (Nat.le_refl _),Nat.sub_self]; rfl
 rw[iter_any0 roots (fun c=>abvB last c&&letB c leaf.Names ((more.length:Nat):Int) now) (by have:=P.rts; omega) (fun i c b hx=> ?_) (fun b=> ?_) false,Bool.false_or,List.any_eq_true.2 ⟨r,hr,by rw[above_ok hlink,hlet]; rfl⟩]
 ·have hi2:=(List.getElem?_eq_some_iff.1 hx).1;have hrt:=P.rts;have hmem:c∈roots:=List.mem_of_getElem? hx;unfold BJ;dsimp only;rw[if_pos (decide_eq_true (show(i:Int)<(roots.length:Int)from by omega)),HA (by omega),hi,CI hx];cases b with
  |true=>rfl
  |false=>
   rw[gu_ttN,Ab,gu_ttN,Ab,above_eq c hcl,gu_ttN,Ab];cases abvB last c with
   |false=>rfl
   |true=>
    show Ae (some c) _=_;rw[Ab];show Ae (some leaf) _=_;rw[Ab,en,let_eq _ _ (by have:=(hR c hmem).npermit; omega) (by have:=(hF leaf List.mem_cons_self).nnames; omega)];rfl
 ·unfold BJ;dsimp only;rw[if_neg (fun h=>by have:=of_decide_eq_true h; omega)]
theorem comes_true (a0 a1:List g_api_Cert)(a2:ByteArray)(a3:Int):CW a0 a1 a2 a3=some true:=by
 unfold CW;rw[PL,Ab,if_neg (by decide)];obtain⟨b,hb,h⟩:=YN a0 a1 a2;rw[hb,Ab];cases b with
 |false=>rfl
 |true=>
  obtain⟨hr,hR,hc,hF,_⟩:=h rfl;rw[XU,show gu (!(!true)) (some (Py a0 a1 a2 a3))=some (Py a0 a1 a2 a3)from rfl,Ab];by_cases hz:Py a0 a1 a2 a3=0
  ·obtain⟨leaf,more,rfl,P,ht⟩:=RB hz;rw[hz,if_neg (by decide)];have hC:leaf.Ca=false:=by have:=caB_get P.kin (k:=0) (c:=leaf) rfl; simpa using this
   obtain⟨h1,h2⟩:=time_ok (P.tim leaf List.mem_cons_self);have d1:decide (((leaf::more).length:Int)<1)=false:=decide_eq_false (by simp only[List.length_cons]; omega);obtain⟨r,hrm,hrb⟩:=trust_ok ht;obtain⟨last,_,_,_,hover⟩:=by_ok hrb;have e1:=names_any (leaf:=leaf) (more:=more) (s:=a2) (by have:=(hF leaf List.mem_cons_self).nnames; omega);have e2:=comes_above P hF (fun k c hk=>hover k c (by rw[List.getElem?_append_left (List.getElem?_eq_some_iff.1 hk).1]; exact hk));have e3:=comes_trust P hF hR ht;have hh:(leaf.Names.any fun x=>eqS x a2)=true:=by
    have:=P.has;simpa only[T9]using this
   rw[d1];show Ae (some leaf) _=_;rw[Ab,hC];show Ae (some leaf) _=_;rw[Ab,decide_eq_false (show¬leaf.From>a3 from by omega)];show Ae (some leaf) _=_;rw[Ab,decide_eq_false (show¬leaf.Until≤a3 from by omega),if_neg (by decide),e1,Ab,Ab,e2,Ab,hh];dsimp only;rw[e3,Ab,Ab];rfl
  ·rw[if_pos (by simpa using hz)]
end Go.Proofs.YtbajlmaijjcbmaaGreatDoor
end
section
namespace Go.Proofs.YtbajlmaijjcbmaaGreatDoor.lawPathComes
open Go Go.Gw Go.ChangeShapes Go.WideShapes Go.ChangeAt Go.RowKit
theorem own:ownKnob Tryz.prog.godebug=none:=by kernel_rfl
theorem tab_ir:Ir Tryz.prog 180 (.agg [.agg [.lit (.int .i64 1),.held [103,114,101,97,116,115,101,97,108,47,100,101,114,46,107,105,110,100,115,36,49]],.agg [.lit (.int .i64 2),.held [103,114,101,97,116,115,101,97,108,47,100,101,114,46,108,101,97,115,116]],.agg [.lit (.int .i64 4),.held [103,114,101,97,116,115,101,97,108,47,100,101,114,46,107,105,110,100,115,36,50]],.agg [.lit (.int .i64 12),.held [103,114,101,97,116,115,101,97,108,47,100,101,114,46,107,105,110,100,115,36,51]],.agg [.lit (.int .i64 48),.held [103,114,101,97,116,115,101,97,108,47,100,101,114,46,107,105,110,100,115,36,52]]]) [[.int .i64 1,.func (.func 252) #[] #[]],[.int .i64 2,.func (.func 157) #[] #[]],[.int .i64 4,.func (.func 253) #[] #[]],[.int .i64 12,.func (.func 254) #[] #[]],[.int .i64 48,.func (.func 257) #[] #[]]].flatten:=
 Ir.arr (n:=5) (k:=2) Tryz.underlying180 (by kernel_rfl) (by kernel_rfl) rfl rfl fun i d c h1 h2=>by
  match i,h1,h2 with
  |0,h1,h2=>cases h1; cases h2; exact Ir.pair Tryz.underlying146 rfl rfl rfl (by kernel_rfl) rfl rfl (by kernel_rfl) (by kernel_rfl) (Ir.int Tryz.underlying3) (Ir.fn Tryz.underlying144 Tryz.func252 (by kernel_rfl) (by kernel_rfl))
  |1,h1,h2=>cases h1; cases h2; exact Ir.pair Tryz.underlying146 rfl rfl rfl (by kernel_rfl) rfl rfl (by kernel_rfl) (by kernel_rfl) (Ir.int Tryz.underlying3) (Ir.fn Tryz.underlying144 Tryz.func157 (by kernel_rfl) (by kernel_rfl))
  |2,h1,h2=>cases h1; cases h2; exact Ir.pair Tryz.underlying146 rfl rfl rfl (by kernel_rfl) rfl rfl (by kernel_rfl) (by kernel_rfl) (Ir.int Tryz.underlying3) (Ir.fn Tryz.underlying144 Tryz.func253 (by kernel_rfl) (by kernel_rfl))
  |3,h1,h2=>cases h1; cases h2; exact Ir.pair Tryz.underlying146 rfl rfl rfl (by kernel_rfl) rfl rfl (by kernel_rfl) (by kernel_rfl) (Ir.int Tryz.underlying3) (Ir.fn Tryz.underlying144 Tryz.func254 (by kernel_rfl) (by kernel_rfl))
  |4,h1,h2=>cases h1; cases h2; exact Ir.pair Tryz.underlying146 rfl rfl rfl (by kernel_rfl) rfl rfl (by kernel_rfl) (by kernel_rfl) (Ir.int Tryz.underlying3) (Ir.fn Tryz.underlying144 Tryz.func257 (by kernel_rfl) (by kernel_rfl))
  |n+5,h1,h2=>cases h1
theorem gB {W:World}(h:laidMetH Tryz.prog Rows.pathComesRow.laid W):GB (memOf W):=fun p hp=>by
 obtain rfl:=List.mem_singleton.1 hp;exact gb_of (name:= "greatseal/der.kinds") (by kernel_rfl) (by kernel_rfl) (laidMetH.funcs h (d:= .agg [.agg [.lit (.int .i64 1),.iface "func" (.lit (.string [103,114,101,97,116,115,101,97,108,47,100,101,114,46,107,105,110,100,115,36,49]))],.agg [.lit (.int .i64 2),.iface "func" (.lit (.string [103,114,101,97,116,115,101,97,108,47,100,101,114,46,108,101,97,115,116]))],.agg [.lit (.int .i64 4),.iface "func" (.lit (.string [103,114,101,97,116,115,101,97,108,47,100,101,114,46,107,105,110,100,115,36,50]))],.agg [.lit (.int .i64 12),.iface "func" (.lit (.string [103,114,101,97,116,115,101,97,108,47,100,101,114,46,107,105,110,100,115,36,51]))],.agg [.lit (.int .i64 48),.iface "func" (.lit (.string [103,114,101,97,116,115,101,97,108,47,100,101,114,46,107,105,110,100,115,36,52]))]]) (List.Mem.tail _ (List.Mem.head _))) tab_ir
theorem rd3:Rd Tryz.prog 3 (Int):=Rd.int Tryz.underlying3
theorem rd9:Rd Tryz.prog 9 (ByteArray):=Rd.str Tryz.underlying9
theorem rd22:Rd Tryz.prog 22 (UInt64):=Rd.u64 Tryz.underlying22
theorem rd23:Rd Tryz.prog 23 (List ByteArray):=Rd.slice Tryz.underlying23 rd9 (by kernel_rfl) (by decide)
theorem rd4:Rd Tryz.prog 4 (Bool):=Rd.bool Tryz.underlying4
theorem rd84:Rd Tryz.prog 84 (UInt64×UInt64):=Rd.arr2 Tryz.underlying84 rd22 (by kernel_rfl) (by kernel_rfl)
theorem rd26:Rd Tryz.prog 26 (g_api_Sig):=Rd.struct Tryz.underlying26 (Kp.more rfl rd22 (by kernel_rfl) (Kp.last rfl rd22 (by kernel_rfl))) (by kernel_rfl) (fun b=>⟨b.1,b.2⟩) (fun h=>h)
theorem rd86:Rd Tryz.prog 86 (g_api_Promise):=Rd.struct Tryz.underlying86 (Kp.more rfl rd3 (by kernel_rfl) (Kp.more rfl rd3 (by kernel_rfl) (Kp.more rfl rd84 (by kernel_rfl) (Kp.last rfl rd26 (by kernel_rfl))))) (by kernel_rfl) (fun b=>⟨b.1,b.2.1,b.2.2.1,b.2.2.2⟩) (fun h=>h)
theorem rd24:Rd Tryz.prog 24 (List g_api_Promise):=Rd.slice Tryz.underlying24 rd86 (by kernel_rfl) (by decide)
theorem rd28:Rd Tryz.prog 28 (g_api_Cert):=Rd.struct Tryz.underlying28 (Kp.more rfl rd3 (by kernel_rfl) (Kp.more rfl rd9 (by kernel_rfl) (Kp.more rfl rd9 (by kernel_rfl) (Kp.more rfl rd22 (by kernel_rfl) (Kp.more rfl rd23 (by kernel_rfl) (Kp.more rfl rd3 (by kernel_rfl) (Kp.more rfl rd3 (by kernel_rfl) (Kp.more rfl rd4 (by kernel_rfl) (Kp.more rfl rd3 (by kernel_rfl) (Kp.more rfl rd23 (by kernel_rfl) (Kp.more rfl rd24 (by kernel_rfl) (Kp.last rfl rd26 (by kernel_rfl))))))))))))) (by kernel_rfl) (fun b=>⟨b.1,b.2.1,b.2.2.1,b.2.2.2.1,b.2.2.2.2.1,b.2.2.2.2.2.1,b.2.2.2.2.2.2.1,b.2.2.2.2.2.2.2.1,b.2.2.2.2.2.2.2.2.1,b.2.2.2.2.2.2.2.2.2.1,b.2.2.2.2.2.2.2.2.2.2.1,b.2.2.2.2.2.2.2.2.2.2.2⟩) (fun h=>h)
theorem rd31:Rd Tryz.prog 31 (List g_api_Cert):=Rd.slice Tryz.underlying31 rd28 (by kernel_rfl) (by decide)
theorem contract (H:Type)(enc:TypeId×Value→H)(W:World)(base:Nat)(args:Array Value)(ds gs:List (DataW H))(before:List MemPlace)
  (hval: ∀(j:Nat) t v,Tryz.f5.params[j]? =some t→args[j]? =some v→Value.okWide Tryz.prog W .any base t v)
  (hW:DataW.Whole enc Tryz.prog Tryz.f5.params.toList Rows.pathComesSpec.vars false W args.toList ds gs before) (hL:laidMetH Tryz.prog Rows.pathComesRow.laid W):
  Calls Tryz.prog 5 args W fun e W'=> ∃v,e= .returned v∧Rows.pathComesSpec.post enc Tryz.prog Tryz.f5 false true false false W args v W':=by
 have hW':=hW;obtain⟨p,q,hA0,hV,rfl,hfz,hnd⟩:=hW;obtain⟨rfl,rfl⟩:=trodVars_none hV;rw[List.append_nil]at hW';have hA:DataW.TrodAll enc Tryz.prog W 0 (fun _=>true) true Tryz.f5.params.toList args.toList ds p:=hA0;have hA1:=hA;have hpl:Tryz.f5.params.toList=[31,31,9,3]:=by rw[Tryz.params5]
 rw[hpl]at hA1;obtain⟨v0,w0,d0,e0,p0,q0,ha0,he0,hp0,h0,r0⟩:=trodAll_cons hA1;obtain⟨v1,w1,d1,e1,p1,q1,ha1,he1,hp1,h1,r1⟩:=trodAll_cons r0;obtain⟨v2,w2,d2,e2,p2,q2,ha2,he2,hp2,h2,r2⟩:=trodAll_cons r1;obtain⟨v3,w3,d3,e3,p3,q3,ha3,he3,hp3,h3,r3⟩:=trodAll_cons r2;obtain⟨z1,z2,z3⟩:=trodAll_nil r3;obtain rfl:args= #[v0,v1,v2,v3]:=by
  apply Array.ext'; rw[ha0,ha1,ha2,ha3,z1]
 obtain rfl:ds=[d0,d1,d2,d3]:=by rw[he0,he1,he2,he3,z2]
 rw[Tryz.params5]at hval;obtain⟨x0,l0,c0,rfl⟩:=okWide_slice Tryz.underlying31 (hval 0 31 v0 rfl rfl);obtain⟨a0,s0⟩:=rd31.openS h0;obtain⟨x1,l1,c1,rfl⟩:=okWide_slice Tryz.underlying31 (hval 1 31 v1 rfl rfl);obtain⟨a1,s1⟩:=rd31.openS h1;obtain⟨a2,rfl⟩:=okWide_string Tryz.underlying9 (hval 2 9 v2 rfl rfl);obtain⟨a3,rfl,_,_,_⟩:=open_int Tryz.underlying3 (hval 3 3 v3 rfl rfl) h3;have hc:=JB (St.of W (gB hL)) s0 s1 (comes_true a0 a1 a2 a3);refine Calls.mono hc ?_;rintro e W' ⟨v,rfl,hk,M,hle,S,rfl⟩;refine⟨.bool true,rfl,Tf (tb:=4) (by kernel_rfl) (by kernel_rfl) rfl (by kernel_rfl) Tryz.underlying4 hW' hA rfl rfl rfl hle S hk⟩
noncomputable def K8 (os:Os):World:=
 {World.holding Tryz.prog os ⟨#[], #[],[]⟩with heap:=((((World.holding Tryz.prog os ⟨#[], #[],[]⟩).heap.modify 5 fun| .cells _ t fr=> .cells #[.int .u8 128,.int .u8 191,.int .u8 160,.int .u8 191,.int .u8 128,.int .u8 159,.int .u8 144,.int .u8 191,.int .u8 128,.int .u8 143,.int .u8 0,.int .u8 0,.int .u8 0,.int .u8 0,.int .u8 0,.int .u8 0,.int .u8 0,.int .u8 0,.int .u8 0,.int .u8 0,.int .u8 0,.int .u8 0,.int .u8 0,.int .u8 0,.int .u8 0,.int .u8 0,.int .u8 0,.int .u8 0,.int .u8 0,.int .u8 0,.int .u8 0,.int .u8 0] t fr|o=>o).modify 0 fun| .cells _ t fr=> .cells [[.int .i64 1,.func (.func 252) #[] #[]],[.int .i64 2,.func (.func 157) #[] #[]],[.int .i64 4,.func (.func 253) #[] #[]],[.int .i64 12,.func (.func 254) #[] #[]],[.int .i64 48,.func (.func 257) #[] #[]]].flatten.toArray t fr|o=>o).modify 4 fun| .cells _ t fr=> .cells ((List.replicate 128 240++List.replicate 66 241++List.replicate 30 2++[19]++List.replicate 12 3++[35,3,3,52,4,4,4,68]++List.replicate 11 241:List Int).map fun n=>Value.int .u8 n).toArray t fr|o=>o)}
theorem laid_met (os:Os):laidMetH Tryz.prog Rows.pathComesRow.laid ((K8 os).forCall (fun _ _=>0) ⟨#[], #[(.slice none 0 0:Value),(.slice none 0 0:Value),(.string ⟨#[]⟩:Value),(.int .i64 0:Value)],[]⟩).memory:=
 laidMetH_of_parts3 (fuel:=8) (laidMet_of_run' 8 (by kernel_rfl) (by kernel_rfl)) (by kernel_rfl) (by kernel_rfl)
theorem reads (os:Os){H:Type}(enc:TypeId×Value→H): ∃places,DataW.whole enc Tryz.prog ((K8 os).forCall (fun _ _=>0) ⟨#[], #[(.slice none 0 0:Value),(.slice none 0 0:Value),(.string ⟨#[]⟩:Value),(.int .i64 0:Value)],[]⟩).memory Tryz.f5.params.toList Rows.pathComesSpec.vars false #[(.slice none 0 0:Value),(.slice none 0 0:Value),(.string ⟨#[]⟩:Value),(.int .i64 0:Value)].toList 8=some ([.nil,.nil,.lit (.string []),.lit (.int .i64 0)],[],places):=
 ⟨[],by kernel_rfl⟩
theorem lifted (os:Os)(started:os.Started)(H:Type)(enc:TypeId×Value→H)(F:Stop.Interp):
  ReturnsInHanded {} Tryz.checked os 5 .any ((OpenSpec.ofChange Rows.pathComesSpec).preRow enc Tryz.prog Tryz.f5 Rows.pathComesRow.domain false Rows.pathComesRow.laid) (((OpenSpec.ofChange Rows.pathComesSpec).at F).post enc Tryz.prog Tryz.f5 false true false false):=by
 obtain⟨places,hx⟩:=reads os enc;refine returnsInHanded_of_row (C:=Tryz.checked) (s:=OpenSpec.ofChange Rows.pathComesSpec) own started (by kernel_rfl) Tryz.func5
  (witness_row_at (enc:=enc) (C:=Tryz.checked) false (K8 os) #[(.slice none 0 0:Value),(.slice none 0 0:Value),(.string ⟨#[]⟩:Value),(.int .i64 0:Value)] rfl (by kernel_rfl) (by kernel_rfl) (by kernel_rfl)
   (OpenSpec.preRow_of_cond 8 hx (by kernel_rfl) (fun k hk=>by cases hk) (by kernel_rfl) (laid_met os))) ?_
 intro W base args ds gs before hval hW _ _ _ hL _ _;exact contract H enc W base args ds gs before hval hW hL
theorem j0:laidOutB Tryz.prog=true:=by kernel_rfl
theorem j1:mapsRowed Tryz.prog=true:=by kernel_rfl
theorem j2:(Rows.pathComesRow.inPlace==Tryz.prog.inPlace 5)=true:=by kernel_rfl
theorem j3:(Rows.pathComesRow.unfollowed==Tryz.prog.unfollowed 5)=true:=by kernel_rfl
theorem j4:(Rows.pathComesRow.recurses==Tryz.prog.recurses 5)=true:=by kernel_rfl
theorem j5:(Rows.pathComesRow.named==Tryz.prog.varsNamed 5)=true:=by kernel_rfl
theorem joined:joinedFacts Tryz.prog 5 Tryz.f5 (OpenSpec.ofChange Rows.pathComesSpec).bare Rows.pathComesRow=true:=by
 unfold joinedFacts;rw[j0,j1,j2,j3,j4,j5];kernel_rfl
theorem s1:Tryz.pinned.checked.prog.funcNamed Rows.pathComesRow.func=some 5:=by kernel_rfl
theorem s2:Tryz.f5.isInstance Tryz.pinned.checked.prog Rows.pathComesRow.origin Rows.pathComesRow.targs:=of_decide_eq_true (by kernel_rfl)
theorem s3:Tryz.f5.isWrapper Tryz.pinned.checked.prog Rows.pathComesRow.wrapper Rows.pathComesRow.mainSum:=by unfold Func.isWrapper; first|(rw[if_pos (by decide+kernel)]; kernel_rfl)|(rw[if_neg (by decide+kernel)]; exact⟨rfl,rfl⟩)
theorem s4:joinedFacts Tryz.pinned.checked.prog 5 Tryz.f5 (OpenSpec.ofChange Rows.pathComesSpec).bare Rows.pathComesRow=true:=joined
theorem s5 (os:Os)(started:os.Started)(H:Type)(enc:TypeId×Value→H)(F:Stop.Interp):ReturnsInHanded Rows.pathComesRow.assume Tryz.pinned.checked os 5 .any (Rows.pathComesRow.pre enc Tryz.pinned.checked.prog Tryz.f5 (OpenSpec.ofChange Rows.pathComesSpec)) (((OpenSpec.ofChange Rows.pathComesSpec).at F).post enc Tryz.pinned.checked.prog Tryz.f5 Rows.pathComesRow.apart Rows.pathComesRow.fresh Rows.pathComesRow.handsOn Rows.pathComesRow.again):=by rw[OpenClaim.pre_eq_preRow]; exact lifted os started H enc F
theorem said:Rows.PathComesSaid:=
 OpenClaim.holds_of_cond 5 Tryz.f5 rfl rfl rfl rfl rfl rfl rfl ⟨rfl,rfl,rfl,rfl,rfl⟩ rfl rfl rfl rfl rfl s1 Tryz.func5 s4 s2 s3 (fun os started H enc _ F=>s5 os started H enc F)
theorem plain (f:FuncId)(fn:Func)(hf:Tryz.pinned.checked.prog.funcNamed "greatseal/greatseallaw19.PathComes" =some f)(hfn:Tryz.pinned.checked.prog.funcs[f]? =some fn):
  false=Tryz.pinned.checked.prog.looks []∧∀(j:Nat) t,fn.params[j]? =some t→Tryz.pinned.checked.prog.wantsStandIn t=false:=by
 obtain rfl:f=5:=Option.some.inj ((show Tryz.prog.funcNamed "greatseal/greatseallaw19.PathComes" =some 5 by kernel_rfl).symm.trans hf)|>.symm;obtain rfl:fn=Tryz.f5:=(Option.some.inj (Tryz.func5.symm.trans hfn)).symm;refine⟨by kernel_rfl,fun j t ht=> ?_⟩;rw[Tryz.params5]at ht;have hm:t∈[31,31,9,3]:=by simpa using Array.mem_of_getElem? ht
 have hall:([31,31,9,3].all fun u=> !Tryz.prog.wantsStandIn u)=true:=by kernel_rfl
 exact(show Tryz.prog.wantsStandIn t=false by simpa using List.all_eq_true.1 hall t hm)
theorem card:Rows.PathComesCardSaid:=
 Claim7.holds_tied_plain_at .later [] _ _ _ _ said (fun _ h=>by cases h) (by kernel_rfl) (fun _ h=>by cases h) pathComes_row_tie rfl ⟨rfl,rfl⟩ (by kernel_rfl) rfl plain (by kernel_rfl)
end Go.Proofs.YtbajlmaijjcbmaaGreatDoor.lawPathComes
end
