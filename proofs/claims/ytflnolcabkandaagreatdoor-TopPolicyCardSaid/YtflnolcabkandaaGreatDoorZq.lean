/- Several texts, one behind the other. Conditions: none. -/
import Derived.Test.YtflnolcabkandaaGreatDoorZp
set_option linter.unusedSimpArgs false
set_option linter.unusedVariables false
set_option maxHeartbeats 4000000
set_option maxRecDepth 100000
section
namespace Go.Proofs.YtflnolcabkandaaGreatDoor
open Go Go.Gw Go.Ax
theorem bare1 {m:List (ByteArray×Int)}{s:ByteArray}{d:Int}(hs:isB (toL s) 8 64=true)(hd:Bg s m=some (d,m))(h0:d≠ -1):Cn s m=some (true,m):=by
 have e:Wr s=0:=by
  rw[Ta];have:isB s.data.toList 8 64=true:=hs;rw[AcZ this]
 unfold Cn;rw[O2,e,Aa,Ac1 (by decide),hd,Aa];show some ((d != -1),m)=_;have:(d != -1)=true:=by simpa using h0
 rw[this]
theorem AcI {l:List g_api_Rule}{m:List (ByteArray×Int)}{ns:List ByteArray}(hm:BX l=some m)(hn:ns.length≤8)(h1:1≤ns.length)(h: ∀s∈ns,Cn s m=some (true,m)):FB l ns=some []:=by
 have hx:AY ns m=some (0,ns,m):=by
  unfold AY;rw[JU ns (fun _=>true) m (fun j=>((j:Int),ns,m)) (fun i x hx=> ?_),Aa]
  ·match ns,h1 with
   |a::l,_=>rfl
  ·unfold B1;rw[Cp hx,Aa,h x (Ac8 hx),Aa];rfl
 have hl: ∃r,iter AD ET (0,1,m,ns)=some r∧r=(0,m,ns):=by
  refine JQ (fun s=>ns.length-s.2.1.toNat) (fun s=> ∃j:Nat,s=((0:Int),(j:Int),m,ns)∧j≤ns.length) (fun r=>r=((0:Int),m,ns)) (fun s ⟨j,hs,hj⟩=> ?_) ET (0,1,m,ns) ⟨1,rfl,h1⟩ (by
   show ns.length-1<ET;have:=DO;omega)
  subst hs;by_cases hlt:j<ns.length
  ·left;have hx:ns[j]? =some ns[j]:=Ac4 hlt;refine⟨(0,((j+1:Nat):Int),m,ns),?_,⟨j+1,rfl,by omega⟩,by
    show ns.length-((j+1:Nat):Int).toNat<ns.length-(j:Int).toNat;omega⟩
   unfold AD;dsimp only;rw[AcZ (by simp; omega),Cp hx,Aa,h _ (Ac8 hx),Aa,Ac1 (by simp),Aa,CK (by omega) (by omega)];rfl
  ·right;refine⟨_,?_,rfl⟩;unfold AD;dsimp only;rw[Ac1 (by simp; omega)]
 obtain⟨r,hr,e⟩:=hl;subst e;unfold FB BF;rw[hm,Aa,Fh 16 (by simp; omega) (by simp; omega),Aa,Aa,Ady];unfold Bl;rw[hx,Aa];dsimp only;rw[Ac1 (show¬(((0:Int)== -1)=true) by decide)];show Ab (Ab (Ab (iter AD ET (0,1,m,ns)) _) _) _=_;rw[hr,Aa,Aa];dsimp only;unfold clrT;rw[AcZ ⟨Int.le_refl 0,by simp⟩,Aa];rw[AcZ ⟨Int.le_refl 0,by simp⟩,Aa];rfl
theorem eqStrs (a:List ByteArray):BE a a=some true:=by
 unfold BE;rw[Ac1 (by simp)];rcases GL (body:=BV a a) (n:=a.length) (fun _ _=>True) (fun _=>False) (fun i s hi _=>by
  left;refine⟨(),?_,trivial⟩;unfold BV;rw[Cp (Ac4 hi),Aa,Aa,ES,Ac1 (by decide)]) (s:=()) trivial with ⟨t,h1,_⟩|⟨r,_,h2⟩
 ·rw[h1]; rfl
 ·exact h2.elim
theorem Vt (x:g_api_Rule):Fy x x=some true:=by
 unfold Fy;have e:((eqS x.Name x.Name)&&(x.Allow==x.Allow))=true:=by rw[ES]; simp
 rw[e,Hq,eqStrs,Aa,B8];simp
theorem Aa4 (l:List g_api_Rule):FX l l=some true:=by
 unfold FX AF;rw[Ac1 (by simp)];rcases GL (body:=AA l l) (n:=l.length) (fun _ _=>True) (fun _=>False) (fun i s hi _=>by
  left;refine⟨(),?_,trivial⟩;unfold AA;rw[Cp (Ac4 hi),Aa,Aa,Vt,Aa,Ac1 (by decide)]) (s:=()) trivial with ⟨t,h1,_⟩|⟨r,_,h2⟩
 ·rw[h1]; rfl
 ·exact h2.elim
theorem Acm (w:AG): ∃b,Fu w=some b:=by
 unfold Fu;rcases MI (body:=Fa) (xs:=w.Names) (fun _ _=>True) (fun _=>True) (fun i x s hx _=>by
  unfold Fa;split
  ·exact .inr ⟨_,rfl,trivial⟩
  ·exact .inl ⟨_,rfl,trivial⟩) (s:=0) trivial with ⟨t,h1,_⟩|⟨r,h1,_⟩
 ·rw[h1]; exact⟨_,rfl⟩
 ·rw[h1]; exact⟨_,rfl⟩
def Xy:Prop:= ∀a0:List UInt8,a0.length≤3000→∃l t e,BQ a0=some (l,t,e)∧(e≠0→l=[])∧(e=0→Lh l∧∃raw t',Dq l=some (raw,0)∧BQ raw=some (l,t',0))
theorem V9 (H:Xy)(a0:List UInt8)(a1:AG):Dn a0 a1=some true:=by
 unfold Dn;rw[AaJ,Aa,Ac1 (by decide)];obtain⟨fb,hfb⟩:=Acm a1;rw[hfb];by_cases hlen:(a0.length:Int)>3000
 ·rw[Adm hlen];rfl
 ·rw[AdB hlen];show Ab (gu true (some fb)) _=_;rw[Hq,Aa];cases fb with
  |false=>rfl
  |true=>
   rw[Ac1 (by decide)];obtain⟨l,t,e,h1,h2,h3⟩:=H a0 (by omega);rw[h1,Aa];dsimp only;by_cases he:e=0
   ·subst he;obtain⟨G,raw,t',h4,h5⟩:=h3 rfl;rw[Ac1 (by decide)];obtain⟨c,hc,hcf⟩:=Ze (RZ G);by_cases h0:c=[]
    ·subst h0;have hf:=hcf rfl;obtain⟨ns,hcp,W,⟨path,T⟩,hn0,C⟩:=Sc G hc hf;obtain⟨m,hm,D⟩:=R9 hf;rw[hcp,Aa];dsimp only;rw[Ac1 (by decide),h4,Aa];dsimp only;rw[h5,Aa];dsimp only;show Ab (gu true (FX l l)) _=_;rw[Hq,Aa4,Aa,Ac1 (by decide),hc,Aa,Ac1 (by decide)];obtain⟨b,hb,hb2⟩:=AbE a1;have hD:Ei ⟨l,ns⟩ a1=(if(!b)=true then some ((⟨false,0,[]⟩:AL),1)else Ab (BC l a1 ⟨l,ns⟩) fun x4=>some (x4.1,0)):=by
      unfold Ei FZ;rw[Vd hcp,Aa,Ac1 (by decide),hb,Aa,Aa]
     have hM:EK l a1=(if(!b)=true then some ((⟨false,0,[]⟩:AL),1)else Ab (BB l a1 m) fun x4=>some (x4.1,0)):=by
      unfold EK;rw[OM G hc,Aa,Ac1 (by decide),hb,Aa,hm,Aa]
     cases hbv:b with
     |false=>
      rw[hbv]at hD hM;rw[hD,hM];rfl
     |true=>
      obtain⟨n8,n1,nb⟩:=hb2 hbv;rw[hbv]at hD hM;rw[Ac1 (by decide)]at hD hM;have hw: ∀s∈a1.Names,BW s ⟨l,ns⟩=some (Uv (En ns) (A5 s).reverse,⟨l,ns⟩)∧Zk l (Uv (En ns) (A5 s).reverse):=fun s hs=>⟨UY (t:=⟨l,ns⟩) W T hn0 (nb s hs),VR C _⟩;have hv: ∀s∈a1.Names,Bg s m=some (Uv (En ns) (A5 s).reverse,m)∧Zk l (Uv (En ns) (A5 s).reverse):=fun s hs=>⟨dec_eq (RZ G) D C (nb s hs),VR C _⟩;rw[verdT (dec:=fun s=>Uv (En ns) (A5 s).reverse) n8 hw,Aa]at hD;rw[verdM (dec:=fun s=>Uv (En ns) (A5 s).reverse) n8 hv,Aa]at hM;rw[hD,hM,Aa,Aa];dsimp only;rw[Ac1 (by simp)];have hq: ∀(v:AL),E6 (Di (v,0) (v,0)) v.By.length 0 ()=some (.inl ()):=fun v=>by
       rcases GL (body:=Di (v,0) (v,0)) (n:=v.By.length) (fun _ _=>True) (fun _=>False) (fun i s hi _=>by
        left;refine⟨(),?_,trivial⟩;unfold Di;rw[Cp (Ac4 hi),Aa,Aa,Ac1 (by simp)]) (s:=()) trivial with ⟨t,h1,_⟩|⟨r,_,h2⟩
       ·exact h1
       ·exact h2.elim
      rw[hq,Aa];dsimp only;cases ha:(vs l a1 (fun s=>Uv (En ns) (A5 s).reverse) a1.Names.length).1 with
      |false=>rfl
      |true=>
       rw[Ac1 (by decide)];have hb3: ∀s∈a1.Names,Cn s m=some (true,m):=fun s hs=>by
        obtain⟨i,hi,e⟩:=List.mem_iff_getElem.1 hs;exact bare1 (nb s hs) (hv s hs).1 (vs_ok (AcV _) ha i s hi (by rw[Ac4 hi,e]))
       rw[AcI hm n8 n1 hb3,Aa];rfl
    ·have hp:=List.length_pos_iff.2 h0;rw[Ux G hc h0,Aa];dsimp only;rw[AcZ (by decide),AcZ (by decide),hc,Aa,B8,Adm (by omega)]
   ·rw[AcZ (by simpa using he),h2 he];rfl
def prL:List g_api_Rule→List UInt8
 | []=> []
 |x::xs=>Ju x (prL xs)
theorem SS (l:List g_api_Rule):BG (prL l)=prL l:=by
 cases l with
 |nil=>rfl
 |cons x xs=>exact GF (My x.Allow).1 (My x.Allow).2
theorem Mg {b:List UInt8}(hb:b.length≤100000): ∀(xs done:List g_api_Rule) (fuel:Nat),xs.length<fuel→Lh (done++xs)→Suf b (prL xs)→
  iter Bf fuel (b,DD b (prL xs),Bp (BI (prL xs)),done)=some (.inl (b,DD b [],Bp [],done++xs))
 | [],done,fuel+1,_,_,_=>by
  show Ab (Bf _) _=_;unfold Bf;have e: ¬((!eqS (Bp (BI (prL []))) (⟨#[]⟩:ByteArray))=true):=by decide
  dsimp only;rw[Ac1 e,Aa,Adn];rfl
 |x::xs,done,fuel+1,hf,G,hs=>by
  have hgl:=G.len;rw[Ac5,AcY]at hgl;have gx:GoodR x:=G.all x (List.mem_append_right _ (Adb ..));have fr: ∀a∈done,a.Name≠x.Name:=fun a ha e=>by
   have:=G.nms;rw[Adj]at this;exact(List.nodup_append.1 this).2.2 a.Name (List.mem_map.2 ⟨a,ha,rfl⟩) x.Name (List.mem_map.2 ⟨x,Adb ..,rfl⟩) e
  have hr:=rule_B hb gx done fr (by omega) (prL xs) hs;rw[SS]at hr;have hs2:Suf b (prL xs):=by
   have h1: ∃w,Ju x (prL xs)=w++prL xs:=by
    have q1: ∀r,∃w,Gs x (125::10::r)=w++r:=fun r=>by
     unfold Gs;split
     ·exact⟨[109,111,115,116]++32::(Go.Lib.decDigits x.Most.toNat++32::([112,101,114]++32::(Go.Lib.decDigits x.Window.toNat++59::32::[125,10]))),by simp⟩
     ·exact⟨[125,10],rfl⟩
    have q2: ∀r,∃w,Mv x r=w++r:=fun r=>by
     unfold Mv;split
     ·exact⟨[108,105,102,101]++32::(Go.Lib.decDigits x.LifeMax.toNat++[59,32]),by simp⟩
     ·exact⟨[],rfl⟩
    have q3: ∀r,∃w,Ul x r=w++r:=fun r=>by
     unfold Ul;split
     ·exact⟨[107,101,121]++32::(Go.Lib.decDigits x.KeyMin.toNat++[59,32]),by simp⟩
     ·exact⟨[],rfl⟩
    obtain⟨w1,e1⟩:=q1 (prL xs);obtain⟨w2,e2⟩:=q2 (w1++prL xs);obtain⟨w3,e3⟩:=q3 (w2++(w1++prL xs));unfold Ju Gq;rw[e1,e2,e3];exact⟨kwL x.Allow++32::(toL x.Name++32::123::32::(CA x.Pats++59::32::(w3++(w2++w1)))),by simp⟩
   obtain⟨w,e⟩:=h1;have hs:Suf b (Ju x (prL xs)):=hs;rw[e]at hs;exact hs.app
  have ih:=Mg hb xs (done++[x]) fuel (by rw[AcY]at hf; omega) (by rw[AcR]; exact G) hs2;rw[AcR]at ih;have ht:BI (prL (x::xs))=kwL x.Allow:=(AaO (My x.Allow).1 (My x.Allow).2 _).1;have e:(!eqS (Bp (BI (prL (x::xs)))) (⟨#[]⟩:ByteArray))=true:=by rw[ht]; cases x.Allow<;>decide
  show Ab (Bf _) _=_;unfold Bf;dsimp only;have hr2:Bn (⟨b,DD b (prL (x::xs)),Bp (BI (prL (x::xs)))⟩:Ae) done=some (.ok (x,done,rdR b (prL xs))):=hr;rw[AcZ e,hr2,Aa];dsimp only;rw[Fh 80 (by simp; omega) (by simp; omega),Aa,Aa];exact ih
theorem Abv {l:List g_api_Rule}(G:Lh l)(hb:(prL l).length≤32768):BQ (prL l)=some (l,0,0):=by
 have hb1:(prL l).length≤100000:=by omega
 have hs:Suf (prL l) (prL l):=⟨[],rfl⟩;have h0:Af ⟨prL l,0,ByteArray.empty⟩=some (rdR (prL l) (prL l)):=by
  have:=RP hb1 hs 0 ByteArray.empty (by unfold DD; simp);rwa [SS]at this
 have h1:=Mg hb1 l [] ET (by have:=G.len; have:=DO; omega) G hs;unfold BQ Cb;rw[Ac1 (by simp; omega),h0,Aa];dsimp only;rw[h1,Aa];rfl
theorem E7 (a b:ByteArray):toL (a++b)=toL a++toL b:=by
 unfold toL;rw[ByteArray.data_append,Array.toList_append]
def kP (x:g_api_Rule):List UInt8:=if decide ((x.KeyMin.toNat:Int)>0)=true then [107,101,121,32]++(Go.Lib.decDigits x.KeyMin.toNat++[59,32])else []
def lP (x:g_api_Rule):List UInt8:=if x.Allow=true then [108,105,102,101,32]++(Go.Lib.decDigits x.LifeMax.toNat++[59,32])else []
def mP (x:g_api_Rule):List UInt8:=if decide (x.Most>0)=true then [109,111,115,116,32]++(Go.Lib.decDigits x.Most.toNat++([32,112,101,114,32]++(Go.Lib.decDigits x.Window.toNat++[59,32])))else []
def hP (x:g_api_Rule):List UInt8:=kwL x.Allow++(32::(toL x.Name++([32,123,32]++(CA x.Pats++[59,32]))))
def RD (x:g_api_Rule):List UInt8:=hP x++(kP x++(lP x++(mP x++[125,10])))
theorem VO (x:g_api_Rule)(r:List UInt8):Ju x r=RD x++r:=by
 have e1:Ul x=fun r=>kP x++r:=funext fun r=>by
  unfold Ul kP;by_cases c:x.KeyMin.toNat>0
  ·rw[AcZ c,AcZ (by simp; omega)]; simp
  ·rw[Ac1 c,Ac1 (by simp; omega)]; rfl
 have e2:Mv x=fun r=>lP x++r:=funext fun r=>by
  unfold Mv lP;split<;>simp
 have e3:Gs x=fun r=>mP x++r:=funext fun r=>by
  unfold Gs mP;by_cases c:x.Most>0
  ·rw[AcZ c,AcZ (by simpa using c)]; simp
  ·rw[Ac1 c,Ac1 (by simpa using c)]; rfl
 unfold Ju Gq RD hP;rw[e1,e2,e3];simp
theorem OU: ∀l:List g_api_Rule,prL l=l.flatMap RD
 | []=>rfl
 |x::xs=>by rw[Adq,←OU xs]; exact VO x (prL xs)
theorem Pj: ∀(ps:List ByteArray),(CA ps).length≤szs ps+2*ps.length
 | []=>AdI _
 | [p]=>by
  have hz:(toL p).length=p.size:=AQ p;rw[join_one];unfold szs;simp;omega
 |p::q::ps=>by
  have ih:=Pj (q::ps);have hz:(toL p).length=p.size:=AQ p;rw[Ph,Ac5,AcY,AcY];unfold szs at ih⊢;simp only[Adg,List.sum_cons,AcY]at ih⊢;omega
theorem Y6 {u:Nat}(h:u<10000000000000000000):(Go.Lib.decDigits u).length≤19:=R6 19 u (by decide) (by omega)
theorem QN {x:g_api_Rule}(G:GoodR x):x.KeyMin.toNat<10000000000000000000∧0≤x.LifeMax∧x.LifeMax≤1000∧0≤x.Most∧x.Most≤1000∧0≤x.Window∧x.Window≤1099511627776:=by
 cases ha:x.Allow with
 |false=>
  obtain⟨a,b,c,d⟩:=G.rf ha;rw[a,b,c,d];decide
 |true=>
  obtain⟨a,b,c,d⟩:=G.al ha;omega
theorem SJ {x:g_api_Rule}(G:GoodR x):(hP x).length≤30+x.Name.size+szs x.Pats∧(kP x).length≤30∧(lP x).length≤30∧(mP x).length≤60:=by
 obtain⟨n1,n2,n3,n4,n5,n6,n7⟩:=QN G;have hz:(toL x.Name).length=x.Name.size:=AQ x.Name;have hj:=Pj x.Pats;have hp:=G.pu;have d1:=Y6 n1;have d2:=Y6 (u:=x.LifeMax.toNat) (by omega);have d3:=Y6 (u:=x.Most.toNat) (by omega);have d4:=Y6 (u:=x.Window.toNat) (by omega);have hk:(kwL x.Allow).length≤6:=by cases x.Allow<;>decide
 unfold hP kP lP mP;refine⟨by simp; omega,?_,?_,?_⟩
 ·split<;>simp; omega
 ·split<;>simp; omega
 ·split<;>simp; omega
theorem RV {n:Int}(h:0≤n)(h2:n≤1099511627776):QI n=some (Bp (Go.Lib.decDigits n.toNat)):=by
 unfold QI;rw[AcZ ⟨by omega,by omega⟩];unfold Go.Lib.itoa;rw[Ac1 (by omega)];rfl
theorem UO {bs:List UInt8}{s:ByteArray}{t:List UInt8}(ht:toL s=t)(h:bs.length+t.length≤100000):wr bs s=some (bs++t):=by
 have hz:(toL s).length=s.size:=AQ s;rw[ht]at hz;unfold wr;rw[AcZ (by omega)];show some (bs++toL s)=_;rw[ht]
theorem Ui {l:List g_api_Rule}{i:Nat}{x:g_api_Rule}(hx:l[i]? =some x)(G:GoodR x){bs:List UInt8}(h:bs.length+200+x.Name.size+szs x.Pats≤90000):CP l (i:Int) bs=some (bs++RD x):=by
 obtain⟨n1,n2,n3,n4,n5,n6,n7⟩:=QN G;obtain⟨l1,l2,l3,l4⟩:=SJ G;have hj:=Pj x.Pats;have hpu:=G.pu;have ej:AbR x.Pats=some (Bp (CA x.Pats)):=by
  unfold AbR;rw[AcZ ⟨by omega,by omega⟩];rfl
 have ek:toL (I0 x.Allow)=kwL x.Allow++[32]:=by cases x.Allow<;>rfl
 have e1:wr bs (I0 x.Allow++x.Name++⟨#[32,123,32]⟩++Bp (CA x.Pats)++IM)=some (bs++hP x):=UO (by
  rw[E7,E7,E7,E7,ek,XV];unfold hP;have e2:toL (⟨#[32,123,32]⟩:ByteArray)=[32,123,32]:=rfl;have e3:toL IM=[59,32]:=rfl;rw[e2,e3];simp) (by omega)
 have e2:(if decide ((x.KeyMin.toNat:Int)>0)=true then wr (bs++hP x) (⟨#[107,101,121,32]⟩++XT x.KeyMin++IM)else some (bs++hP x))=some (bs++hP x++kP x):=by
  unfold kP at l2⊢;split
  ·rename_i c;rw[AcZ c]at l2;exact UO (by
    rw[E7,E7];show [107,101,121,32]++Go.Lib.decDigits x.KeyMin.toNat++[59,32]=_;simp) (by rw[Ac5]; omega)
  ·rw[Adn]
 have e3:(if x.Allow=true then Ab (QI x.LifeMax) fun t=>wr (bs++hP x++kP x) (⟨#[108,105,102,101,32]⟩++t++IM)else some (bs++hP x++kP x))=some (bs++hP x++kP x++lP x):=by
  unfold lP at l3⊢;split
  ·rename_i c;rw[AcZ c]at l3;rw[RV n2 (by omega),Aa];exact UO (by
    rw[E7,E7];show [108,105,102,101,32]++Go.Lib.decDigits x.LifeMax.toNat++[59,32]=_;simp) (by rw[Ac5,Ac5]; omega)
  ·rw[Adn]
 have e4:(if decide (x.Most>0)=true then Ab (QI x.Most) fun t=>Ab (QI x.Window) fun u=>wr (bs++hP x++kP x++lP x) (⟨#[109,111,115,116,32]⟩++t++⟨#[32,112,101,114,32]⟩++u++IM)else some (bs++hP x++kP x++lP x))=some (bs++hP x++kP x++lP x++mP x):=by
  unfold mP at l4⊢;split
  ·rename_i c;rw[AcZ c]at l4;rw[RV n4 (by omega),Aa,RV n6 n7,Aa];exact UO (by
    rw[E7,E7,E7,E7];show [109,111,115,116,32]++Go.Lib.decDigits x.Most.toNat++[32,112,101,114,32]++Go.Lib.decDigits x.Window.toNat++[59,32]=_;simp) (by rw[Ac5,Ac5,Ac5]; omega)
  ·rw[Adn]
 have e5:wr (bs++hP x++kP x++lP x++mP x) ⟨#[125,10]⟩=some (bs++hP x++kP x++lP x++mP x++[125,10]):=UO rfl (by simp; omega);unfold CP;rw[Cp hx,Aa,ej,Aa,e1,Aa,e2,Aa,e3,Aa,e4,Aa,e5];unfold RD;simp
theorem XY {l:List g_api_Rule}{i:Nat}{x:g_api_Rule}(hx:l[i]? =some x):szL (l.take (i+1))=szL (l.take i)+(x.Name.size+szs x.Pats):=by
 unfold szL;rw[List.take_add_one,hx];simp
theorem Zt: ∀(l:List g_api_Rule) (i:Nat),szL (l.take i)≤szL l
 | [],i=>by simp[szL]
 |x::l,0=>by simp[szL]
 |x::l,i+1=>by
  have:=Zt l i;unfold szL at this⊢;simp only[List.take_succ_cons,Adg,List.sum_cons];omega
theorem Yh {l:List g_api_Rule}(G:Lh l)(h:szL l≤3000):Dq l=some (prL l,0)∧(prL l).length≤32768:=by
 have hlen:=G.len;obtain⟨bs,h1,h2,h3⟩:=FJ (body:=CP l) (n:=l.length) (fun i bs=>bs=(l.take i).flatMap RD∧bs.length≤160*i+szL (l.take i)) (fun i bs hi ⟨hbs,hbl⟩=>by
  have hx:l[i]? =some l[i]:=Ac4 hi;have gx:=G.all l[i] (Ac8 hx);have hz:=XY hx;have hle:=Zt l (i+1);obtain⟨l1,l2,l3,l4⟩:=SJ gx;refine⟨_,Ui hx gx (by omega),?_,?_⟩
  ·rw[hbs,List.take_add_one,hx,List.flatMap_append];simp only[Option.toList_some,Adq,List.flatMap_nil,Adn]
  ·rw[hz,Ac5];unfold RD;simp only[Ac5,AcY,AdP];omega) (s:=[]) ⟨rfl,by simp⟩
 rw[List.take_length]at h2 h3;refine⟨?_,by rw[OU,←h2]; omega⟩;unfold Dq;rw[TM G,Aa,Ac1 (by decide),h1,Aa,h2,OU]
theorem Yj:Xy:=fun a0 ha=>by
 obtain⟨rs,t,e,h1,h2,h3⟩:=Abw (b:=a0) (by omega);refine⟨rs,t,e,h1,h2,fun h0=> ?_⟩;obtain⟨G,hz⟩:=h3 h0;obtain⟨p1,p2⟩:=Yh G (by omega);exact⟨G,prL rs,0,p1,Abv G p2⟩
theorem RI (a0:List UInt8)(a1:AG):Dn a0 a1=some true:=V9 Yj a0 a1
end Go.Proofs.YtflnolcabkandaaGreatDoor
end
