/- Several texts, one behind the other. Conditions: none. -/
import Derived.Test.YtnhdojckpcbjeaaGreatDoorZo
set_option linter.unusedSimpArgs false
set_option linter.unusedVariables false
set_option maxHeartbeats 4000000
set_option maxRecDepth 100000
section
namespace Go.Proofs.YtnhdojckpcbjeaaGreatDoor
open Go Go.Gw Go.Ax
def Abx (c:g_api_Client)(l:List g_api_Head):g_api_Client:=⟨c.Who,c.Roots,c.Logs,⟨l⟩,c.Cascade,c.View⟩
theorem AaN {c:g_api_Client}(h:m_client_Check c=some 0):A4 ⟨c⟩=some 0∧Ff c.Pool.L c.Logs=0∧Bp c.Cascade=some 0:=by
 obtain⟨e1,h1⟩:=W1 ⟨c⟩;obtain⟨e3,h3⟩:=OP c.Cascade;unfold m_client_Check at h;rw[Aas h1 (show AT ⟨c⟩=some (Ff c.Pool.L c.Logs)from by unfold AT; rw[N5]; rfl) (show A5 ⟨c⟩=some e3 from by unfold A5; rw[h3]; rfl),Aa]at h;have h:=Agf h;by_cases q1:e1=0
 ·rw[Agt (fun k=>k q1)]at h;by_cases q2:Ff c.Pool.L c.Logs=0
  ·rw[Agt (fun k=>k q2)]at h;exact⟨by rw[h1,q1],q2,by rw[h3,h]⟩
  ·rw[Ags q2]at h; exact absurd h q2
 ·rw[Ags q1]at h; exact absurd h q1
theorem AaO {c:g_api_Client}(h1:A4 ⟨c⟩=some 0)(h2:Ff c.Pool.L c.Logs=0)(h3:Bp c.Cascade=some 0):m_client_Check c=some 0:=by
 unfold m_client_Check;rw[Aas h1 (show AT ⟨c⟩=some (Ff c.Pool.L c.Logs)from by unfold AT; rw[N5]; rfl) (show A5 ⟨c⟩=some 0 from by unfold A5; rw[h3]; rfl),h2];rfl
theorem ZZ (c:g_api_Client)(l:List g_api_Head):A4 ⟨Abx c l⟩=A4 ⟨c⟩:=rfl
theorem Abb {l:List g_api_Head}{h:g_api_Head}{ks:List g_api_Key}(e:(Pe l h ks).2=0):Ff (Pe l h ks).1 ks=0∧hasH (Pe l h ks).1 h∧(∀x∈l,x∈(Pe l h ks).1)∧l.length≤(Pe l h ks).1.length∧(Pe l h ks).1.length≤1024:=by
 by_cases hc:Ff l ks=0
 ·obtain⟨h1,h2,h3⟩:=TS.1 hc;by_cases hr:Lv h ks=true
  ·by_cases hb:Afv l h=true
   ·have hA:Pe l h ks=(l,0):=by unfold Pe; rw[Ags hc,Ags hr,Ags hb]
    rw[hA];exact⟨hc,TH.1 hb,fun _ q=>q,Agk _,h1⟩
   ·by_cases hl:l.length<1024
    ·have hA:Pe l h ks=(Nk l h,0):=by unfold Pe; rw[Ags hc,Ags hr,Agt hb,Ags hl]
     rw[hA];refine⟨TS.2 ⟨by rw[PL]; omega,Wp h2 (fun q=>hb (TH.2 q)),fun x hx=> ?_⟩,Acv (Nj.2 (.inl rfl)),fun x q=>Nj.2 (.inr q),by rw[PL]; omega,by rw[PL]; omega⟩;rcases Nj.1 hx with q|q
     ·rw[q]; exact hr
     ·exact h3 x q
    ·have hA:Pe l h ks=([],2):=by unfold Pe; rw[Ags hc,Ags hr,Agt hb,Agt hl]
     rw[hA]at e; cases e
  ·have hA:Pe l h ks=([],40):=by unfold Pe; rw[Ags hc,Agt hr]
   rw[hA]at e; cases e
 ·have hA:Pe l h ks=([],Ff l ks):=by unfold Pe; rw[Agt hc]
  rw[hA]at e; exact absurd e hc
theorem AbB (c:g_api_Client)(h:g_api_Head): ∃t,Db c h=some t∧(t.2=0→m_client_Check c=some 0∧(Pe c.Pool.L h c.Logs).2=0∧t.1=Abx c (Pe c.Pool.L h c.Logs).1∧m_client_Check t.1=some 0)∧(t.2≠0→t.1.Roots=[]):=by
 obtain⟨e,he⟩:=Sc c;unfold Db;rw[he,Aa];by_cases h0:e=0
 ·subst h0;obtain⟨k1,k2,k3⟩:=AaN he;rw[Agt (by decide),AfB,Aa];by_cases h1:(Pe c.Pool.L h c.Logs).2=0
  ·rw[Agt (by simp[h1])];refine⟨_,rfl,fun _=>⟨rfl,h1,rfl,AaO (c:=Abx c (Pe c.Pool.L h c.Logs).1) ((ZZ c _).trans k1) (Abb h1).1 k3⟩,fun q=>absurd h1 q⟩
  ·rw[Ags (ne0 h1)];exact⟨_,rfl,fun q=>absurd q h1,fun _=>rfl⟩
 ·rw[Ags (ne0 h0)];exact⟨_,rfl,fun q=>absurd q h0,fun _=>rfl⟩
theorem U1 {α β:Type}: ∀(xs:List α),AfI (fun _=>(none:Option β)) xs= .inl ()
 | []=>rfl
 |_::r=>U1 r
theorem NJ {α:Type}{step:Int→Option (Int⊕(Unit⊕Bool))}(xs:List α)(hl:xs.length≤1000000)
  (hs: ∀(i:Nat) (x:α),xs[i]? =some x→step (i:Int)=some (.inl (w64 ((i:Int)+1)))) (he:step (xs.length:Int)=some (.inr (.inl ()))):iter step Dq 0=some (.inl ()):=by
 rw[R0 xs (fun _=>(none:Option Bool)) hl (fun i x hx=> ?_) he,U1];rw[hs i x hx,Adg (Agv.1 hx).1 hl]
theorem UQ {α:Type}{xs:List α}{i:Nat}{x:α}(h:xs[i]? =some x):decide ((i:Int)<(xs.length:Int))=true:=AgS (by have:=(Agv.1 h).1; omega)
theorem QC {α:Type}{xs:List α}: ¬decide ((xs.length:Int)<(xs.length:Int))=true:=fun h=>by have:=of_decide_eq_true h; omega
theorem nbne (n:Int): ¬(n !=n)=true:=by simp
theorem Aaw (x:ByteArray):eqS x x=true:=LQ.2 rfl
theorem eqH_me (h:g_api_Head):Dh h h=true:=by simp[Dh,Ec,KU]
theorem X2 (l:List g_api_Head)(hl:l.length≤1000000):HJ l l=some true:=by
 have e:iter (FA l l) Dq 0=some (.inl ()):=NJ l hl (fun i x hx=>by
  unfold FA;rw[Ags (UQ hx),DE hx,Aa,Aa,eqH_me,Agt (by decide)]) (by
  unfold FA;rw[Agt QC])
 unfold HJ;rw[Agt (nbne _),e,Aa]
theorem Ac2 (x:g_api_Cascade)(hl:x.Levels.length≤1000000):IT x x=some true:=by
 have e:iter (Gt x x) Dq 0=some (.inl ()):=NJ x.Levels hl (fun i y hx=>by
  unfold Gt Kj;rw[Ags (UQ hx),DE hx,Aa,Aa,Aaw,show(((y.Bits !=y.Bits)||(y.Hashes !=y.Hashes))||(y.Salt !=y.Salt))=false from by simp];rfl) (by
  unfold Gt;rw[Agt QC])
 unfold IT;rw[Agt (by simp),e,Aa]
theorem AaY (x:g_api_Cascade):Hb x x=some true:=by
 unfold Hb AH;rw[Agt (nbne _),beq_self_eq_true,gu_t1];obtain⟨r,h1,h2⟩:=R8 (body:=Av x.Levels x.Levels) x.Levels (fun _ _=>(none:Option Bool)) () (fun i y hy=>by
  unfold Av HB HU;rw[DE hy,Aa,Aa,Aaw,show(((y.Bits==y.Bits)&&(y.Hashes==y.Hashes))&&(y.Salt==y.Salt))=true from by simp];rfl) x.Levels.length 0 (by omega)
 rw[show BS (Av x.Levels x.Levels) x.Levels.length 0 ()=some r from h1,Aa];rcases h2 with ⟨j,y,b,_,_,q,_⟩|⟨rfl,_⟩
 ·cases q
 ·rfl
theorem AaW {c:g_api_Cert}(h:AcN c=true):FX c c=some true:=by
 have hp:c.Names.length≤12∧c.Permit.length≤12∧c.Proms.length≤8:=by
  simp only[AcN,Agg,Agu]at h;omega
 obtain⟨r,h1,h2⟩:=XL (a:=c) (b:=c) (by omega);rw[h1,h2.2 rfl]
theorem VA (c:g_api_Client)(h1: ∀x∈c.Roots,FX x x=some true)(h2:c.Roots.length≤1000000)(h3:c.Logs.length≤1000000)(h4:c.Pool.L.length≤1000000)(h5:c.Cascade.Levels.length≤1000000):Cu c c=some true:=by
 have e1:iter (Gr c c) Dq 0=some (.inl ()):=NJ c.Roots h2 (fun i x hx=>by
  unfold Gr;rw[Ags (UQ hx),DE hx,Aa,Aa,h1 x (AgM hx),Aa,Agt (by decide)]) (by
  unfold Gr;rw[Agt QC])
 have e2:iter (Gq c c) Dq 0=some (.inl ()):=NJ c.Logs h3 (fun i x hx=>by
  unfold Gq;rw[Ags (UQ hx),DE hx,Aa,Aa,show Mb x x=true from by simp[Mb],Agt (by decide)]) (by
  unfold Gq;rw[Agt QC])
 unfold Cu;rw[X2 _ h4,Ac2 _ h5,show(((!eqS c.Who c.Who)||((c.Roots.length:Int) !=(c.Roots.length:Int)))||((c.Logs.length:Int) !=(c.Logs.length:Int)))=false from by rw[Aaw]; simp];show Ab (some true) _=_;rw[Aa,show(((false|| !true))||(c.View !=c.View))=false from by simp];show Ab (some true) _=_;rw[Aa,Agt (by decide),e1,Aa];dsimp only;rw[e2,Aa]
def fSt (c:g_api_Client)(x:g_api_Cascade):ByteArray×(List g_api_Cert)×(List g_api_Key)×(List g_api_Head)×Int×(List g_api_Sieve)×Int×Int×(List g_api_Sieve):=(c.Who,c.Roots,c.Logs,c.Pool.L,c.Cascade.Day,c.Cascade.Levels,c.View,x.Day,x.Levels)
theorem dy0 {c:g_api_Client}{x:g_api_Cascade}{e:Int}(h:m_client_Check c=some e):(e=0→AF 0 (fSt c x)=some (.inl (fSt c x)))∧(e≠0→∃t,AF 0 (fSt c x)=some (.inr (e,t))):=by
 unfold AF;rw[Ags rfl];have q:Ea c=some (e,c):=by unfold Ea; rw[h]; rfl
 refine⟨fun h0=> ?_,fun h0=> ?_⟩
 ·show Ab (Ea c) _=_;rw[q,Aa,h0]; rfl
 ·show∃t,Ab (Ea c) _=_;rw[q,Aa,Ags (ne0 h0)];exact⟨_,rfl⟩
theorem dy1 {c:g_api_Client}{x:g_api_Cascade}{e:Int}(h:Bp x=some e):(e=0→AF 1 (fSt c x)=some (.inl (fSt c x)))∧(e≠0→∃t,AF 1 (fSt c x)=some (.inr (e,t))):=by
 unfold AF;rw[Agt (by decide)];have q:D9 x=some (e,x):=by unfold D9; rw[h]; rfl
 refine⟨fun h0=> ?_,fun h0=> ?_⟩
 ·show Ab (D9 x) _=_;rw[q,Aa,h0]; rfl
 ·show∃t,Ab (D9 x) _=_;rw[q,Aa,Ags (ne0 h0)];exact⟨_,rfl⟩
def zCli:g_api_Client:=⟨ByteArray.empty,[],[],(⟨[]⟩:g_api_Pool),(⟨0,[]⟩:g_api_Cascade),0⟩
theorem AfT {c:g_api_Client}{x:g_api_Cascade}{e f:Int}(h:m_client_Check c=some e)(k:Bp x=some f):
  DM c x=some (if e≠0 then(zCli,e)else if f≠0 then(zCli,f)else if x.Day<c.Cascade.Day then(zCli,190)else(⟨c.Who,c.Roots,c.Logs,c.Pool,x,c.View⟩,0)):=by
 unfold DM EO;show Ab (Ab (BS AF 2 0 (fSt c x)) _) _=_;by_cases h0:e=0
 ·have r0:=(dy0 (x:=x) h).1 h0;rw[Agt (fun q=>q h0)];by_cases k0:f=0
  ·have r1:=(dy1 (c:=c) k).1 k0;rw[Agt (fun q=>q k0),show BS AF 2 0 (fSt c x)=some (.inl (fSt c x))from(enL r0).trans (enL r1),Aa];show Ab (some (0,c,x)) _=_;rw[Aa];dsimp only;rw[Agt (by decide),Ch];by_cases hd:x.Day<c.Cascade.Day
   ·rw[Ags (AgS hd),Ags hd]; rfl
   ·rw[Agt (fun q=>hd (of_decide_eq_true q)),Agt hd]
  ·obtain⟨t,r1⟩:=(dy1 (c:=c) k).2 k0;rw[Ags k0,show BS AF 2 0 (fSt c x)=some (.inr (f,t))from(enL r0).trans (enR r1),Aa];show Ab (some (f,t)) _=_;rw[Aa,Ags (ne0 k0)]; rfl
 ·obtain⟨t,r0⟩:=(dy0 (x:=x) h).2 h0;rw[Ags h0,show BS AF 2 0 (fSt c x)=some (.inr (e,t))from enR r0,Aa];show Ab (some (e,t)) _=_;rw[Aa,Ags (ne0 h0)]; rfl
theorem X8 {x h:g_api_Head}(k:eqH x h):Dh (⟨x.Log,x.Size,x.Root,x.At,h.Sig⟩:g_api_Head) h=true:=by
 have:=XV x h;rw[AgS k,Agg,Agg,Agg]at this;obtain⟨⟨⟨q1,q2⟩,q3⟩,q4⟩:=this;unfold Dh;simp only[q1,q2,q3,q4,AgX,List.all_nil,id,Ag0,Bool.and_true];simp[Ec]
theorem AcW (a2:g_api_Head)(c:g_api_Client)(hl:c.Pool.L.length≤1000000)(hh:hasH c.Pool.L a2):iter (BJ a2 (c,0)) Dq (false,0)=some true:=by
 rw[Acm (step:=BJ a2 (c,0)) c.Pool.L (fun x=>Dh (⟨x.Log,x.Size,x.Root,x.At,a2.Sig⟩:g_api_Head) a2) hl (fun i h b hx=> ?_) (fun b=> ?_) false,Ag6]
 ·obtain⟨x,hx,he⟩:=hh;have:(c.Pool.L.any fun x=>Dh (⟨x.Log,x.Size,x.Root,x.At,a2.Sig⟩:g_api_Head) a2)=true:=List.any_eq_true.2 ⟨x,hx,X8 he⟩;rw[this]
 ·unfold BJ;dsimp only;rw[Ags (UQ hx),DE hx,Aa,Ch,Adg (Agv.1 hx).1 hl]
 ·unfold BJ;dsimp only;rw[Agt QC]
theorem Q1 (a0:g_api_Client)(a2:g_api_Head)(hs:Cu a0 a0=some true):(Ab (Db a0 a2) fun x9=>
  if(x9.2 !=0)=true then
   bnd (((x9.1.Roots.length:Int)==0)) fun x10=>
   some x10
  else
  Ab (
   Ab (iter (BJ a2 x9) Dq (false,0)) fun x12=>
   some x12
  ) fun x11=>
  Ab (Cu (⟨x9.1.Who,x9.1.Roots,x9.1.Logs,a0.Pool,x9.1.Cascade,x9.1.View⟩:g_api_Client) a0) fun x16=>
  Ab (gu ((x16&&x11)&&(decide ((x9.1.Pool.L.length:Int)≥(a0.Pool.L.length:Int)))) (m_client_Check x9.1)) fun x17=>
  bnd ((((x16&&x11)&&(decide ((x9.1.Pool.L.length:Int)≥(a0.Pool.L.length:Int))))&&(x17==0))) fun x18=>
  some x18)=some true:=by
 obtain⟨⟨t,u⟩,ht,t1,t2⟩:=AbB a0 a2;rw[ht,Aa];dsimp only at t1 t2⊢;by_cases h1:u=0
 ·subst h1;obtain⟨q1,q2,rfl,q4⟩:=t1 rfl;obtain⟨w1,w2,w3,w4,w5⟩:=Abb q2;rw[Agt (by decide),AcW a2 _ (show(Pe a0.Pool.L a2 a0.Logs).1.length≤1000000 by omega) w2,Aa,Aa];show Ab (Cu a0 a0) _=_;rw[hs,Aa,show decide (((Abx a0 (Pe a0.Pool.L a2 a0.Logs).1).Pool.L.length:Int)≥(a0.Pool.L.length:Int))=true from AgS (show((Pe a0.Pool.L a2 a0.Logs).1.length:Int)≥_ by omega),q4];rfl
 ·rw[Ags (ne0 h1),t2 h1];rfl
theorem AaE (a0:g_api_Client)(a1:g_api_Cascade)(a2:g_api_Head):Eo a0 a1 a2=some true:=by
 unfold Eo;rw[VW,Aa,Agt (by decide)];obtain⟨b,hb,hf⟩:=AcO a0;obtain⟨e,he⟩:=Sc a0;rw[hb,Aa,Aau,he];cases b with
 |false=>rfl
 |true=>
  obtain⟨f1,f2,f3,f4⟩:=hf rfl;rw[show gu (!(!true)) (some (AdU a1))=some (AdU a1)from rfl,Aa];cases AdU a1 with
  |false=>rfl
  |true=>
   rw[show gu (!((!true)||(!true))) (some e)=some e from rfl,Aa];by_cases h0:e=0
   ·subst h0;obtain⟨g1,g2⟩:=AfN f1;have fl:a0.Cascade.Levels.length≤18:=by
     unfold AdU at f4;rw[Agg,Agu]at f4;omega
    have hs:Cu a0 a0=some true:=VA a0 (fun x hx=>AaW (g2 x hx)) (by omega) (by omega) (by omega) (by omega);obtain⟨f,hx⟩:=OP a1;have hD:=AfT he hx;rw[Agt (fun q=>q rfl)]at hD;rw[Agt (by decide),hx];by_cases k0:f=0
    ·subst k0;rw[Agt (fun q=>q rfl)]at hD;by_cases hd:a1.Day<a0.Cascade.Day
     ·rw[Ags hd]at hD;rw[hD,Aa,Aa,show decide (a1.Day≥a0.Cascade.Day)=false from decide_eq_false (by omega)];exact Q1 a0 a2 hs
     ·rw[Agt hd]at hD;rw[hD,Aa,Aa,show decide (a1.Day≥a0.Cascade.Day)=true from AgS (by omega)];show Ab (Cu a0 a0) _=_;rw[hs,Aa];dsimp only;rw[AaY];exact Q1 a0 a2 hs
    ·have kb:(f==0)=false:=by simpa using k0
     have kc:(f !=0)=true:=ne0 k0;rw[Ags k0]at hD;rw[hD,Aa,Aa];dsimp only;rw[kb,Ag9,Ag9,Ag9,Agt (by decide),Agt (by decide)];exact Q1 a0 a2 hs
   ·rw[Ags (by simp[h0])]
end Go.Proofs.YtnhdojckpcbjeaaGreatDoor
end
