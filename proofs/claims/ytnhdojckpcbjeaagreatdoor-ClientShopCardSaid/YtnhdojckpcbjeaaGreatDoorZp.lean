/- Several texts, one behind the other. Conditions: none. -/
import Derived.Test.YtnhdojckpcbjeaaGreatDoorZn
import Derived.KernelRfl
import Derived.Test.YtnhdojckpcbjeaaGreatDoorZo
set_option linter.unusedSimpArgs false
set_option linter.unusedVariables false
set_option maxHeartbeats 4000000
set_option maxRecDepth 100000
section
namespace Go.Proofs.YtnhdojckpcbjeaaGreatDoor
open Go Go.Gw Go.Ax
theorem ML (a b:UInt64):(Im a b).toNat=(a.toNat+b.toNat)%FP:=by rw[AfQ,←Nat.add_mod]
def NM (c0 c1 c2:Nat)(s:Nat×Nat×Nat):Nat×Nat×Nat:=
 let a:=(s.1+c0)^17%FP
 let b:=(s.2.1+c1)^17%FP
 let c:=(s.2.2+c2)^17%FP
 ((a+(a+b+c))%FP,(b+(a+b+c))%FP,(c+(a+b+c))%FP)
def Ri (s:UInt64×UInt64×UInt64):Nat×Nat×Nat:=(s.1.toNat,s.2.1.toNat,s.2.2.toNat)
theorem XG (a c:UInt64):(SQ (Im a c)).toNat=(a.toNat+c.toNat)^17%FP:=by rw[AfF,ML,←Nat.pow_mod]
theorem Hs {r:Int}{c0 c1 c2:Nat}(h0:(Ts r 0).toNat=c0)(h1:(Ts r 1).toNat=c1)(h2:(Ts r 2).toNat=c2)(s:UInt64×UInt64×UInt64):Ri (MK r s)=NM c0 c1 c2 (Ri s):=by
 have e0:(SQ (Im s.1 (Ts r 0))).toNat=(s.1.toNat+c0)^17%FP:=by rw[XG,h0]
 have e1:(SQ (Im s.2.1 (Ts r 1))).toNat=(s.2.1.toNat+c1)^17%FP:=by rw[XG,h1]
 have e2:(SQ (Im s.2.2 (Ts r 2))).toNat=(s.2.2.toNat+c2)^17%FP:=by rw[XG,h2]
 unfold Ri NM MK pall;dsimp only;simp only[ML,e0,e1,e2];generalize (s.1.toNat+c0)^17%FP=a;generalize (s.2.1.toNat+c1)^17%FP=b;generalize (s.2.2.toNat+c2)^17%FP=c;simp only[FP,show(0:UInt64).toNat=0 from rfl,AlE];omega
def mixS (s:Nat×Nat×Nat):Nat×Nat×Nat:=NM 10655 12174 13831 (NM 6866 8007 9268 (NM 4103 4920 5839 (NM 2204 2751 3382 (NM 1007 1338 1735 (NM 350 519 736 (NM 71 132 223 (NM 8 15 34 s)))))))
theorem Ze (s:UInt64×UInt64×UInt64):Ri (XV s)=mixS (Ri s):=by
 unfold XV mixS;rw[Hs (r:=7) (c0:=10655) (c1:=12174) (c2:=13831) rfl rfl rfl,Hs (r:=6) (c0:=6866) (c1:=8007) (c2:=9268) rfl rfl rfl,Hs (r:=5) (c0:=4103) (c1:=4920) (c2:=5839) rfl rfl rfl,Hs (r:=4) (c0:=2204) (c1:=2751) (c2:=3382) rfl rfl rfl,
  Hs (r:=3) (c0:=1007) (c1:=1338) (c2:=1735) rfl rfl rfl,Hs (r:=2) (c0:=350) (c1:=519) (c2:=736) rfl rfl rfl,Hs (r:=1) (c0:=71) (c1:=132) (c2:=223) rfl rfl rfl,Hs (r:=0) (c0:=8) (c1:=15) (c2:=34) rfl rfl rfl]
def Ai7 (mix:Nat×Nat×Nat→Nat×Nat×Nat):List Nat→Nat×Nat×Nat→Nat×Nat×Nat
 | [],s=>s
 | [x],s=>mix ((s.1+x)%FP,s.2.1,s.2.2)
 |x::y::l,s=>Ai7 mix l (mix ((s.1+x)%FP,(s.2.1+y)%FP,s.2.2))
theorem toN_1 (s:UInt64×UInt64×UInt64)(x:UInt64):Ri (Im s.1 x,s.2.1,s.2.2)=(((Ri s).1+x.toNat)%FP,(Ri s).2.1,(Ri s).2.2):=by
 unfold Ri;dsimp only;rw[ML]
theorem toN_2 (s:UInt64×UInt64×UInt64)(x y:UInt64):Ri (Im s.1 x,Im s.2.1 y,s.2.2)=(((Ri s).1+x.toNat)%FP,((Ri s).2.1+y.toNat)%FP,(Ri s).2.2):=by
 unfold Ri;dsimp only;rw[ML,ML]
theorem AcD {mix:Nat×Nat×Nat→Nat×Nat×Nat}(hm: ∀s,Ri (XV s)=mix (Ri s))(n:Nat): ∀(l:List UInt64) (s:UInt64×UInt64×UInt64),l.length≤n→Ri (KM n l s)=Ai7 mix (l.map UInt64.toNat) (Ri s):=by
 induction n with
 |zero=>
  intro l s h;have:l=[]:=List.eq_nil_of_length_eq_zero (by omega);subst this;rw[KM,List.map_nil,Ai7]
 |succ n ih=>
  intro l s h;cases l with
  |nil=>rw[KM,List.map_nil,Ai7]
  |cons x l=>
   cases l with
   |nil=>
    rw[KM,Amd,List.map_nil,Ai7,hm,toN_1]
   |cons y l=>
    rw[KM,Amd,Amd,Ai7,ih l _ (by simp at h; omega),hm,toN_2]
def endS (l:List UInt64)(n:Nat):Nat×Nat×Nat:=match l with| []=>mixS (0,0,n)|l=>Ai7 mixS (l.map UInt64.toNat) (0,0,n)
theorem AfN (l:List UInt64){n:Nat}(hn:n<18446744073709551616):Ri (AcN l (0,0,toU (n:Int)))=endS l n:=by
 have e:Ri (0,0,toU (n:Int))=(0,0,n):=by
  unfold Ri;rw[OI hn];rfl
 cases l with
 |nil=>
  unfold AcN endS;dsimp only;rw[Ze,e]
 |cons x l=>
  unfold AcN endS;dsimp only;rw[AcD Ze _ _ _ (AlK _),e]
def Akz (b:List UInt8):UInt64×UInt64:=(UInt64.ofNat (endS (pof b.length b) b.length).1,UInt64.ofNat (endS (pof b.length b) b.length).2.1)
theorem AgA {b:List UInt8}(hb:b.length<18446744073709551616):Aig b=Akz b:=by
 have h:=AfN (pof b.length b) hb;unfold Aig Akz;rw[←h];unfold Ri;rw[UInt64.ofNat_toNat,UInt64.ofNat_toNat]
def tagS:ByteArray:=⟨#[115,105,101,118,101]⟩
def Afg (ps:List (List UInt8)):Option (UInt64×UInt64):=if VH ps≤600000 then some (Akz (XW [5,115,105,101,118,101] ps))else Cc tagS ps
theorem Ai3 (ps:List (List UInt8)):Cc tagS ps=Afg ps:=by
 unfold Afg;by_cases h:VH ps≤600000
 ·rw[AlH h,JL tagS ps (by show 5+VH ps≤_; omega)];show some (Aig (XW [5,115,105,101,118,101] ps))=_;rw[AgA (by rw[Wr]; show 6+VH ps<_; omega)]
 ·rw[AlG h]
def Oc (T:List (List UInt8)→Option (UInt64×UInt64)){σ:Type}(p0:σ→(Int×UInt8)→Option (Bool×σ))(k0:g_api_Sieve)(k1:List UInt8)(k2:List UInt8)(s1:Int×σ):Option ((Int×σ)⊕((σ)⊕(g_api_Sieve×(List UInt8)×(List UInt8)×σ))):=if(decide (s1.1<k0.Hashes))=true then Ab (T ([k1,([(toB s1.1)]:List UInt8),k2]:List (List UInt8))) fun x3=>Ab (Gx x3 (toU k0.Bits)) fun x4=>if(0:Int)≤(HZ (w64 (x4.toNat:Int)) 7)then Ab (p0 s1.2 ((BA (w64 (x4.toNat:Int)) 3),(AbW 1 ((HZ (w64 (x4.toNat:Int)) 7).toNat)))) fun x5=>if(!x5.1)=true then some (.inr (.inr (k0,k1,k2,x5.2)))else some (.inl ((w64 (s1.1+1)),x5.2))else none else some (.inr (.inl s1.2))
def Qz (T:List (List UInt8)→Option (UInt64×UInt64)){σ:Type}(p0:σ→(Int×UInt8)→Option (Bool×σ))(k0:g_api_Sieve)(k1:List UInt8)(k2:List UInt8)(s0:σ):Option (g_api_Sieve×(List UInt8)×(List UInt8)×σ):=Ab (iter ((Oc T) p0 k0 k1 k2) Fx (0,s0)) fun x1=>match x1 with| .inr r=>some r| .inl y1=>some (k0,k1,k2,y1)
def R2 (T:List (List UInt8)→Option (UInt64×UInt64))(a0:g_api_Sieve)(a1:Int):Option Bool:=Ab (Gk a0) fun x1=>Ab (gu (!(x1 !=0)) (D4 a1)) fun x2=>if((x1 !=0)||(!x2))=true then some false else Ab (KO a0 a1) fun x3=>Ab ((Qz T) (fun(s:(Unit)×Nat) (b0:Int×UInt8)=>if s.2=0 then Ab (Iy a0 b0 s) fun y=>some (y.2==0,y)else none) x3.1 x3.2.1 x3.2.2 ((),0)) fun x4=>if(x4.2.2.2).2=0 then some true else some false
def R3 (T:List (List UInt8)→Option (UInt64×UInt64))(a0:g_api_Sieve)(k0:Int):Option (Bool×Int):=Ab ((R2 T) a0 k0) fun x1=>some ((!x1),k0)
def EG (T:List (List UInt8)→Option (UInt64×UInt64))(a0:List g_api_Sieve)(i1:Int)(s1:Int):Option ((Int)⊕(Int×Int)):=Ab (idx a0 (i1:Int)) fun x3=>Ab ((R3 T) x3 s1) fun x4=>if x4.1=true then some (.inr ((i1:Int),x4.2))else some (.inl x4.2)
def Fc (T:List (List UInt8)→Option (UInt64×UInt64))(a0:List g_api_Sieve)(k0:Int):Option (Int×Int):=Ab (BV ((EG T) a0) a0.length 0 k0) fun x1=>match x1 with| .inr r=>some r| .inl y1=>some ((-1),y1)
def LX (T:List (List UInt8)→Option (UInt64×UInt64))(a0:g_api_Cascade)(a1:Int):Option Bool:=Ab (AN a0) fun x1=>if(x1 !=0)=true then some false else Ab ((Fc T) a0.Levels a1) fun x2=>Ab (if(decide (x2.1<0))=true then some (a0.Levels.length:Int)else some x2.1) fun x3=>some ((HZ x3 1)==1)
def M5 (T:List (List UInt8)→Option (UInt64×UInt64)){σ:Type}(p0:σ→(Int×UInt8)→Option (Bool×σ))(k0:g_api_Sieve)(k1:List UInt8)(k2:List UInt8)(s1:Int×σ):Option ((Int×σ)⊕((σ)⊕(g_api_Sieve×(List UInt8)×(List UInt8)×σ))):=if(decide (s1.1<k0.Hashes))=true then Ab (T ([k1,([(toB s1.1)]:List UInt8),k2]:List (List UInt8))) fun x3=>Ab (Gx x3 (toU k0.Bits)) fun x4=>if(0:Int)≤(HZ (w64 (x4.toNat:Int)) 7)then Ab (p0 s1.2 ((BA (w64 (x4.toNat:Int)) 3),(AbW 1 ((HZ (w64 (x4.toNat:Int)) 7).toNat)))) fun x5=>if(!x5.1)=true then some (.inr (.inr (k0,k1,k2,x5.2)))else some (.inl ((w64 (s1.1+1)),x5.2))else none else some (.inr (.inl s1.2))
def OZ (T:List (List UInt8)→Option (UInt64×UInt64)){σ:Type}(p0:σ→(Int×UInt8)→Option (Bool×σ))(k0:g_api_Sieve)(k1:List UInt8)(k2:List UInt8)(s0:σ):Option (g_api_Sieve×(List UInt8)×(List UInt8)×σ):=Ab (iter ((M5 T) p0 k0 k1 k2) Fx (0,s0)) fun x1=>match x1 with| .inr r=>some r| .inl y1=>some (k0,k1,k2,y1)
def Yi (T:List (List UInt8)→Option (UInt64×UInt64))(a0:g_api_Sieve)(a1:Int):Option (Int×(List UInt8)):=Ab (D4 a1) fun x1=>if(!x1)=true then some (1,a0.B)else Ab (I1 a0 a1) fun x2=>Ab ((OZ T) (fun(s:(List UInt8)) (b0:Int×UInt8)=>Ab (Ix b0 s) fun y=>some (true,y)) x2.1 x2.2.1 x2.2.2 a0.B) fun x3=>some (0,x3.2.2.2)
def Vk (T:List (List UInt8)→Option (UInt64×UInt64))(x1:g_api_Sieve×Int)(i1:Int)(x4:Int)(s1:Int×(List UInt8)):Option (Int×(List UInt8)):=Ab (if(s1.1==0)=true then Ab ((Yi T) (⟨x1.1.Bits,x1.1.Hashes,x1.1.Salt,s1.2⟩:g_api_Sieve) x4) fun x6=>some (x6.1,x6.2)else some (s1.1,s1.2)) fun x5=>some (x5.1,x5.2)
def AaR (T:List (List UInt8)→Option (UInt64×UInt64))(a0:List Int)(a1:Int)(a2:Int)(a3:Int):Option (g_api_Sieve×Int):=Ab (LK a1 a2 a3) fun x1=>Ab (Ab (DP ((Vk T) x1) a0 0 (x1.2,x1.1.B)) fun x3=>some (x3.1,x3.2)) fun x2=>if(x2.1 !=0)=true then some ((⟨0,0,0,[]⟩:g_api_Sieve),x2.1)else some ((⟨x1.1.Bits,x1.1.Hashes,x1.1.Salt,x2.2⟩:g_api_Sieve),x2.1)
def NO (T:List (List UInt8)→Option (UInt64×UInt64))(a0:Int)(k0:g_api_Sieve):Option (Bool×g_api_Sieve):=Ab ((R2 T) k0 a0) fun x1=>some ((!x1),k0)
def Hn (T:List (List UInt8)→Option (UInt64×UInt64))(a0:List Int)(i1:Int)(s1:Int×Int×Int×(List UInt8)):Option ((Int×Int×Int×(List UInt8))⊕(Int×(List Int)×g_api_Sieve)):=Ab (idx a0 (i1:Int)) fun x3=>Ab ((NO T) x3 (⟨s1.1,s1.2.1,s1.2.2.1,s1.2.2.2⟩:g_api_Sieve)) fun x4=>if x4.1=true then some (.inr ((i1:Int),a0,x4.2))else some (.inl (x4.2.Bits,x4.2.Hashes,x4.2.Salt,x4.2.B))
def Ib (T:List (List UInt8)→Option (UInt64×UInt64))(a0:List Int)(k0:g_api_Sieve):Option (Int×(List Int)×g_api_Sieve):=Ab (BV ((Hn T) a0) a0.length 0 (k0.Bits,k0.Hashes,k0.Salt,k0.B)) fun x1=>match x1 with| .inr r=>some r| .inl y1=>some ((-1),a0,(⟨y1.1,y1.2.1,y1.2.2.1,y1.2.2.2⟩:g_api_Sieve))
def Ho (T:List (List UInt8)→Option (UInt64×UInt64))(s1:Int×Int×Int×Int×Int×(List UInt8)×(List Int)):Option ((Int×Int×Int×Int×Int×(List UInt8)×(List Int))⊕(Int×Int×Int×Int×(List UInt8)×(List Int))):=if(decide (s1.2.1<(s1.2.2.2.2.2.2.length:Int)))=true then Ab (Ab (idx s1.2.2.2.2.2.2 s1.2.1) fun x6=>Ab ((NO T) x6 (⟨s1.2.2.1,s1.2.2.2.1,s1.2.2.2.2.1,s1.2.2.2.2.2.1⟩:g_api_Sieve)) fun x7=>if(!x7.1)=true then Ab (idx s1.2.2.2.2.2.2 s1.1) fun x8=>bnd (s1.2.2.2.2.2.2.set s1.1.toNat x6) fun x9=>some ((w64 (s1.1+1)),x7.2.Bits,x7.2.Hashes,x7.2.Salt,x7.2.B,x9)else some (s1.1,x7.2.Bits,x7.2.Hashes,x7.2.Salt,x7.2.B,s1.2.2.2.2.2.2)) fun x5=>some (.inl (x5.1,(w64 (s1.2.1+1)),x5.2.1,x5.2.2.1,x5.2.2.2.1,x5.2.2.2.2.1,x5.2.2.2.2.2))else some (.inr (s1.1,s1.2.2.1,s1.2.2.2.1,s1.2.2.2.2.1,s1.2.2.2.2.2.1,s1.2.2.2.2.2.2))
def Ic (T:List (List UInt8)→Option (UInt64×UInt64))(a0:List Int)(k0:g_api_Sieve):Option ((List Int)×g_api_Sieve):=Ab ((Ib T) a0 k0) fun x1=>if(x1.1==(-1))=true then some (x1.2.1,x1.2.2)else Ab (Ab (iter (Ho T) Fx (x1.1,(w64 (x1.1+1)),x1.2.2.Bits,x1.2.2.Hashes,x1.2.2.Salt,x1.2.2.B,x1.2.1)) fun x3=>some (x3.1,x3.2.1,x3.2.2.1,x3.2.2.2.1,x3.2.2.2.2.1,x3.2.2.2.2.2)) fun x2=>Ab (clrT (0:Int) x2.2.2.2.2.2 x2.1) fun x10=>if(0:Int)≤x2.1∧x2.1≤(x10.length:Int)then some ((x10.take x2.1.toNat),(⟨x2.2.1,x2.2.2.1,x2.2.2.2.1,x2.2.2.2.2.1⟩:g_api_Sieve))else none
def WM (T:List (List UInt8)→Option (UInt64×UInt64))(a0:g_api_Sieve)(a1:List Int):Option (List Int):=Ab (DM a1) fun x1=>Ab ((Ic T) x1 a0) fun x2=>some x2.1
def M6 (T:List (List UInt8)→Option (UInt64×UInt64)){σ:Type}(p0:σ→(Int×Bb)→Option (Bool×σ))(k1:Int)(s1:Int×(List Int)×(List Int)×σ):Option ((Int×(List Int)×(List Int)×σ)⊕(((List Int)×(List Int)×σ)⊕((List Int)×Int×(List Int)×σ))):=if((s1.1==0)||(decide ((s1.2.1.length:Int)>0)))=true then Ab (G0 k1 s1.1) fun x3=>Ab ((AaR T) s1.2.1 (w64 (8*(Aj6 1 (s1.2.1.length:Int)))) 3 x3) fun x4=>Ab (p0 s1.2.2.2 (s1.1,(⟨x4.1,x4.2⟩:Bb))) fun x5=>if((!x5.1)||(x4.2 !=0))=true then some (.inr (.inr (s1.2.1,k1,s1.2.2.1,x5.2)))else Ab ((WM T) x4.1 s1.2.2.1) fun x6=>some (.inl ((w64 (s1.1+1)),x6,s1.2.1,x5.2))else some (.inr (.inl (s1.2.1,s1.2.2.1,s1.2.2.2)))
def O0 (T:List (List UInt8)→Option (UInt64×UInt64)){σ:Type}(p0:σ→(Int×Bb)→Option (Bool×σ))(k0:List Int)(k1:Int)(k2:List Int)(s0:σ):Option ((List Int)×Int×(List Int)×σ):=Ab (iter ((M6 T) p0 k1) Fx (0,k0,k2,s0)) fun x1=>match x1 with| .inr r=>some r| .inl y1=>some (y1.1,k1,y1.2.1,y1.2.2)
def KT (T:List (List UInt8)→Option (UInt64×UInt64))(a0:List Int)(a1:List Int)(a2:Int):Option (g_api_Cascade×Int):=Ab (EF a0) fun x1=>Ab (gu (!(!x1)) (EF a1)) fun x2=>Ab (gu (!((!x1)||(!x2))) (F9 a2)) fun x3=>if(((!x1)||(!x2))||(!x3))=true then some ((⟨0,[]⟩:g_api_Cascade),1)else Ab (iter (Iu a0) Fx (a1,0)) fun x4=>match x4 with| .inr r=>some r| .inl y1=>Ab (I5 a0 a1 a2) fun x12=>Ab ((O0 T) (fun(s:(Int×Int×(List g_api_Sieve))×Nat) (b0:Int×Bb)=>if s.2=0 then Ab (GC b0 s) fun y=>some (y.2==0,y)else none) x12.1 x12.2.1 x12.2.2 ((0,a2,([]:List g_api_Sieve)),0)) fun x13=>if(x13.2.2.2).2=0 then some ((⟨x13.2.2.2.1.2.1,x13.2.2.2.1.2.2⟩:g_api_Cascade),0)else some ((⟨x13.2.2.2.1.2.1,x13.2.2.2.1.2.2⟩:g_api_Cascade),x13.2.2.2.1.1)
theorem YV:Cc tagS=Afg:=funext Ai3
theorem makeF (l l':List Int)(d:Int):B6 l l' d=KT Afg l l' d:=by
 rw[←YV];rfl
theorem hasF (c:g_api_Cascade)(n:Int):m_cascade_Has c n=LX Afg c n:=by
 rw[←YV];rfl
def isZS (o:Option Int):Bool:=match o with|some x=>x==0|none=>false
def isTS (o:Option Bool)(b:Bool):Bool:=match o with|some x=>x==b|none=>false
def okS (l l':List Int)(d:Int)(v:Bool):Bool:=match B6 l l' d with|some (a,x)=>x==0&&(a.Day==d&&(isZS (AN a)&&isTS (m_cascade_Has a 9) v))|none=>false
theorem Akn {o:Option Int}(h:isZS o=true):o=some 0:=by
 cases o with
 |none=>cases h
 |some x=>rw[Amp.1 (show(x==0)=true from h)]
theorem Ako {o:Option Bool}{b:Bool}(h:isTS o b=true):o=some b:=by
 cases o with
 |none=>cases h
 |some x=>rw[Amp.1 (show(x==b)=true from h)]
def okF (l l':List Int)(d:Int)(v:Bool):Bool:=match KT Afg l l' d with|some (a,x)=>x==0&&(a.Day==d&&(isZS (AN a)&&isTS (LX Afg a 9) v))|none=>false
theorem AhQ (l l':List Int)(d:Int)(v:Bool):okS l l' d v=okF l l' d v:=by
 unfold okS okF;rw[makeF];cases KT Afg l l' d with
 |none=>rfl
 |some p=>
  obtain⟨a,x⟩:=p;show(x==0&&(a.Day==d&&(isZS (AN a)&&isTS (m_cascade_Has a 9) v)))=(x==0&&(a.Day==d&&(isZS (AN a)&&isTS (LX Afg a 9) v)));rw[hasF]
theorem AhP {l l':List Int}{d:Int}{v:Bool}(h:okS l l' d v=true): ∃a,B6 l l' d=some (a,0)∧a.Day=d∧AN a=some 0∧m_cascade_Has a 9=some v:=by
 unfold okS at h;cases hm:B6 l l' d with
 |none=>rw[hm]at h; cases h
 |some p=>
  obtain⟨a,x⟩:=p;rw[hm]at h;have h:(x==0&&(a.Day==d&&(isZS (AN a)&&isTS (m_cascade_Has a 9) v)))=true:=h;rw[AlD,AlD,AlD]at h;obtain⟨h1,h2,h3,h4⟩:=h;exact⟨a,by rw[Amp.1 h1],Amp.1 h2,Akn h3,Ako h4⟩
def O7 (k:Nat):Bool:=(List.range 32).all fun d=>okF [9] [8] ((32*k+d+1:Nat):Int) true
def O6 (k:Nat):Bool:=(List.range 32).all fun d=>okF [8] [9] ((32*k+d+2:Nat):Int) false
theorem chkA0:O7 0=true:=by kernel_rfl
theorem chkA1:O7 1=true:=by kernel_rfl
theorem chkA2:O7 2=true:=by kernel_rfl
theorem chkA3:O7 3=true:=by kernel_rfl
theorem chkA4:O7 4=true:=by kernel_rfl
theorem chkA5:O7 5=true:=by kernel_rfl
theorem chkA6:O7 6=true:=by kernel_rfl
theorem chkA7:O7 7=true:=by kernel_rfl
theorem chkB0:O6 0=true:=by kernel_rfl
theorem chkB1:O6 1=true:=by kernel_rfl
theorem chkB2:O6 2=true:=by kernel_rfl
theorem chkB3:O6 3=true:=by kernel_rfl
theorem chkB4:O6 4=true:=by kernel_rfl
theorem chkB5:O6 5=true:=by kernel_rfl
theorem chkB6:O6 6=true:=by kernel_rfl
theorem chkB7:O6 7=true:=by kernel_rfl
theorem Aa3: ∀k:Nat,k<8→O7 k=true
 |0,_=>chkA0
 |1,_=>chkA1
 |2,_=>chkA2
 |3,_=>chkA3
 |4,_=>chkA4
 |5,_=>chkA5
 |6,_=>chkA6
 |7,_=>chkA7
 |n+8,h=>absurd h (by omega)
theorem Aa2: ∀k:Nat,k<8→O6 k=true
 |0,_=>chkB0
 |1,_=>chkB1
 |2,_=>chkB2
 |3,_=>chkB3
 |4,_=>chkB4
 |5,_=>chkB5
 |6,_=>chkB6
 |7,_=>chkB7
 |n+8,h=>absurd h (by omega)
theorem dayA {d:Nat}(h:d<256):okS [9] [8] ((d+1:Nat):Int) true=true:=by
 have:=AlW.1 (Aa3 (d/32) (by omega)) (d%32) (List.mem_range.2 (by omega));rw[Nat.div_add_mod]at this;exact(AhQ _ _ _ _).trans this
theorem dayB {d:Nat}(h:d<256):okS [8] [9] ((d+2:Nat):Int) false=true:=by
 have:=AlW.1 (Aa2 (d/32) (by omega)) (d%32) (List.mem_range.2 (by omega));rw[Nat.div_add_mod]at this;exact(AhQ _ _ _ _).trans this
def nQA:ByteArray:=⟨#[113,46,97]⟩
theorem shopG {seed ahead day:UInt8}{at_ e:Int}{n:Nat}{x:Co}{l:g_api_Log}{h:g_api_Head}{c6 c9 c10:g_api_Client}{a b:g_api_Cascade}(hn:n≤5)(q0:Int.tmod (w64 (ahead.toNat:Int)) 6=(n:Int))(q1:Ds seed nXA (n:Int)=some (x,true))(q2:Dd x=some l)
  (q3:FY l 0 ((n+1:Nat):Int) 4=some (h,0)) (q4:Ed x.c_ h=some (c6,0)) (q5:B6 [9] [8] ((day.toNat+1:Nat):Int)=some (a,0)) (q6:B6 [8] [9] ((day.toNat+2:Nat):Int)=some (b,0)) (q7:Cm c6 a=some (c9,0)) (q8:Cm c9 b=some (c10,0))
  (r0:Ak x.c_ x.o_ nXA 5=some 240) (r1:Ak c9 x.o_ nXA 5=some 270) (r2:Ak c10 x.o_ nXA 5=some 0) (r3:Ak c6 x.o_ nXA at_=some e) (r4:(e==0)=(decide (at_≥3)&&decide (at_<8))) (r5:Ak c6 x.o_ nQA 5=some 110):
  D7 seed ahead day at_=some true:=by
 have hd:=day.toNat_lt;unfold D7;rw[X8,Aa,AlG (show¬(!true)=true from by decide),q0,Bc];show Ab (Ds seed nXA (n:Int)) _=_;rw[q1,Aa];show Ab (Dd x) _=_;rw[q2,Aa,show w64 ((n:Int)+1)=((n+1:Nat):Int)from by rw[Bn (by omega) (by omega)]; rfl];rw[q3,Aa];show Ab (Ed x.c_ h) _=_;rw[q4,Aa,show w64 (day.toNat:Int)=(day.toNat:Int)from Bn (by omega) (by omega),show w64 (1+(day.toNat:Int))=((day.toNat+1:Nat):Int)from by rw[Bn (by omega) (by omega)]; omega,show w64 (2+(day.toNat:Int))=((day.toNat+2:Nat):Int)from by rw[Bn (by omega) (by omega)]; omega];rw[q5,Aa,q6,Aa];show Ab (Cm c6 a) _=_;rw[q7,Aa];show Ab (Cm c9 b) _=_;rw[q8,Aa,AlG (show¬(((((((!true)||((0:Int) !=0))||((0:Int) !=0))||((0:Int) !=0))||((0:Int) !=0))||((0:Int) !=0))||((0:Int) !=0))=true from by decide),Bc];show Ab (Ak x.c_ x.o_ nXA 5) _=_;rw[r0,Aa];show Ab (Ak c9 x.o_ nXA 5) _=_;rw[r1,Aa];show Ab (Ak c10 x.o_ nXA 5) _=_;rw[r2,Aa,Bc];show Ab (Ak c6 x.o_ nXA at_) _=_;rw[r3,Aa,r4,show((decide (at_≥3)&&decide (at_<8))==(decide (at_≥3)&&decide (at_<8)))=true from beq_self_eq_true _];show Ab (Ak c6 x.o_ nQA 5) _=_;rw[r5,Aa,Bc];rfl
def Aah (c:g_api_Client)(x:g_api_Cascade):g_api_Client:=⟨c.Who,c.Roots,c.Logs,c.Pool,x,c.View⟩
theorem dayS {c:g_api_Client}{x:g_api_Cascade}(h:m_client_Check c=some 0)(k:AN x=some 0)(hd:c.Cascade.Day≤x.Day):Cm c x=some (Aah c x,0)∧m_client_Check (Aah c x)=some 0:=by
 obtain⟨k1,k2,k3⟩:=W4 h;refine⟨?_,Sh (c:=Aah c x) k1 k2 k⟩;rw[Ak2 h k,AlG (fun q=>q rfl),AlG (fun q=>q rfl),AlG (by omega)];rfl
theorem nameXA:nameV nXA=0:=by kernel_rfl
theorem nameQA:nameV nQA=0:=by kernel_rfl
theorem neQA:eqS nQA nXA=false:=by kernel_rfl
theorem wrongS {c:g_api_Client}{s:UInt8}{n:Nat}(h0:m_client_Check c=some 0)(hr:c.Roots=[rtK s]):Ak c (ofK s n) nQA 5=some 110:=by
 refine YJ h0 ?_ (by decide);rw[AlH (show(decide ((0:Int)≤5)&&decide ((5:Int)≤1099511627776))=true from by decide),hr];show m_path_Check [rtK s] [leK s n] nQA 5=_;rw[RC,AlG (show¬((5:Int)<0∨(5:Int)>1099511627776)from by omega),nameQA,AlG (fun q=>q rfl),AlH neQA]
theorem lateS {c:g_api_Client}{s:UInt8}{n:Nat}{now:Int}(h0:m_client_Check c=some 0)(hr:c.Roots=[rtK s])(ht: ¬(3≤now∧now<8)): ∃e,Ak c (ofK s n) nXA now=some e∧e≠0:=by
 by_cases hb:0≤now∧now≤1099511627776
 ·refine⟨190,YJ h0 ?_ (by decide),by decide⟩;rw[AlH (by rw[AlD,AlL,AlL]; exact hb),hr];show m_path_Check [rtK s] [leK s n] nXA now=_;rw[RC,AlG (by omega),nameXA,AlG (fun q=>q rfl),AdZ,AlG (show¬(true=false)from by decide),AlH (by omega)]
 ·refine⟨1,YJ h0 ?_ (by decide),by decide⟩;rw[AlG (by rw[AlD,AlL,AlL]; exact hb)]
def hdK (s:UInt8)(n:Nat):g_api_Head:=I7 (laM s n) ((n+1:Nat):Int) (dbS s n false) 4
theorem ZB (s:UInt8)(n:Nat):(hdK s n).Root=dbS s n false:=rfl
theorem AaN (s:UInt8){n:Nat}(hn:n≤5):FY (laM s n) 0 ((n+1:Nat):Int) 4=some (hdK s n,0):=by
 have:=AgB (l:=laM s n) (n:=n+1) (now:=4) (by rw[PL]; show n+1+0≤_; omega) (U9 s hn) (by rw[PL]; exact AlK _) rfl false;rw[←W2]at this;exact this
theorem emptyS {c:g_api_Client}{s:UInt8}{n:Nat}(h0:m_client_Check c=some 0)(hr:c.Roots=[rtK s])(hk:c.Logs=ksK s n)(hp:c.Pool=⟨[]⟩)(hc:c.Cascade=⟨0,[]⟩):Ak c (ofK s n) nXA 5=some 240:=by
 rw[AeI h0 hr hk (b:=false) (by rw[hc]; exact has0) ⟨by decide,by decide⟩,hp,show(⟨[]⟩:g_api_Pool).L=[]from rfl,List.any_nil];rfl
theorem AbU (seed ahead day:UInt8)(at_:Int):D7 seed ahead day at_=some true:=by
 obtain⟨n,h1,hn⟩:=tmodS (show(0:Int)≤w64 (ahead.toNat:Int)from by
  have:=ahead.toNat_lt;rw[Bn (by omega) (by omega)]; omega)
 have hd:=day.toNat_lt;obtain⟨a,qa,da,ca,ha⟩:=AhP (dayA (d:=day.toNat) (by omega));obtain⟨b,qb,db,cb,hb⟩:=AhP (dayB (d:=day.toNat) (by omega));obtain⟨t1,t2⟩:=takeS (c:=cl0 seed n) (h:=hdK seed n) (Si seed n) rfl (rightS (l:=laM seed n) (KF (U9 seed hn)).1 rfl (by omega));obtain⟨d1,d2⟩:=dayS t2 ca (by rw[da]; show(0:Int)≤_; omega);obtain⟨d3,d4⟩:=dayS d2 cb (by rw[db]; show a.Day≤_; rw[da]; omega);have r1:=YI (c:=Aah (V2 (cl0 seed n) [hdK seed n]) a) (s:=seed) (n:=n) (h:=hdK seed n) hn d2 rfl rfl rfl (b:=true) ha rfl rfl (now:=5) ⟨by decide,by decide⟩;have r2:=YI (c:=Aah (Aah (V2 (cl0 seed n) [hdK seed n]) a) b) (s:=seed) (n:=n) (h:=hdK seed n) hn d4 rfl rfl rfl (b:=false) hb rfl rfl (now:=5) ⟨by decide,by decide⟩;rw[AlH (ZB seed n).symm]at r1 r2;obtain⟨e,r3,r4⟩: ∃e,Ak (V2 (cl0 seed n) [hdK seed n]) (ofK seed n) nXA at_=some e∧(e==0)=(decide (at_≥3)&&decide (at_<8)):=by
  by_cases ht:3≤at_∧at_<8
  ·have:=YI (c:=V2 (cl0 seed n) [hdK seed n]) (s:=seed) (n:=n) (h:=hdK seed n) hn t2 rfl rfl rfl (b:=false) has0 rfl rfl ht;rw[AlH (ZB seed n).symm]at this;refine⟨_,this,?_⟩;rw[AlY (show at_≥3 from ht.1),AlY ht.2];rfl
  ·obtain⟨e,e1,e2⟩:=lateS (n:=n) t2 rfl ht;refine⟨e,e1,?_⟩;rw[show(e==0)=false from by simpa using e2];symm;rw[Bool.and_eq_false_iff,decide_eq_false_iff_not,decide_eq_false_iff_not];omega
 exact shopG hn h1 (AcR seed hn) (logs0S seed n) (AaN seed hn) t1 qa qb d1 d3 (emptyS (Si seed n) rfl rfl rfl rfl) r1 r2 r3 r4 (wrongS t2 rfl)
end Go.Proofs.YtnhdojckpcbjeaaGreatDoor
end
