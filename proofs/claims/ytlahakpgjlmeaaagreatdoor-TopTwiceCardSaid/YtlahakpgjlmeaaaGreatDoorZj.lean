/- The walks of some functions, by the executor, written by program. Conditions: none. -/
import Derived.Test.YtlahakpgjlmeaaaGreatDoorZh
import Derived.Test.YtlahakpgjlmeaaaGreatDoorZi
set_option linter.unusedSimpArgs false
set_option linter.unusedVariables false
set_option maxHeartbeats 20000000
set_option maxRecDepth 100000
namespace Go.Proofs.YtlahakpgjlmeaaaGreatDoor
open Go Go.Gw Go.Ax Tryz Go.RowKit
attribute [local irreducible] Go.Ax.Go
def E6 (a0:Ao)(k0:UInt64)(k1:UInt64):Option (Except (Int×Int) (ByteArray×Ao×UInt64×UInt64)):=
 Ab ((
   Ab (Ic a0.token_ k0 k1) fun x2=>
   if(!x2.1)=true then
    Ab (Cz a0) fun y2=>match y2 with
    | .error z1=>some (.inr (.error z1))
    | .ok x3=>
    some (.inl (x3.b_,x3.at_,x3.token_,x2.2.1,x2.2.2))
   else
   some (.inl (a0.b_,a0.at_,a0.token_,x2.2.1,x2.2.2))
  :Option (((List UInt8)×Int×ByteArray×UInt64×UInt64)⊕(Except (Int×Int) (ByteArray×Ao×UInt64×UInt64))))) fun x1=>match x1 with
 | .inr r=>some r
 | .inl y1=>
 Ab (Bw (⟨y1.1,y1.2.1,y1.2.2.1⟩:Ao)) fun x4=>
 some (.ok (a0.token_,x4,y1.2.2.2.1,y1.2.2.2.2))
theorem Hn {a0 k0 k1 r}(hm:E6 a0 k0 k1=some r):Sb prog 155 [.pb 0 0,.fn (.func 254) [] [.pb 1 0,.pb 2 0]] [.box 0 [sl eB a0.b_,.d (.i a0.at_),.d (.s a0.token_)] 163,.box 1 [.d (.u k0)] 24,.box 2 [.d (.u k1)] 24] 3 (thV 160 r) (Pos (exo r) (fun r=> .d (.s r.1)) (fun r=> [.box 0 [.d (.sl _ eB r.2.1.b_),.d (.i r.2.1.at_),.d (.s r.2.1.token_)] 163,.box 1 [.d (.u r.2.2.1)] 24,.box 2 [.d (.u r.2.2.2)] 24]) 3) (exo r=none):=
 sb call155 func155 rfl ntmps155 rfl fun D0 As η0 m0 hd=>by
  unfold E6 at hm;refine oB hm fun x1 q1 hm=>gBo q1 (fun _=>MH) fun x2 q2 q1=>gj (fun(y1:(List UInt8)×Int×ByteArray×UInt64×UInt64)=>let (y_0,y_1,y_2,y_3,y_4):=y1; ⟨[(0,.pb 0 0),(5,.d (.s a0.token_))],[(0,.box 0 [sl eB y_0,.d (.i y_1),.d (.s y_2)] 163),(1,.box 1 [.d (.u y_3)] 24),(2,.box 2 [.d (.u y_4)] 24)],[],3⟩) (fun y1=>x1= .inl y1) (fun Jp bk1=> ?_) fun y1 hy=> ?_
  ·refine gi q1 ?_ ?_<;>intro hc1 q1
   ·obtain⟨y2,q3,q1⟩:=Ac q1;rcases y2 with z1|x3
    ·dsimp only at q1;obtain rfl:=Akr q1;dsimp only at hm;obtain rfl:=Akr hm;exact HX (Bz q3)
    dsimp only at q1;refine gco (Bz q3).spE ?_;obtain rfl:=Akr q1;exact gb bk1 hd _ rfl
   obtain rfl:=Akr q1;exact gb bk1 hd _ rfl
  subst hy;dsimp only at hm;refine gD hm B5 fun x4 q4 hm=> ?_;obtain rfl:=Akr hm;exact Qg hd
def CT (a0:Ao)(a1:UInt64):Option (Except (Int×Int) (UInt64×Ao)):=Ab (E6 a0 0 a1) fun y1=>match y1 with| .error z1=>some (.error z1)| .ok x1=>some (.ok (x1.2.2.1,x1.2.1))
theorem B2 {a0 a1 r}(hm:CT a0 a1=some r):Sb prog 164 [.pb 0 0,.d (.u a1)] [.box 0 [sl eB a0.b_,.d (.i a0.at_),.d (.s a0.token_)] 163] 1 (thV 160 r) (Pos (exo r) (fun r=> .d (.u r.1)) (fun r=> [.box 0 [.d (.sl _ eB r.2.b_),.d (.i r.2.at_),.d (.s r.2.token_)] 163]) 1) (exo r=none):=
 sb call164 func164 rfl ntmps164 rfl fun D0 As η0 m0 hd=>by
  unfold CT at hm;obtain⟨y1,q1,hm⟩:=Ac hm;rcases y1 with z1|x1
  ·dsimp only at hm;obtain rfl:=Akr hm;exact HX (Hn q1)
  dsimp only at hm;refine gco (Hn q1).spE ?_;obtain rfl:=Akr hm;exact Qg hd
def HD (a0:ByteArray)(k0:List g_api_Rule):Option Bool:=Ab (Np a0) fun x1=>if x1=true then Ab (CL k0 a0) fun x2=>some (!x2.1)else some false
theorem LN {a0 k0 r}(hm:HD a0 k0=some r):Sf prog 156 [.d (.s a0),.d (.pf [.sl _ Ah k0])] (.d (.t r)):=by
 refine sq ?_;intros;refine gA hm Qz fun _ q1 hm=>AhD 6 hm (fun hc1 hm=> ?_) fun hc1 hm=> ?_
 ·refine gD hm EL fun _ q2 hm=> ?_;exact Akr hm▸gE
 exact Akr hm▸gE
def Em (a0:Ao)(k0:List g_api_Rule):Option (Except (Int×Int) (ByteArray×Ao)):=
 Ab ((
   Ab (HD a0.token_ k0) fun x2=>
   if(!x2)=true then
    Ab (Cz a0) fun y2=>match y2 with
    | .error z1=>some (.inr (.error z1))
    | .ok x3=>
    some (.inl (x3.b_,x3.at_,x3.token_))
   else
   some (.inl (a0.b_,a0.at_,a0.token_))
  :Option (((List UInt8)×Int×ByteArray)⊕(Except (Int×Int) (ByteArray×Ao))))) fun x1=>match x1 with
 | .inr r=>some r
 | .inl y1=>
 Ab (Bw (⟨y1.1,y1.2.1,y1.2.2⟩:Ao)) fun x4=>
 some (.ok (a0.token_,x4))
theorem GC {a0 k0 r}(hm:Em a0 k0=some r):Sb prog 155 [.pb 0 0,.fn (.func 156) [] [.pb 1 0]] [.box 0 [sl eB a0.b_,.d (.i a0.at_),.d (.s a0.token_)] 163,.box 1 [.ow 2] 35,.row 2 7 _ Ah k0] 3 (thV 160 r) (Pos (exo r) (fun r=> .d (.s r.1)) (fun r=> [.box 0 [.d (.sl _ eB r.2.b_),.d (.i r.2.at_),.d (.s r.2.token_)] 163,.box 1 [.ow 2] 35,.row 2 7 _ Ah k0]) 3) (exo r=none):=
 sb call155 func155 rfl ntmps155 rfl fun D0 As η0 m0 hd=>by
  unfold Em at hm;obtain⟨x1,q1,hm⟩:=Ac hm;refine oB q1 fun x2 q2 q1=>gco (Sp.lend (os:=[.box 0 [.ow 1] 35,.row 1 7 _ Ah k0]) (n1:=2) (LN q2) (.cons (.same (by kernel_rfl)) (.cons (.pf (.head _) (.ow (.tail _ (.head _)) .nil)) .nil)) (by kernel_rfl))<|gj (fun(y1:(List UInt8)×Int×ByteArray)=>let (y_0,y_1,y_2):=y1; ⟨[(0,.pb 0 0),(5,.d (.s a0.token_))],[(0,.box 0 [sl eB y_0,.d (.i y_1),.d (.s y_2)] 163),(1,.box 1 [.ow 2] 35),(2,.row 2 7 _ Ah k0)],[],3⟩) (fun y1=>x1= .inl y1) (fun Jp bk1=> ?_) fun y1 hy=> ?_
  ·refine gi q1 ?_ ?_<;>intro hc1 q1
   ·obtain⟨y2,q3,q1⟩:=Ac q1;rcases y2 with z1|x3
    ·dsimp only at q1;obtain rfl:=Akr q1;dsimp only at hm;obtain rfl:=Akr hm;exact HX (Bz q3)
    dsimp only at q1;refine gco (Bz q3).spE ?_;obtain rfl:=Akr q1;exact gb bk1 hd _ rfl
   obtain rfl:=Akr q1;exact gb bk1 hd _ rfl
  subst hy;dsimp only at hm;refine gD hm B5 fun x4 q4 hm=> ?_;obtain rfl:=Akr hm;exact Qg hd
def HC (a0:ByteArray)(k0:g_api_Rule):Option Bool:=Ab (gu (decide ((k0.Pats.length:Int)<8)) (CQ a0)) fun x1=>Ab (gu ((decide ((k0.Pats.length:Int)<8))&&(x1==0)) (Da k0.Pats a0)) fun x2=>bnd ((((decide ((k0.Pats.length:Int)<8))&&(x1==0))&&(!x2))) fun x3=>some x3
theorem LM {a0 k0 r}(hm:HC a0 k0=some r):Sf prog 161 [.d (.s a0),.d (.pf [.s k0.Name,.t k0.Allow,.sl _ eS k0.Pats,.u k0.KeyMin,.i k0.LifeMax,.i k0.Most,.i k0.Window])] (.d (.t r)):=by
 refine sq ?_;intros;refine oB hm fun _ q1 hm=>gcH q1 JW<|oB hm fun _ q2 hm=>gcH q2 Ez<|bE hm ?_;intro _ hm;exact Akr hm▸gE
def El (a0:Ao)(k0:g_api_Rule):Option (Except (Int×Int) (ByteArray×Ao)):=
 Ab ((
   Ab (HC a0.token_ k0) fun x2=>
   if(!x2)=true then
    Ab (Cz a0) fun y2=>match y2 with
    | .error z1=>some (.inr (.error z1))
    | .ok x3=>
    some (.inl (x3.b_,x3.at_,x3.token_))
   else
   some (.inl (a0.b_,a0.at_,a0.token_))
  :Option (((List UInt8)×Int×ByteArray)⊕(Except (Int×Int) (ByteArray×Ao))))) fun x1=>match x1 with
 | .inr r=>some r
 | .inl y1=>
 Ab (Bw (⟨y1.1,y1.2.1,y1.2.2⟩:Ao)) fun x4=>
 some (.ok (a0.token_,x4))
theorem GA {a0 k0 r}(hm:El a0 k0=some r):Sb prog 155 [.pb 0 0,.fn (.func 161) [] [.pb 1 0]] [.box 0 [sl eB a0.b_,.d (.i a0.at_),.d (.s a0.token_)] 163,.box 1 [.d (.s k0.Name),.d (.t k0.Allow),.ow 2,.d (.u k0.KeyMin),.d (.i k0.LifeMax),.d (.i k0.Most),.d (.i k0.Window)] 85,.row 2 1 _ eS k0.Pats] 3 (thV 160 r) (Pos (exo r) (fun r=> .d (.s r.1)) (fun r=> [.box 0 [.d (.sl _ eB r.2.b_),.d (.i r.2.at_),.d (.s r.2.token_)] 163,.box 1 [.d (.s k0.Name),.d (.t k0.Allow),.ow 2,.d (.u k0.KeyMin),.d (.i k0.LifeMax),.d (.i k0.Most),.d (.i k0.Window)] 85,.row 2 1 _ eS k0.Pats]) 3) (exo r=none):=
 sb call155 func155 rfl ntmps155 rfl fun D0 As η0 m0 hd=>by
  unfold El at hm;obtain⟨x1,q1,hm⟩:=Ac hm;refine oB q1 fun x2 q2 q1=>gco (Sp.lend (os:=[.box 0 [.d (.s k0.Name),.d (.t k0.Allow),.ow 1,.d (.u k0.KeyMin),.d (.i k0.LifeMax),.d (.i k0.Most),.d (.i k0.Window)] 85,.row 1 1 _ eS k0.Pats]) (n1:=2) (LM q2) (.cons (.same (by kernel_rfl)) (.cons (.pf (.head _) (.d (.d (.ow (.tail _ (.head _)) (.d (.d (.d (.d .nil)))))))) .nil)) (by kernel_rfl))<|gj (fun(y1:(List UInt8)×Int×ByteArray)=>let (y_0,y_1,y_2):=y1; ⟨[(0,.pb 0 0),(5,.d (.s a0.token_))],[(0,.box 0 [sl eB y_0,.d (.i y_1),.d (.s y_2)] 163),(1,.box 1 [.d (.s k0.Name),.d (.t k0.Allow),.ow 2,.d (.u k0.KeyMin),.d (.i k0.LifeMax),.d (.i k0.Most),.d (.i k0.Window)] 85),(2,.row 2 1 _ eS k0.Pats)],[],3⟩) (fun y1=>x1= .inl y1) (fun Jp bk1=> ?_) fun y1 hy=> ?_
  ·refine gi q1 ?_ ?_<;>intro hc1 q1
   ·obtain⟨y2,q3,q1⟩:=Ac q1;rcases y2 with z1|x3
    ·dsimp only at q1;obtain rfl:=Akr q1;dsimp only at hm;obtain rfl:=Akr hm;exact HX (Bz q3)
    dsimp only at q1;refine gco (Bz q3).spE ?_;obtain rfl:=Akr q1;exact gb bk1 hd _ rfl
   obtain rfl:=Akr q1;exact gb bk1 hd _ rfl
  subst hy;dsimp only at hm;refine gD hm B5 fun x4 q4 hm=> ?_;obtain rfl:=Akr hm;exact Qg hd
def IU (s1:(List UInt8)×Int×ByteArray×ByteArray×Bool×(List ByteArray)×UInt64×Int×Int×Int):Option (((List UInt8)×Int×ByteArray×ByteArray×Bool×(List ByteArray)×UInt64×Int×Int×Int)⊕(((List UInt8)×Int×ByteArray×ByteArray×Bool×(List ByteArray)×UInt64×Int×Int×Int)⊕(Except (Int×Int) (g_api_Rule×(List g_api_Rule)×Ao)))):=Ab (El (⟨s1.1,s1.2.1,s1.2.2.1⟩:Ao) (⟨s1.2.2.2.1,s1.2.2.2.2.1,s1.2.2.2.2.2.1,s1.2.2.2.2.2.2.1,s1.2.2.2.2.2.2.2.1,s1.2.2.2.2.2.2.2.2.1,s1.2.2.2.2.2.2.2.2.2⟩:g_api_Rule)) fun y8=>match y8 with| .error z4=>some (.inr (.inr (.error z4)))| .ok x9=>Ab (app 16 s1.2.2.2.2.2.1 ([x9.1]:List ByteArray)) fun x10=>if(!eqS x9.2.token_ (⟨#[44]⟩:ByteArray))=true then some (.inr (.inl (x9.2.b_,x9.2.at_,x9.2.token_,s1.2.2.2.1,s1.2.2.2.2.1,x10,s1.2.2.2.2.2.2.1,s1.2.2.2.2.2.2.2.1,s1.2.2.2.2.2.2.2.2.1,s1.2.2.2.2.2.2.2.2.2)))else Ab (Bw x9.2) fun x11=>some (.inl (x11.b_,x11.at_,x11.token_,s1.2.2.2.1,s1.2.2.2.2.1,x10,s1.2.2.2.2.2.2.1,s1.2.2.2.2.2.2.2.1,s1.2.2.2.2.2.2.2.2.1,s1.2.2.2.2.2.2.2.2.2))
def HE (a0:Ao)(a1:List g_api_Rule):Option (Except (Int×Int) (g_api_Rule×(List g_api_Rule)×Ao)):=
 Ab ((
   if((!(eqS a0.token_ (⟨#[97,108,108,111,119]⟩:ByteArray)))&&(!eqS a0.token_ (⟨#[114,101,102,117,115,101]⟩:ByteArray)))=true then
    Ab (Cz a0) fun y2=>match y2 with
    | .error z1=>some (.inr (.error z1))
    | .ok x2=>
    some (.inl (x2.b_,x2.at_,x2.token_))
   else
   some (.inl (a0.b_,a0.at_,a0.token_))
  :Option (((List UInt8)×Int×ByteArray)⊕(Except (Int×Int) (g_api_Rule×(List g_api_Rule)×Ao))))) fun x1=>match x1 with
 | .inr r=>some r
 | .inl y1=>
 Ab ((
   if((a1.length:Int)==32)=true then
    some (.inr (.error (y1.2.1,2)))
   else
   some (.inl ())
  :Option ((Unit)⊕(Except (Int×Int) (g_api_Rule×(List g_api_Rule)×Ao))))) fun x3=>match x3 with
 | .inr r=>some r
 | .inl y3=>
 Ab (Bw (⟨y1.1,y1.2.1,y1.2.2⟩:Ao)) fun x4=>
 Ab (Em x4 a1) fun y4=>match y4 with
 | .error z2=>some (.error z2)
 | .ok x5=>
 Ab (BJ x5.2 (⟨#[123]⟩:ByteArray)) fun y5=>match y5 with
 | .error z3=>some (.error z3)
 | .ok x6=>
 Ab (iter IU EV (x6.b_,x6.at_,x6.token_,x5.1,(eqS a0.token_ (⟨#[97,108,108,111,119]⟩:ByteArray)),([]:List ByteArray),0,0,0,0)) fun x7=>match x7 with
 | .inr r=>some r
 | .inl y6=>
 Ab (BJ (⟨y6.1,y6.2.1,y6.2.2.1⟩:Ao) (⟨#[59]⟩:ByteArray)) fun y9=>match y9 with
 | .error z5=>some (.error z5)
 | .ok x12=>
 Ab ((
   if y6.2.2.2.2.1=true then
    Ab ((
      if(eqS x12.token_ (⟨#[107,101,121]⟩:ByteArray))=true then
       Ab (Bw x12) fun x15=>
       Ab (CT x15 2305843009213691579) fun y12=>match y12 with
       | .error z6=>some (.inr (.error z6))
       | .ok x16=>
       Ab (BJ x16.2 (⟨#[59]⟩:ByteArray)) fun y13=>match y13 with
       | .error z7=>some (.inr (.error z7))
       | .ok x17=>
       some (.inl (x17.b_,x17.at_,x17.token_,x16.1))
      else
      some (.inl (x12.b_,x12.at_,x12.token_,y6.2.2.2.2.2.2.1))
     :Option (((List UInt8)×Int×ByteArray×UInt64)⊕(Except (Int×Int) (g_api_Rule×(List g_api_Rule)×Ao))))) fun x14=>match x14 with
    | .inr r=>some (.inr r)
    | .inl y11=>
    Ab (BJ (⟨y11.1,y11.2.1,y11.2.2.1⟩:Ao) (⟨#[108,105,102,101]⟩:ByteArray)) fun y14=>match y14 with
    | .error z8=>some (.inr (.error z8))
    | .ok x18=>
    Ab (CT x18 1000) fun y15=>match y15 with
    | .error z9=>some (.inr (.error z9))
    | .ok x19=>
    Ab (BJ x19.2 (⟨#[59]⟩:ByteArray)) fun y16=>match y16 with
    | .error z10=>some (.inr (.error z10))
    | .ok x20=>
    if(eqS x20.token_ (⟨#[109,111,115,116]⟩:ByteArray))=true then
      Ab (Bw x20) fun x21=>
      Ab (CT x21 1000) fun y17=>match y17 with
      | .error z11=>some (.inr (.error z11))
      | .ok x22=>
      Ab (BJ x22.2 (⟨#[112,101,114]⟩:ByteArray)) fun y18=>match y18 with
      | .error z12=>some (.inr (.error z12))
      | .ok x23=>
      Ab (CT x23 1099511627776) fun y19=>match y19 with
      | .error z13=>some (.inr (.error z13))
      | .ok x24=>
      Ab (BJ x24.2 (⟨#[59]⟩:ByteArray)) fun y20=>match y20 with
      | .error z14=>some (.inr (.error z14))
      | .ok x25=>
      some (.inl (x25.b_,x25.at_,x25.token_,y11.2.2.2,(w64 (x19.1.toNat:Int)),(w64 (x22.1.toNat:Int)),(w64 (x24.1.toNat:Int))))
    else
    some (.inl (x20.b_,x20.at_,x20.token_,y11.2.2.2,(w64 (x19.1.toNat:Int)),y6.2.2.2.2.2.2.2.2.1,y6.2.2.2.2.2.2.2.2.2))
   else
   some (.inl (x12.b_,x12.at_,x12.token_,y6.2.2.2.2.2.2.1,y6.2.2.2.2.2.2.2.1,y6.2.2.2.2.2.2.2.2.1,y6.2.2.2.2.2.2.2.2.2))
  :Option (((List UInt8)×Int×ByteArray×UInt64×Int×Int×Int)⊕(Except (Int×Int) (g_api_Rule×(List g_api_Rule)×Ao))))) fun x13=>match x13 with
 | .inr r=>some r
 | .inl y10=>
 Ab (BJ (⟨y10.1,y10.2.1,y10.2.2.1⟩:Ao) (⟨#[125]⟩:ByteArray)) fun y21=>match y21 with
 | .error z15=>some (.error z15)
 | .ok x26=>
 some (.ok ((⟨y6.2.2.2.1,y6.2.2.2.2.1,y6.2.2.2.2.2.1,y10.2.2.2.1,y10.2.2.2.2.1,y10.2.2.2.2.2.1,y10.2.2.2.2.2.2⟩:g_api_Rule),a1,x26))
theorem KH {a0 a1 r}(hm:HE a0 a1=some r):Sb prog 77 [.pb 0 0,.ow 1] [.box 0 [sl eB a0.b_,.d (.i a0.at_),.d (.s a0.token_)] 163,.row 1 7 _ Ah a1] 2 (thV 160 r) (Pos (exo r) (fun r=>ag (Ah r.1)) (fun r=> [.row 1 7 _ Ah r.2.1,.box 0 [.d (.sl _ eB r.2.2.b_),.d (.i r.2.2.at_),.d (.s r.2.2.token_)] 163]) 2) (exo r=none):=
 sb call77 func77 rfl ntmps77 rfl fun D0 As η0 m0 hd=>by
  unfold HE at hm;refine oB hm fun x1 q1 hm=>gj (fun(y1:(List UInt8)×Int×ByteArray)=>let (y_0,y_1,y_2):=y1; ⟨[(0,.pb 0 0),(3,.pb 2 0),(4,.pb 3 0)],[(0,.box 3 [.d (.s ByteArray.empty),.d (.t (eqS a0.token_ (⟨#[97,108,108,111,119]⟩:ByteArray))),.d (.v (.slice none 0 0)),.d (.u 0),.d (.i 0),.d (.i 0),.d (.i 0)] 85),(1,.box 2 [.ow 1] 35),(2,.box 0 [sl eB y_0,.d (.i y_1),.d (.s y_2)] 163),(3,.row 1 7 _ Ah a1)],[],4⟩) (fun y1=>x1= .inl y1) (fun Jp bk1=> ?_) fun y1 hy=> ?_
  ·refine gi q1 ?_ ?_<;>intro hc1 q1
   ·obtain⟨y2,q2,q1⟩:=Ac q1;rcases y2 with z1|x2
    ·dsimp only at q1;obtain rfl:=Akr q1;dsimp only at hm;obtain rfl:=Akr hm;exact HX (Bz q2)
    dsimp only at q1;refine gco (Bz q2).spE ?_;obtain rfl:=Akr q1;exact gb bk1 hd _ rfl
   obtain rfl:=Akr q1;exact gb bk1 hd _ rfl
  subst hy;dsimp only at hm;refine oB hm fun x3 q3 hm=>gj (fun(y3:Unit)=>⟨[(0,.pb 0 0),(3,.pb 2 0),(4,.pb 3 0)],[(0,.box 3 [.d (.s ByteArray.empty),.d (.t (eqS a0.token_ (⟨#[97,108,108,111,119]⟩:ByteArray))),.d (.v (.slice none 0 0)),.d (.u 0),.d (.i 0),.d (.i 0),.d (.i 0)] 85),(1,.box 2 [.ow 1] 35),(2,.box 0 [sl eB y1.1,.d (.i y1.2.1),.d (.s y1.2.2)] 163),(3,.row 1 7 _ Ah a1)],[],4⟩) (fun y3=>x3= .inl y3) (fun Jp bk2=> ?_) fun y3 hy=> ?_
  ·refine gi q3 ?_ ?_<;>intro hc2 q3
   ·obtain rfl:=Akr q3;dsimp only at hm;obtain rfl:=Akr hm;exact Ye (by kernel_rfl)
   obtain rfl:=Akr q3;exact gb bk2 hd _ rfl
  subst hy;dsimp only at hm;refine gD hm B5 fun x4 q4 hm=> ?_;obtain⟨y4,q5,hm⟩:=Ac hm;rcases y4 with z2|x5
  ·dsimp only at hm;obtain rfl:=Akr hm;exact HX (GC q5)
  dsimp only at hm;refine gcoR 2 ((GC q5).spE) ?_;obtain⟨y5,q6,hm⟩:=Ac hm;rcases y5 with z3|x6
  ·dsimp only at hm;obtain rfl:=Akr hm;exact HX (AH q6)
  dsimp only at hm;refine gco (AH q6).spE<|oB hm fun x7 q7 hm=>WK 0 eS 4 2 1<|gI q7 (fun(p_0,p_1,p_2,p_3,p_4,p_5,p_6,p_7,p_8,p_9)=>⟨[(0,.pb 0 0),(4,.pb 3 0),(3,.pb 2 0)],[(0,.row 4 1 _ eS p_5),(1,.box 0 [sl eB p_0,.d (.i p_1),.d (.s p_2)] 163),(2,.box 3 [.d (.s p_3),.d (.t p_4),.ow 4,.d (.u p_6),.d (.i p_7),.d (.i p_8),.d (.i p_9)] 85),(3,.box 2 [.ow 1] 35),(4,.row 1 7 _ Ah a1)],[],5⟩) fun s1 y7 Jl q10 bl1=> ?_;unfold IU at q10;obtain⟨y8,q12,q10⟩:=Ac q10;rcases y8 with z4|x9
  ·dsimp only at q10;obtain rfl:=nR bl1 q10;obtain rfl:=Akr hm;exact AhE (GA q12)
  dsimp only at q10;refine gcoR 2 ((GA q12).spE)<|gq eS 1 [x9.1]<|oB q10 fun x10 q13 q10=>gp eS 1 q13<|gi q10 ?_ ?_<;>intro hc3 q10
  ·obtain rfl:=nR bl1 q10;let y6:=(x9.2.b_,x9.2.at_,x9.2.token_,s1.2.2.2.1,s1.2.2.2.2.1,x10,s1.2.2.2.2.2.2.1,s1.2.2.2.2.2.2.2.1,s1.2.2.2.2.2.2.2.2.1,s1.2.2.2.2.2.2.2.2.2);obtain⟨y9,q15,hm⟩:=Ac hm;rcases y9 with z5|x12
   ·dsimp only at hm;obtain rfl:=Akr hm;exact HX (AH q15)
   dsimp only at hm;refine gco (AH q15).spE<|oB hm fun x13 q16 hm=>gj (fun(y10:(List UInt8)×Int×ByteArray×UInt64×Int×Int×Int)=>let (y_0,y_1,y_2,y_3,y_4,y_5,y_6):=y10; ⟨[(0,.pb 0 0),(4,.pb 3 0),(3,.pb 2 0)],[(0,.box 0 [sl eB y_0,.d (.i y_1),.d (.s y_2)] 163),(1,.row 4 1 _ eS y6.2.2.2.2.2.1),(2,.box 3 [.d (.s y6.2.2.2.1),.d (.t y6.2.2.2.2.1),.ow 4,.d (.u y_3),.d (.i y_4),.d (.i y_5),.d (.i y_6)] 85),(3,.box 2 [.ow 1] 35),(4,.row 1 7 _ Ah a1)],[],5⟩) (fun y10=>x13= .inl y10) (fun Jp bk4=> ?_) fun y10 hy=> ?_
   ·refine gi q16 ?_ ?_<;>intro hc4 q16
    ·refine oB q16 fun x14 q17 q16=>gj (fun(y11:(List UInt8)×Int×ByteArray×UInt64)=>let (y_0,y_1,y_2,y_3):=y11; ⟨[(0,.pb 0 0),(4,.pb 3 0),(3,.pb 2 0)],[(0,.box 0 [sl eB y_0,.d (.i y_1),.d (.s y_2)] 163),(1,.row 4 1 _ eS y6.2.2.2.2.2.1),(2,.box 3 [.d (.s y6.2.2.2.1),.d (.t y6.2.2.2.2.1),.ow 4,.d (.u y_3),.d (.i y6.2.2.2.2.2.2.2.1),.d (.i y6.2.2.2.2.2.2.2.2.1),.d (.i y6.2.2.2.2.2.2.2.2.2)] 85),(3,.box 2 [.ow 1] 35),(4,.row 1 7 _ Ah a1)],[],5⟩) (fun y11=>x14= .inl y11) (fun Jp bk5=> ?_) fun y11 hy=> ?_
     ·refine gi q17 ?_ ?_<;>intro hc5 q17
      ·refine gD q17 B5 fun x15 q18 q17=> ?_;obtain⟨y12,q19,q17⟩:=Ac q17;rcases y12 with z6|x16
       ·dsimp only at q17;obtain rfl:=Akr q17;dsimp only at q16;obtain rfl:=Akr q16;dsimp only at hm;obtain rfl:=Akr hm;exact HX (B2 q19)
       dsimp only at q17;refine gco (B2 q19).spE ?_;obtain⟨y13,q20,q17⟩:=Ac q17;rcases y13 with z7|x17
       ·dsimp only at q17;obtain rfl:=Akr q17;dsimp only at q16;obtain rfl:=Akr q16;dsimp only at hm;obtain rfl:=Akr hm;exact HX (AH q20)
       dsimp only at q17;refine gco (AH q20).spE ?_;obtain rfl:=Akr q17;exact gb bk5 hd _ rfl
      obtain rfl:=Akr q17;exact gb bk5 hd _ rfl
     subst hy;dsimp only at q16;obtain⟨y14,q21,q16⟩:=Ac q16;rcases y14 with z8|x18
     ·dsimp only at q16;obtain rfl:=Akr q16;dsimp only at hm;obtain rfl:=Akr hm;exact HX (AH q21)
     dsimp only at q16;refine gco (AH q21).spE ?_;obtain⟨y15,q22,q16⟩:=Ac q16;rcases y15 with z9|x19
     ·dsimp only at q16;obtain rfl:=Akr q16;dsimp only at hm;obtain rfl:=Akr hm;exact HX (B2 q22)
     dsimp only at q16;refine gco (B2 q22).spE ?_;obtain⟨y16,q23,q16⟩:=Ac q16;rcases y16 with z10|x20
     ·dsimp only at q16;obtain rfl:=Akr q16;dsimp only at hm;obtain rfl:=Akr hm;exact HX (AH q23)
     dsimp only at q16;refine gco (AH q23).spE<|gi q16 ?_ ?_<;>intro hc6 q16
     ·refine gD q16 B5 fun x21 q24 q16=> ?_;obtain⟨y17,q25,q16⟩:=Ac q16;rcases y17 with z11|x22
      ·dsimp only at q16;obtain rfl:=Akr q16;dsimp only at hm;obtain rfl:=Akr hm;exact HX (B2 q25)
      dsimp only at q16;refine gco (B2 q25).spE ?_;obtain⟨y18,q26,q16⟩:=Ac q16;rcases y18 with z12|x23
      ·dsimp only at q16;obtain rfl:=Akr q16;dsimp only at hm;obtain rfl:=Akr hm;exact HX (AH q26)
      dsimp only at q16;refine gco (AH q26).spE ?_;obtain⟨y19,q27,q16⟩:=Ac q16;rcases y19 with z13|x24
      ·dsimp only at q16;obtain rfl:=Akr q16;dsimp only at hm;obtain rfl:=Akr hm;exact HX (B2 q27)
      dsimp only at q16;refine gco (B2 q27).spE ?_;obtain⟨y20,q28,q16⟩:=Ac q16;rcases y20 with z14|x25
      ·dsimp only at q16;obtain rfl:=Akr q16;dsimp only at hm;obtain rfl:=Akr hm;exact HX (AH q28)
      dsimp only at q16;refine gco (AH q28).spE ?_;obtain rfl:=Akr q16;exact gb bk4 hd _ rfl
     obtain rfl:=Akr q16;exact gb bk4 hd _ rfl
    obtain rfl:=Akr q16;exact gb bk4 hd _ rfl
   subst hy;dsimp only at hm;obtain⟨y21,q29,hm⟩:=Ac hm;rcases y21 with z15|x26
   ·dsimp only at hm;obtain rfl:=Akr hm;exact HX (AH q29)
   dsimp only at hm;refine gco (AH q29).spE ?_;obtain rfl:=Akr hm;exact Qg hd
  exact gD q10 B5 fun x11 q14 q10=>gN bl1 q10
theorem d1_75 (a b c:Value)(w:World):CallsDIn (FW none) 0 prog 75 #[a,b,c] .returning w fun e u' w'=> ∃v,e= .returned v∧u'= .returning∧w'=w:=by
 refine CallsDIn.mono (Pa (N:=16) (args:=[a,b,c]) (u:= .returning) (u':= .returning) (v:= .nilIface) (R:=fun w'=>w'=w) func75 rfl ntmps75 rfl (AkG rfl) rfl (fun c₀ cs hu=> .inr ⟨by simp[recoverD,hu],rfl,rfl⟩) ?_) fun e u2 w' ⟨x,h1,h2,_,h3⟩=>⟨x,h1,h2,h3⟩;refine JQ (C5 (A9 (l:=[_]) ?_));refine Aq (v:= .bool true) (w':=w) rfl (fun _ e=>by cases e) (by kernel_rfl) ?_;refine Co (nrm ?_);refine NJ rfl ?_;refine A9 (l:=[_]) ?_;refine Aq (v:= .nilIface) (w':=w) rfl (fun _ e=>by cases e) (by kernel_rfl) ?_;exact Co (nrmB ⟨.inl rfl,rfl⟩)
theorem d2_75 (z:Int×Int)(m:Mem)(As:List Ow)(w:World)(b0 b1 b2:Nat)(c0 c1 c2:List Value)(l0:c0.length=1)(l1:c1.length=1)(l2:c2.length=1)(h0: ∀v∈c0,v.oneCell'=true)(h1: ∀v∈c1,v.oneCell'=true)(h2: ∀v∈c2,v.oneCell'=true)(S:St m (bx b0 c0 35::bx b1 c1 3::bx b2 c2 46::As) w):
  CallsDIn (FW none) 0 prog 75 #[pt b0 0,pt b1 0,pt b2 0] (.panicking (chn (thW 160 z))) w fun e u' w'=> ∃v,e= .returned v∧u'= .panicking [{v:=thW 160 z,recovered:=true}]∧Kd w w'∧
   ∃M u0 u1 u2,m≤M∧FRL M [.v (.slice none 0 0)] u0∧FRL M [.i (z.1)] u1∧FRL M [.i (z.2)] u2∧St M (bx b0 u0 35::bx b1 u1 3::bx b2 u2 46::As) w':=by
 refine Pa (N:=16) (args:=[pt b0 0,pt b1 0,pt b2 0]) (u:= .panicking (chn (thW 160 z))) (u':= .panicking [{v:=thW 160 z,recovered:=true}]) (v:=thW 160 z) func75 rfl ntmps75 rfl (AkG rfl) rfl (fun c₀ cs hu=> .inl (by simp[recoverD,hu,chn])) ?_;refine JQ (C5 (A9 (l:=[_]) ?_));refine Aq (v:= .bool false) (w':=w) rfl (fun _ e=>by cases e) (by kernel_rfl) ?_;refine Co (nrm ?_);refine Ru rfl ?_;refine C5 (A9 (l:=[_,_,_]) ?_);refine Aq (v:= .tuple #[.agg #[.int .i64 z.1,.int .i64 z.2],.bool true]) (w':=w) rfl (fun _ e=>by cases e) (by kernel_rfl) ?_;refine Aq (v:= .bool true) (w':=w) rfl (fun _ e=>by cases e) (by kernel_rfl) ?_;refine Aq (v:= .agg #[.int .i64 z.1,.int .i64 z.2]) (w':=w) rfl (fun _ e=>by cases e) (by kernel_rfl) ?_;refine Co (nrm ?_);refine NJ rfl ?_;let η0:Env:=fun n=>if n=0 then some (pt b0 0)else if n=1 then some (pt b1 0)else if n=2 then some (pt b2 0)else none;have e0:η0 0=some (pt b0 0):=rfl;have e1:η0 1=some (pt b1 0):=rfl;have e2:η0 2=some (pt b2 0):=rfl;have hd: ∀n,η0 n≠none→n<3:=fun n h=>by
  have h:(if n=0 then some (pt b0 0)else if n=1 then some (pt b1 0)else if n=2 then some (pt b2 0)else none)≠none:=h;split at h
  ·omega
  ·split at h
   ·omega
   ·split at h
    ·omega
    ·exact absurd rfl h
 let s0:AS:=⟨[(0,.pb 0 0),(1,.pb 1 0),(2,.pb 2 0),(11,.agg [.d (.i z.1),.d (.i z.2)])],[(0,.box 0 (List.replicate 1 .any) 35),(1,.box 1 (List.replicate 1 .any) 3),(2,.box 2 (List.replicate 1 .any) 46)],[],3⟩;have cl: ∀{n b k:Nat} {c:List Value} {t:TypeId} {Bs:List Ow},η0 n=some (pt b 0)→c.length=k→(∀v∈c,v.oneCell'=true)→St m (bx b c t::Bs) w→St m (rep η0 m (.box n (List.replicate k .any) t)::Bs) w:=fun hb hl hc S=>St.closeBox hb (hl▸BP.anys) hc S;have rot: ∀{A B C:Ow} {As:List Ow},(A::B::C::As).Perm (B::C::A::As):=(Ak8 _ _ _).trans (List.Perm.cons _ (Ak8 _ _ _));have S3:St m (rep η0 m (.box 0 (List.replicate 1 .any) 35)::rep η0 m (.box 1 (List.replicate 1 .any) 3)::rep η0 m (.box 2 (List.replicate 1 .any) 46)::As) w:=
  (cl e2 l2 h2 ((cl e1 l1 h1 ((cl e0 l0 h0 S).perm rot)).perm rot)).perm rot
 let J:Unit→AS:=fun _=>⟨[],[(0,.box 0 (List.map AV.d [.v (.slice none 0 0)]) 35),(1,.box 1 (List.map AV.d [.i (z.1)]) 3),(2,.box 2 (List.map AV.d [.i (z.2)]) 46)],[],3⟩;refine FI (Q:=Ax.pk none prog 16 (w,[],true) (Ze (Rl As η0 m J (fun _=>True)) (thW 160 z) (fun _ _=>False)) [.blk 0]) ?_ (gat s0 (η:=η0) (m:=m) ?_ (WJ () trivial hd (by kernel_rfl)))
 ·intro e f' w' q;have fin:Rl As η0 m J (fun _=>True) f' w'→∃M u0 u1 u2,m≤M∧FRL M [.v (.slice none 0 0)] u0∧FRL M [.i (z.1)] u1∧FRL M [.i (z.2)] u2∧St M (bx b0 u0 35::bx b1 u1 3::bx b2 u2 46::As) w':=by
   rintro⟨_,_,η,M,le,l,gm⟩;have op: ∀{n b:Nat} {d:List D} {t:TypeId} {Bs:List Ow},η0 n=some (pt b 0)→St M (rep η M (.box n (List.map AV.d d) t)::Bs) w'→∃u,FRL M d u∧St M (bx b u t::Bs) w':=by
    intro n b d t Bs hb S;obtain⟨b',cs,k0,k1,k2,S1⟩:=St.openBox S;rw[le n _ hb]at k0; obtain rfl:b=b':=by have:=Akr k0; simpa using this
    exact⟨cs,k1.toD,S1⟩
   obtain⟨u0,x0,T0⟩:=op e0 gm.st;obtain⟨u1,x1,T1⟩:=op e1 (T0.perm rot);obtain⟨u2,x2,T2⟩:=op e2 (T1.perm rot);exact⟨M,u0,u1,u2,l,x0,x1,x2,T2.perm rot⟩
  cases e with
  |normal=>exact⟨.inl rfl,fin q⟩
  |ret=>exact⟨.inr rfl,fin q⟩
  |exit id=>
   have q:(bif Nat.beq id 0 then Rl As η0 m J (fun _=>True) f' w' else False):=q;cases hb:Nat.beq id 0
   ·rw[hb]at q; exact q.elim
   ·rw[hb]at q;refine(show NZ 0 _ (.exit id) f' w' from ?_);simp only[NZ,hb,cond_true];exact⟨by simp,fin q⟩
  |goto l=>exact q.elim
  |panic ch=>exact q.2.elim
  |outgrown=>exact q.elim
 ·refine⟨fun t=> ?_,fun n d h=>(by cases h),hd,S3,?_,fun t ht=> ?_⟩
  ·match t with
   |0=>exact .pb e0
   |1=>exact .pb e1
   |2=>exact .pb e2
   |11=>
    have L:BP η0 m [.d (.i z.1),.d (.i z.2)] [.int .i64 z.1,.int .i64 z.2]:= .cons (.d (.i _)) (.cons (.d (.i _)) .nil);exact .agg L.1 L.2
   |3=>exact .any _
   |4=>exact .any _
   |5=>exact .any _
   |6=>exact .any _
   |7=>exact .any _
   |8=>exact .any _
   |9=>exact .any _
   |10=>exact .any _
   |t+12=>exact .any _
  ·show [0,1,2].Nodup; decide
  ·have:t∈[0,1,2]:=ht;show t<3;simp at this; omega
def Nq (s1:(List UInt8)×Int×ByteArray×(List g_api_Rule)):Option (((List UInt8)×Int×ByteArray×(List g_api_Rule))⊕(((List UInt8)×Int×ByteArray×(List g_api_Rule))⊕(Except (Int×Int) ((List g_api_Rule)×Int×Int)))):=if(!eqS s1.2.2.1 (⟨#[]⟩:ByteArray))=true then Ab (HE (⟨s1.1,s1.2.1,s1.2.2.1⟩:Ao) s1.2.2.2) fun y3=>match y3 with| .error z1=>some (.inr (.inr (.error z1)))| .ok x4=>Ab (app 80 x4.2.1 ([x4.1]:List g_api_Rule)) fun x5=>some (.inl (x4.2.2.b_,x4.2.2.at_,x4.2.2.token_,x5))else some (.inr (.inl (s1.1,s1.2.1,s1.2.2.1,s1.2.2.2)))
def E2 (a0:List UInt8):Option (Except (Int×Int) ((List g_api_Rule)×Int×Int)):=Ab (Bw (⟨a0,0,ByteArray.empty⟩:Ao)) fun x1=>Ab (iter Nq EV (x1.b_,x1.at_,x1.token_,([]:List g_api_Rule))) fun x2=>match x2 with| .inr r=>some r| .inl y1=>some (.ok (y1.2.2.2,0,0))
def Nr (a0:List UInt8):Option ((List g_api_Rule)×Int×Int):=if(decide ((a0.length:Int)>32768))=true then some (([]:List g_api_Rule),0,2)else Ab (E2 a0) fun z=>some (match z with| .error z=>([],z.1,z.2)| .ok c=>c)
theorem VI {a0 r}(hm:Nr a0=some r):Sf prog 20 [sl eB a0] (.tup [sl Ah r.1,.d (.i r.2.1),.d (.i r.2.2)]):=by
 unfold Nr at hm;refine par_of (N:=27) (zs0:=[.v (.slice none 0 0)]) (zs1:=[.i ((AdB ((E2 a0).getD (.error (0,0)))).1)]) (zs2:=[.i ((AdB ((E2 a0).getD (.error (0,0)))).2)]) (t0:=35) (t1:=3) (t2:=46) (ov:=thV 160 ((E2 a0).getD (.error (0,0)))) (ok1:=((decide ((a0.length:Int)>32768)))=false) (okX:=((decide ((a0.length:Int)>32768)))=false∧∃z,E2 a0=some (.error z)) (okE:=fun c=>((decide ((a0.length:Int)>32768)))=false∧E2 a0=some (.ok c)) (JE:=fun(c:(List g_api_Rule)×Int×Int)=>⟨[(2,.pb 0 0),(3,.pb 1 0),(4,.pb 2 0)],[(0,.box 0 [sl Ah c.1] 35),(1,.box 1 [.d (.i c.2.1)] 3),(2,.box 2 [.d (.i c.2.2)] 46)],[],3⟩) (J1:=⟨[(0,sl eB a0),(2,.pb 0 0),(3,.pb 1 0),(4,.pb 2 0)],[(0,.box 2 [.d (.i 0)] 46),(1,.box 1 [.d (.i 0)] 3),(2,.box 0 [.d (.v (.slice none 0 0))] 35)],[],3⟩) call20 call75 func20 rfl ntmps20 rfl rfl rfl ?_ ?_ ?_ ?_ (d1_75) (fun h=>by obtain⟨_,z,hz⟩:=h; rw[hz]; exact d2_75 z)
 ·intro D0 As η0 m0 Jp hd bk;refine gi hm ?_ ?_<;>intro hc1 hm
  ·exact Akr hm▸gE
  exact gb bk hd () hc1
 ·intro hok D0 As η0 m0 hd;rw[Aky (by rw[hok]; decide)]at hm;obtain⟨z,hz2,hm⟩:=Ac hm;rw[hz2];unfold E2 at hz2;clear hm;refine gD hz2 B5 fun x1 q1 hz2=>oB hz2 fun x2 q2 hz2=>WK 0 Ah 2 0 7<|gI q2 (fun(p_0,p_1,p_2,p_3)=>⟨[(2,.pb 0 0),(3,.pb 1 0),(4,.pb 2 0),(5,.pb 3 0),(12,.pb 3 0)],[(0,.row 4 7 _ Ah p_3),(1,.box 3 [sl eB p_0,.d (.i p_1),.d (.s p_2)] 163),(2,.box 2 [.d (.i 0)] 46),(3,.box 1 [.d (.i 0)] 3),(4,.box 0 [.ow 4] 35)],[],5⟩) fun s1 y2 Jl q5 bl1=> ?_;unfold Nq at q5;refine gi q5 ?_ ?_<;>intro hc2 q5
  ·obtain⟨y3,q7,q5⟩:=Ac q5;rcases y3 with z1|x4
   ·dsimp only at q5;obtain rfl:=nR bl1 q5;obtain rfl:=Akr hz2;exact AjD [0,1,2] [2,3,4] (KH q7) ⟨hok,_,rfl⟩ hd
   dsimp only at q5;exact gco (KH q7).spE<|gq Ah 7 [x4.1]<|oB q5 fun x5 q8 q5=>gp Ah 7 q8<|gN bl1 q5
  obtain rfl:=nR bl1 q5;let y1:=(s1.1,s1.2.1,s1.2.2.1,s1.2.2.2);obtain rfl:=Akr hz2;exact WJ _ ⟨hok,rfl⟩ hd
 ·rintro c ⟨hC,hz⟩ D0 As η0 m0 hd;rw[Aky (by rw[hC]; decide),hz]at hm;have e0:c=r:=Akr hm;subst e0;exact Adt hd
 ·rintro⟨hC,z,hz⟩ D0 As η0 m0 hd;rw[Aky (by rw[hC]; decide),hz]at hm;have e0:([],z.1,z.2)=r:=Akr hm;subst e0;rw[hz];exact Adt hd
def Dk (a0:List UInt8):Option (UInt64×UInt64):=Ab (Cx (⟨#[108,101,97,102]⟩:ByteArray) ([a0]:List (List UInt8))) fun x1=>some x1
theorem Jk {a0 r}(hm:Dk a0=some r):Sf prog 21 [sl eB a0] (ag (A7 r)):=by
 refine sq ?_;intros;refine gq (eL eB) 1 [a0]<|gA hm EY fun _ q1 hm=> ?_;exact Akr hm▸gE
def Mi (a0:UInt64):Option Bool:=Ab (gu ((decide ((a0.toNat:Int)>0))&&(decide ((a0.toNat:Int)<2305843009213691579))) (Hc a0 1152921504606845789)) fun x1=>bnd ((((decide ((a0.toNat:Int)>0))&&(decide ((a0.toNat:Int)<2305843009213691579)))&&((x1.toNat:Int)==1))) fun x2=>some x2
theorem Xy {a0 r}(hm:Mi a0=some r):Sf prog 79 [.d (.u a0)] (.d (.t r)):=by
 refine sq ?_;intros;refine oB hm fun _ q1 hm=>gcH q1 MZ<|bE hm ?_;intro _ hm;exact Akr hm▸gE
def CC (s1:UInt64×UInt64×Int×Int):Option ((UInt64×UInt64×Int×Int)⊕(Int)):=if((s1.2.1.toNat:Int) !=0)=true then if s1.2.1≠0 then bnd ((s1.1-((s1.1/s1.2.1)*s1.2.1))) fun x4=>bnd ((w64 (s1.2.2.1-(w64 ((w64 ((s1.1/s1.2.1).toNat:Int))*s1.2.2.2))))) fun x5=>some (.inl (s1.2.1,x4,s1.2.2.2,x5))else none else some (.inr s1.2.2.1)
def D9 (a0:UInt64)(a1:UInt64):Option (UInt64×Int):=if a0≠0 then if(((a1%a0).toNat:Int)==0)=true then some (0,10)else Ab (Ab (iter CC EV ((a1%a0),a0,1,0)) fun x2=>some x2) fun x1=>Ab (if(decide (x1<0))=true then bnd ((w64 (x1+(w64 (a0.toNat:Int))))) fun x7=>some x7 else some x1) fun x6=>some ((toU x6),0)else none
theorem MY {a0 a1 r}(hm:D9 a0 a1=some r):Sf prog 166 [.d (.u a0),.d (.u a1)] (.tup [.d (.u r.1),.d (.i r.2)]):=by
 refine sq fun D0 As η0 m0 hd=> ?_;unfold D9 at hm;obtain⟨q1,hm⟩:=BY hm;refine AeF (d:= .u a0) (r:= .u (a1%a0)) (fun h=>q1)<|gi hm ?_ ?_<;>intro _ hm
 ·exact Akr hm▸gE
 obtain⟨x1,q2,hm⟩:=Ac hm;refine oB q2 fun x2 q3 q2=>gI q3 (fun(p_0,p_1,p_2,p_3)=>⟨[(0,.d (.u a0)),(6,.d (.u p_0)),(7,.d (.u p_1)),(8,.d (.i p_2)),(9,.d (.i p_3))],[],[],0⟩) fun s1 _ Jl q6 bl1=>gi q6 ?_ ?_<;>intro _ q6
 ·obtain⟨q8,q6⟩:=BY q6;refine AeF (d:= .u s1.2.1) (r:= .u (s1.1/s1.2.1)) (fun h=>q8)<|bE q6 ?_;intro _ q6;refine bE q6 ?_;intro _ q6;exact gN bl1 q6
 obtain rfl:=nR bl1 q6;let x2:=s1.2.2.1;obtain rfl:=Akr q2;refine oB hm fun x6 q11 hm=>gj (fun(_:Unit)=>⟨[(8,.d (.i x6))],[],[],0⟩) (fun _=>True) (fun Jp bk3=> ?_) fun _ _=> ?_
 ·refine gi q11 ?_ ?_<;>intro _ q11
  ·refine bE q11 ?_;intro _ q11;obtain rfl:=Akr q11;exact gb bk3 hd () trivial
  obtain rfl:=Akr q11;exact gb bk3 hd () trivial
 exact Akr hm▸gE
def KZ (a0:UInt64):Option (UInt64×Int):=Ab (D9 2305843009213691579 a0) fun x1=>some (x1.1,x1.2)
theorem VW {a0 r}(hm:KZ a0=some r):Sf prog 80 [.d (.u a0)] (.tup [.d (.u r.1),.d (.i r.2)]):=by
 refine sq ?_;intros;refine gA hm MY fun _ q1 hm=> ?_;exact Akr hm▸gE
def Nz (a0:UInt64)(a1:UInt64):Option UInt64:=Ab (Dd 2305843009213691579 a0 a1) fun x1=>some x1
theorem VV {a0 a1 r}(hm:Nz a0 a1=some r):Sf prog 82 [.d (.u a0),.d (.u a1)] (.d (.u r)):=by
 refine sq ?_;intros;refine gA hm Ge fun _ q1 hm=> ?_;exact Akr hm▸gE
def IT (a0:UInt64)(a1:List UInt8)(a2:g_api_Sig):Option Int:=Ab (Mi a0) fun x1=>if(!x1)=true then some 1 else if(decide (((P9 a2.E a2.S).toNat:Int)≥1152921504606845789))=true then some 40 else Ab (Hc a0 a2.E) fun x2=>Ab (KZ x2) fun x3=>Ab (gu (!(x3.2 !=0)) (Ea a2.S)) fun x4=>Ab (gu (!(x3.2 !=0)) (Nz x4 x3.1)) fun x5=>Ab (gu (!(x3.2 !=0)) (Fj x5 a0 a1)) fun x6=>if((x3.2 !=0)||((x6.toNat:Int) !=(a2.E.toNat:Int)))=true then some 40 else some 0
theorem Qy {a0 a1 a2 r}(hm:IT a0 a1 a2=some r):Sf prog 22 [.d (.u a0),sl eB a1,ag (PI a2)] (.d (.i r)):=by
 refine sq ?_;intros;refine gA hm Xy fun _ q1 hm=>gi hm ?_ ?_<;>intro _ hm
 ·exact Akr hm▸gE
 refine gi hm ?_ ?_<;>intro _ hm
 ·exact Akr hm▸gE
 refine gA hm MZ fun _ q2 hm=>gA hm VW fun _ q3 hm=>oB hm fun _ q4 hm=>gcH q4 Hq<|oB hm fun _ q5 hm=>gcH q5 VV<|oB hm fun _ q6 hm=>gcH q6 Mv<|gi hm ?_ ?_<;>intro _ hm
 ·exact Akr hm▸gE
 exact Akr hm▸gE
def Nv (a0:UInt64×UInt64)(i1:Int)(s1:(List UInt8)):Option ((List UInt8)):=Ab (idx [a0.1,a0.2] (i1:Int)) fun x4=>Ab (Gl s1 x4 8) fun x5=>some x5
def Cm (a0:UInt64×UInt64):Option (List UInt8):=Ab (Ab (Cg (Nv a0) 2 0 ([]:List UInt8)) fun x2=>some x2) fun x1=>some x1
theorem EP {a0 r}(hm:Cm a0=some r):Sp prog 171 [ag (A7 a0)] [] 0 (is (.ow 0) [.row 0 1 _ eB r] 1):=by
 refine sq ?_;intros;unfold Cm at hm;obtain⟨x1,q1,hm⟩:=Ac hm;refine oB q1 fun _ q2 q1=>Sj 0 eB 3 1<|gF (EM _ 2 _) q2 (fun p0 p=>⟨[(3,.ow 1),(6,.agg [.d (.u a0.1),.d (.u a0.2)]),(7,.d (.i p0)),(1,.pb 0 0)],[(0,.row 1 1 _ eB p),(1,.box 0 [.d (.u a0.1),.d (.u a0.2)] 81)],[],2⟩) fun i1 s1 Jl bl1=>cM bl1 (2:Int) (fun _ q5 bl1=> ?_) fun e=> ?_
 ·exact oB q5 fun _ q7 q5=>gidxV (k:=1) (ag:=false) (E:=eU) ([a0.1,a0.2]:List UInt64) (fun _=>rfl) (fun _=>q7)<|gD q5 To fun _ q8 q5=>gM bl1 lk q5
 subst e;obtain rfl:=Akr q1;exact Akr hm▸gE
theorem QR {a0:UInt64×UInt64}{r:List UInt8}(hm:Cm a0=some r):Sf prog 171 [ag (A7 a0)] (sl eB r):=Sp.fz (EP hm) (by kernel_rfl)
def OD (a0:UInt64×UInt64)(a1:UInt64×UInt64):Option (UInt64×UInt64):=Ab (Cm a0) fun x1=>Ab (Cm a1) fun x2=>Ab (Cx (⟨#[110,111,100,101]⟩:ByteArray) ([x1,x2]:List (List UInt8))) fun x3=>some x3
theorem RD {a0 a1 r}(hm:OD a0 a1=some r):Sf prog 86 [ag (A7 a0),ag (A7 a1)] (ag (A7 r)):=by
 refine sq ?_;intros;refine gD hm EP fun x1 q1 hm=>gD hm EP fun x2 q2 hm=>WL (k:=1) (eL eB) ([x1,x2]:List (List UInt8)) (fun _=>rfl)<|gA hm EY fun _ q3 hm=> ?_;exact Akr hm▸gE
def LG (a0:UInt64):Option Int:=Ab (He a0) fun x1=>some x1
theorem P2 {a0 r}(hm:LG a0=some r):Sf prog 113 [.d (.u a0)] (.d (.i r)):=by
 refine sq ?_;intros;refine gi' (b:=false) (fun h=>by cases h) (fun _=> ?_);refine gA hm M5 fun _ q1 hm=> ?_;exact Akr hm▸gE
def Dm (a0:List (UInt64×UInt64)):Option (List (UInt64×UInt64)):=Ab (app 16 ([]:List (UInt64×UInt64)) a0) fun x1=>some x1
theorem IF {a0 r}(hm:Dm a0=some r):Sp prog 170 [sl A7 a0] [] 0 (is (.ow 0) [.row 0 2 _ A7 r] 1):=by
 refine sq ?_;intros;unfold Dm at hm;refine gnq A7 a0 (fun he1=> ?_) ?_
 ·rw[he1]at hm;replace hm:(some ([]:List (UInt64×UInt64)))=some _:=hm;refine OE A7 2 2 ?_;exact Akr hm▸gE
 refine TN (k:=2) A7 ([]:List (UInt64×UInt64)) (fun _=>rfl)<|oB hm fun _ q1 hm=>gp A7 2 q1 ?_;exact Akr hm▸gE
def OA (x11:Int)(s3:Int×(List (UInt64×UInt64))):Option ((Int×(List (UInt64×UInt64)))⊕((List (UInt64×UInt64)))):=if(decide (s3.1<x11))=true then Ab (idx s3.2 (w64 (2*s3.1))) fun x14=>Ab (idx s3.2 (w64 ((w64 (2*s3.1))+1))) fun x15=>Ab (OD x14 x15) fun x16=>Ab (idx s3.2 s3.1) fun x17=>bnd (s3.2.set s3.1.toNat x16) fun x18=>some (.inl ((w64 (s3.1+1)),x18))else some (.inr s3.2)
def OB (s2:(List (UInt64×UInt64))):Option (((List (UInt64×UInt64)))⊕((List (UInt64×UInt64)))):=if(decide ((s2.length:Int)>1))=true then Ab (bnd (w64 (Int.tdiv (s2.length:Int) 2)) fun x11=>Ab (iter (OA x11) EV (0,s2)) fun x12=>some x12) fun x10=>bnd (w64 (Int.tdiv (x10.length:Int) 2)) fun x19=>if(0:Int)≤x19∧x19≤(x10.length:Int)then some (.inl (x10.take x19.toNat))else none else some (.inr s2)
def OC {σ:Type}(p0:σ→Az→Option (Bool×σ))(s1:(List (UInt64×UInt64))×σ):Option (((List (UInt64×UInt64))×σ)⊕(((List (UInt64×UInt64))×σ)⊕((List (UInt64×UInt64))×σ))):=if(decide ((s1.1.length:Int)>0))=true then Ab (LG (toU (s1.1.length:Int))) fun x3=>if(0:Int)≤(w64 (x3-1))then bnd ((NY 1 ((w64 (x3-1)).toNat))) fun x4=>Ab (cut s1.1 0 x4) fun x5=>Ab (Dm x5) fun x6=>Ab (Ab (iter OB EV x6) fun x8=>some x8) fun x7=>Ab (idx x7 0) fun x20=>Ab (p0 s1.2 (⟨x4,x20⟩:Az)) fun x21=>if(!x21.1)=true then some (.inr (.inr (s1.1,x21.2)))else Ab (cut s1.1 x4 (s1.1.length:Int)) fun x22=>some (.inl (x22,x21.2))else none else some (.inr (.inl (s1.1,s1.2)))
def MA {σ:Type}(p0:σ→Az→Option (Bool×σ))(k0:List (UInt64×UInt64))(s0:σ):Option ((List (UInt64×UInt64))×σ):=Ab (iter (OC p0) EV (k0,s0)) fun x1=>match x1 with| .inr r=>some r| .inl y1=>some (y1.1,y1.2)
theorem QV {σ:Type}{p0:σ→Az→Option (Bool×σ)}{k0 s0 r}(hm:MA p0 k0 s0=some r)(g:Value)(R:σ→Mem→Ow)(hcb:Aab prog g (fun x=> [ag (AB x)]) R p0):Sp prog 169 [.ow 0,.pb 1 0] [.hp 0 (.cb g σ R s0),.box 1 [sl A7 k0] 87] 2 (is (.tup []) [.hp 0 (.cb g σ R r.2),.box 1 [.d (.sl _ A7 r.1)] 87] 2):=by
 refine sq ?_;intros;refine oB hm fun _ q1 hm=>gI q1 (fun(p_0,p_1)=>⟨[(0,.ow 0),(1,.pb 1 0)],[(0,.box 1 [sl A7 p_0] 87),(1,.hp 0 (.cb g σ R p_1))],[],2⟩) fun s1 _ Jl q4 bl1=>gi q4 ?_ ?_<;>intro _ q4
 ·refine gA q4 P2 fun x3 q6 q4=> ?_;obtain⟨q7,q4⟩:=BY q4;refine gsh (r:= .i (NY 1 ((w64 (x3-1)).toNat))) (fun h=>q7)<|bE q4 ?_;intro x4 q4;refine oB q4 fun _ q9 q4=>gk A7 2 q9<|gD q4 IF fun _ q10 q4=> ?_;obtain⟨x7,q11,q4⟩:=Ac q4;refine oB q11 fun x8 q12 q11=>gI q12 (fun p=>⟨[(0,.ow 0),(1,.pb 1 0),(3,.d (.i x4)),(4,.ow 2)],[(0,.row 2 2 _ A7 p),(1,.box 1 [sl A7 s1.1] 87),(2,.hp 0 (.cb g σ R s1.2))],[],3⟩) fun s2 _ Jl q15 bl2=>gi q15 ?_ ?_<;>intro _ q15
  ·obtain⟨x10,q17,q15⟩:=Ac q15;refine bE q17 ?_;intro x11 q17;refine oB q17 fun x12 q19 q17=>gI q19 (fun(p_0,p_1)=>⟨[(0,.ow 0),(1,.pb 1 0),(3,.d (.i x4)),(4,.ow 2),(24,.d (.i x11)),(25,.d (.i p_0))],[(0,.row 2 2 _ A7 p_1),(1,.box 1 [sl A7 s1.1] 87),(2,.hp 0 (.cb g σ R s1.2))],[],3⟩) fun s3 _ Jl q22 bl3=>gi q22 ?_ ?_<;>intro _ q22
   ·refine oB q22 fun _ q24 q22=>G2 (E:=A7) (fun _=>q24)<|Yg (k:=2) (fo:=0) (nn:=2) (ag:=true) (E:=A7) (fun _=>rfl) (fun _=>q24)<|oB q22 fun _ q25 q22=>G2 (E:=A7) (fun _=>q25)<|Yg (k:=2) (fo:=0) (nn:=2) (ag:=true) (E:=A7) (fun _=>rfl) (fun _=>q25)<|gA q22 RD fun x16 q26 q22=>oB q22 fun _ q27 q22=>G2 (E:=A7) (fun _=>q27)<|bE q22 ?_;intro _ q22;exact Abc (k:=2) (E:=A7) x16 (fun _=>rfl) q27<|gN bl3 q22
   obtain rfl:=nR bl3 q22;let x12:=s3.2;obtain rfl:=Akr q17;refine bE q15 ?_;intro _ q15;obtain⟨⟨q30,q31⟩,q15⟩:=BY q15;exact gcO A7 2 q30 q31<|gN bl2 q15
  obtain rfl:=nR bl2 q15;let x8:=s2;obtain rfl:=Akr q11;refine oB q4 fun x20 q32 q4=>G2 (E:=A7) (fun _=>q32)<|Yg (k:=2) (fo:=0) (nn:=2) (ag:=true) (E:=A7) (fun _=>rfl) (fun _=>q32)<|oB q4 fun _ q33 q4=>gcb (⟨x4,x20⟩:Az) hcb q33<|gi q4 ?_ ?_<;>intro _ q4
  ·obtain rfl:=nR bl1 q4;exact Akr hm▸gE
  exact oB q4 fun _ q34 q4=>gk A7 2 q34<|gN bl1 q4
 obtain rfl:=nR bl1 q4;let y1:=(s1.1,s1.2);exact Akr hm▸gE
def Oe (a0:List (UInt64×UInt64)):Option (List (UInt64×UInt64)):=some a0
theorem SW {a0 r}(hm:Oe a0=some r):Sp prog 84 [sl A7 a0] [] 0 (is (.fn (.func 169) [] [.pb 0 0]) [.box 0 [sl A7 r] 87] 1):=by
 refine sq ?_;intros;exact Akr hm▸gE
def E3 (s1:Int×Int×(List Az)):Option ((Int×Int×(List Az))⊕((List Az))):=if(decide (s1.1<s1.2.1))=true then Ab (idx s1.2.2 s1.2.1) fun x4=>Ab (idx s1.2.2 s1.1) fun x5=>Ab (idx s1.2.2 s1.1) fun x6=>bnd (s1.2.2.set s1.1.toNat x4) fun x7=>Ab (idx x7 s1.2.1) fun x8=>bnd (x7.set s1.2.1.toNat x5) fun x9=>some (.inl ((w64 (s1.1+1)),(w64 (s1.2.1-1)),x9))else some (.inr s1.2.2)
def Dg (a0:List Az):Option (List Az):=bnd ((w64 ((a0.length:Int)-1))) fun x1=>Ab (iter E3 EV (0,x1,a0)) fun x2=>some x2
theorem FO {a0 r}(hm:Dg a0=some r):Sp prog 85 [.ow 0] [.row 0 3 _ AB a0] 1 (is (.tup []) [.row 0 3 _ AB r] 1):=by
 refine sq ?_;intros;refine bE hm ?_;intro _ hm;refine oB hm fun _ q2 hm=>gI q2 (fun(p_0,p_1,p_2)=>⟨[(0,.ow 0),(2,.d (.i p_0)),(3,.d (.i p_1))],[(0,.row 0 3 _ AB p_2)],[],1⟩) fun s1 _ Jl q5 bl1=>gi q5 ?_ ?_<;>intro _ q5
 ·refine oB q5 fun x4 q7 q5=>G2 (E:=AB) (fun _=>q7)<|Yg (k:=3) (fo:=0) (nn:=3) (ag:=true) (E:=AB) (fun _=>rfl) (fun _=>q7)<|oB q5 fun x5 q8 q5=>G2 (E:=AB) (fun _=>q8)<|Yg (k:=3) (fo:=0) (nn:=3) (ag:=true) (E:=AB) (fun _=>rfl) (fun _=>q8)<|oB q5 fun _ q9 q5=>G2 (E:=AB) (fun _=>q9)<|bE q5 ?_;intro _ q5;refine Abc (k:=3) (E:=AB) x4 (fun _=>rfl) q9<|oB q5 fun _ q11 q5=>G2 (E:=AB) (fun _=>q11)<|bE q5 ?_;intro _ q5;exact Abc (k:=3) (E:=AB) x5 (fun _=>rfl) q11<|gN bl1 q5
 obtain rfl:=nR bl1 q5;exact Akr hm▸gE
def Bo (b3:Az)(s1:(List Az)):Option ((List Az)):=Ab (app 24 s1 ([b3]:List Az)) fun x2=>some x2
def BA (a0:List Az)(k0:List (UInt64×UInt64)):Option ((List Az)×(List (UInt64×UInt64))):=Ab (MA (fun(s:(List Az)) (b0:Az)=>Ab (Bo b0 s) fun y=>some (true,y)) k0 a0) fun x1=>some (x1.2,x1.1)
theorem Ej {a0 k0 r}(hm:BA a0 k0=some r):Sp prog 168 [.ow 0,.fn (.func 169) [] [.pb 1 0]] [.row 0 3 _ AB a0,.box 1 [sl A7 k0] 87] 2 (is (.ow 2) [.box 1 [.d (.sl _ A7 r.2)] 87,.row 2 3 _ AB r.1] 3):=
 spR call168 func168 rfl ntmps168 rfl fun D0 As η0 m0 hD hd=>by
  unfold BA at hm;refine oB hm fun x1 q1 hm=>Lb hD (n0:=2) 3 4 [⟨2,1,87,[sl A7 k0],[sl A7 x1.1]⟩] (gt:=6) (ps:=[7]) [(2,.pb 2 0),(6,.fn (.func 169) [] [.pb 1 0])] (fun(y1:(List Az))=> [(0,.row 3 3 _ AB y1),(1,.box 2 [.ow 3] 166)]) (fun(_:Unit)=> []) (fun x=> [ag (AB x)]) (fun(s1:(List Az)) (b3:Az)=>⟨[(2,.pb 2 0),(5,.pb 4 0),(6,.fn (.func 169) [] [.pb 1 0])],[(0,.box 4 [.d (.i b3.size_),.d (.u b3.root_.1),.d (.u b3.root_.2)] 169),(1,.row 3 3 _ AB s1),(2,.box 2 [.ow 3] 166)],[],5⟩) (pN fun x s=>Bo x s) a0 hd (via Sum.inl hyN rfl fun g R h=>QV q1 g R h) rfl (fun _=>rfl) (fun _=>rfl) (fun _=>rfl) (fun _=>rfl) ?_ ?_ ?_ ?_
  ·intro s1 b3 s' hp l D0 As η0 m0 hd Ja ba;exact gb ba hd () trivial
  ·intro s1 b3 s' hp l D0 As η0 m0 hd Jb bb Jr br;obtain⟨z1,q2,hp⟩:=Akx.1 hp;subst hp;unfold Bo at q2;refine gq AB 3 [b3]<|oB q2 fun x2 q3 q2=>gp AB 3 q3 ?_;obtain rfl:=Akr q2;exact gb bb hd x2 rfl
  ·intro x hx;have hx:=Sum.inl.inj hx;subst hx;exact Akr hm▸gE
  intro y hy;cases hy
def D6 (k0:List (UInt64×UInt64)):Option ((List Az)×(List (UInt64×UInt64))):=Ab (BA ([]:List Az) k0) fun x1=>some (x1.1,x1.2)
theorem Hk {k0 r}(hm:D6 k0=some r):Sp prog 83 [.fn (.func 169) [] [.pb 0 0]] [.box 0 [sl A7 k0] 87] 1 (is (.ow 1) [.box 0 [.d (.sl _ A7 r.2)] 87,.row 1 3 _ AB r.1] 2):=by
 refine sq ?_;intros;refine oB hm fun _ q1 hm=>gco (Sp.nilR [.fn (.func 169) [] [.pb 0 0]] [.box 0 [sl A7 k0] 87] 1 (Ej q1) rfl) ?_;exact Akr hm▸gE
def Q8 (i1:Int)(x9:Az)(s1:UInt64×UInt64):Option (UInt64×UInt64):=Ab (OD x9.root_ s1) fun x10=>some (x10.1,x10.2)
def Ma (a0:List (UInt64×UInt64)):Option (UInt64×UInt64):=Ab (Oe a0) fun x1=>Ab (D6 x1) fun x2=>if((x2.1.length:Int)==0)=true then Ab (Cx (⟨#[101,109,112,116,121]⟩:ByteArray) ([]:List (List UInt8))) fun x3=>some x3 else Ab (Dg x2.1) fun x4=>Ab (idx x4 0) fun x5=>Ab (Ab (cut x4 1 (x4.length:Int)) fun x7=>Ab (Et Q8 x7 0 (x5.root_.1,x5.root_.2)) fun x8=>some (x8.1,x8.2)) fun x6=>some x6
theorem OV {a0 r}(hm:Ma a0=some r):Sf prog 23 [sl A7 a0] (ag (A7 r)):=by
 refine sq ?_;intros;refine gD hm SW fun _ q1 hm=>gD hm Hk fun x2 q2 hm=>gi hm ?_ ?_<;>intro _ hm
 ·refine gA hm EY fun _ q3 hm=> ?_;exact Akr hm▸gE
 refine gD hm FO fun _ q4 hm=>oB hm fun _ q5 hm=>G2 (E:=AB) (fun _=>q5)<|Yg (k:=3) (fo:=1) (nn:=2) (ag:=true) (E:=AB) (fun _=>rfl) (fun _=>q5) ?_;obtain⟨x6,q6,hm⟩:=Ac hm;refine oB q6 fun x7 q7 q6=>gcutF (k:=3) (E:=AB) (fun _=>rfl) q7<|oB q6 fun _ q8 q6=>Jd 0 (E:=AB) (xs:=x7) 21 fun hle1=>gF (E0 _ _ _) q8 (fun p0 (p_0,p_1)=>⟨[(2,.pb 0 0),(4,.pb 2 0),(21,sl AB x7),(22,.d (.i (x7.length:Int))),(23,.d (.i p0))],[(0,.box 2 [.d (.u p_0),.d (.u p_1)] 81),(1,.box 1 [sl A7 x2.2] 87),(2,.box 0 [.d (.u 0),.d (.u 0)] 81)],[],3⟩) fun i1 s1 Jl bl1=>c0 bl1 (fun _ _ q12 q11 bl1=> ?_) fun e=> ?_
 ·exact gx AB 3 q12<|gA q11 RD fun _ q13 q11=>gM bl1 hle1 q11
 subst e;obtain rfl:=Akr q6;exact Akr hm▸gE
def Gu (a0:ByteArray)(a1:ByteArray):Option (ByteArray×ByteArray×Bool):=Ab (CH a0 a1) fun x1=>if(decide (x1≥0))=true then Ab (WX a0 0 x1) fun x2=>Ab (WX a0 (w64 (x1+(a1.size:Int))) (a0.size:Int)) fun x3=>some (x2,x3,true)else some (a0,(⟨#[]⟩:ByteArray),false)
theorem KE {a0 a1 r}(hm:Gu a0 a1=some r):Sf prog 347 [.d (.s a0),.d (.s a1)] (.tup [.d (.s r.1),.d (.s r.2.1),.d (.t r.2.2)]):=by
 refine sq ?_;intros;refine gA hm FJ fun _ q1 hm=>gi hm ?_ ?_<;>intro _ hm
 ·refine oB hm fun _ q2 hm=>WM (fun _=>q2)<|oB hm fun _ q3 hm=>WM (fun _=>q3) ?_;exact Akr hm▸gE
 exact Akr hm▸gE
def Pk (a0:ByteArray)(a1:ByteArray):Option (ByteArray×ByteArray×Bool):=Ab (Gu a0 a1) fun x1=>some (x1.1,x1.2.1,x1.2.2)
theorem T7 {a0 a1 r}(hm:Pk a0 a1=some r):Sf prog 317 [.d (.s a0),.d (.s a1)] (.tup [.d (.s r.1),.d (.s r.2.1),.d (.t r.2.2)]):=by
 refine sq ?_;intros;refine gA hm KE fun _ q1 hm=> ?_;exact Akr hm▸gE
def Qc (a0:ByteArray):Option ByteArray:=Ab (G8 a0) fun x1=>if(!x1)=true then some (⟨#[]⟩:ByteArray)else Ab (Pk a0 (⟨#[46]⟩:ByteArray)) fun x2=>some x2.2.1
theorem Tm {a0 r}(hm:Qc a0=some r):Sf prog 261 [.d (.s a0)] (.d (.s r)):=by
 refine sq ?_;intros;refine gA hm Ln fun _ q1 hm=>gi hm ?_ ?_<;>intro _ hm
 ·exact Akr hm▸gE
 refine gA hm T7 fun _ q2 hm=> ?_;exact Akr hm▸gE
def Pp {σ:Type}(p0:σ→ByteArray→Option (Bool×σ))(s1:ByteArray×σ):Option ((ByteArray×σ)⊕(ByteArray×σ)):=if(!eqS s1.1 (⟨#[]⟩:ByteArray))=true then Ab (p0 s1.2 s1.1) fun x4=>if x4.1=true then Ab (Qc s1.1) fun x5=>some (.inl (x5,x4.2))else some (.inr (s1.1,x4.2))else some (.inr (s1.1,s1.2))
def Ns {σ:Type}(p0:σ→ByteArray→Option (Bool×σ))(k0:ByteArray)(s0:σ):Option (ByteArray×σ):=Ab (Qc k0) fun x1=>Ab (iter (Pp p0) EV (x1,s0)) fun x2=>some (x2.1,x2.2)
theorem RC {σ:Type}{p0:σ→ByteArray→Option (Bool×σ)}{k0 s0 r}(hm:Ns p0 k0 s0=some r)(g:Value)(R:σ→Mem→Ow)(hcb:Aab prog g (fun x=> [.d (.s x)]) R p0):Sp prog 260 [.ow 0,.pb 1 0] [.hp 0 (.cb g σ R s0),.box 1 [.d (.s k0)] 9] 2 (is (.tup []) [.hp 0 (.cb g σ R r.2),.box 1 [.d (.s r.1)] 9] 2):=by
 refine sq fun D0 As η0 m0 hd=>gA hm Tm fun _ q1 hm=>oB hm fun x2 q2 hm=>gjU 0 (fun(_:Unit)=>let (y_0,y_1):=x2; ⟨[],[(0,.box 1 [.d (.s y_0)] 9),(1,.hp 0 (.cb g σ R y_1))],[],2⟩) (fun _=>True) (fun Jp bk1=> ?_) fun _ _=> ?_
 ·refine gI q2 (fun(p_0,p_1)=>⟨[(0,.ow 0),(1,.pb 1 0)],[(0,.box 1 [.d (.s p_0)] 9),(1,.hp 0 (.cb g σ R p_1))],[],2⟩) fun s1 _ Jl q5 bl1=>AhD 7 q5 (fun hc1 q5=> ?_) fun hc1 q5=> ?_
  ·refine oB q5 fun _ q7 q5=>gcb s1.1 hcb q7<|gi q5 ?_ ?_<;>intro _ q5
   ·exact gA q5 Tm fun _ q8 q5=>gN bl1 q5
   obtain rfl:=nR bl1 q5;exact gb bk1 hd () trivial
  refine gi' (b:=false) (fun h=>by cases h) (fun _=> ?_);obtain rfl:=nR bl1 q5;exact gb bk1 hd () trivial
 exact Akr hm▸gE
def Pq (a0:ByteArray):Option ByteArray:=some a0
theorem Uj {a0 r}(hm:Pq a0=some r):Sp prog 173 [.d (.s a0)] [] 0 (is (.fn (.func 260) [] [.pb 0 0]) [.box 0 [.d (.s r)] 9] 1):=by
 refine sq ?_;intros;exact Akr hm▸gE
def I7 (a1:ByteArray)(b5:ByteArray)(s1:(Bool)×Nat):Option ((Bool)×Nat):=if(eqS b5 a1)=true then some (true,1)else some (s1.1,0)
def L9 (a0:ByteArray)(a1:ByteArray):Option Bool:=Ab (Pq a0) fun x1=>Ab (Ns (fun(s:(Bool)×Nat) (b0:ByteArray)=>if s.2=0 then Ab (I7 a1 b0 s) fun y=>some (y.2==0,y)else none) x1 (false,0)) fun x2=>if(x2.2).2=0 then some false else some x2.2.1
theorem Ui {a0 a1 r}(hm:L9 a0 a1=some r):Sf prog 89 [.d (.s a0),.d (.s a1)] (.d (.t r)):=
 spR call89 func89 rfl ntmps89 rfl fun D0 As η0 m0 hD hd=>by
  unfold L9 at hm;refine gD hm Uj fun x1 q1 hm=>oB hm fun x2 q2 hm=>Lb hD (n0:=0) 3 3 [⟨2,2,9,[.d (.s x1)],[.d (.s x2.1)]⟩] (gt:=7) (ps:=[8]) [(3,.pb 0 0),(4,.pb 1 0),(7,.fn (.func 260) [] [.pb 2 0])] (fun(y1:Bool)=> [(0,.box 1 [.d (.t y1)] 4),(1,.box 0 [.d (.s a1)] 9)]) (fun(y1:(Bool)×Nat)=> [(0,.box 1 [.d (.t y1.1)] 4),(1,.box 0 [.d (.s a1)] 9)]) (fun x=> [.d (.s x)]) (fun(s1:Bool) (b5:ByteArray)=>⟨[(3,.pb 0 0),(4,.pb 1 0),(5,.d (.s b5)),(7,.fn (.func 260) [] [.pb 2 0])],[(0,.box 1 [.d (.t s1)] 4),(1,.box 0 [.d (.s a1)] 9)],[],3⟩) (pJ fun x s=>I7 a1 x s) false hd (via fJ hyJ rfl fun g R h=>RC q2 g R h) rfl (fun _=>rfl) (fun _=>rfl) (fun _=>rfl) (fun _=>rfl) ?_ ?_ ?_ ?_
  ·intro s1 b5 s' hp l D0 As η0 m0 hd Ja ba;exact gb ba hd () trivial
  ·intro s1 b5 s' hp l D0 As η0 m0 hd Jb bb Jr br;obtain⟨z1,q3,hp⟩:=Akx.1 hp;subst hp;unfold I7 at q3;dsimp only at q3;refine gi q3 ?_ ?_<;>intro _ q3
   ·obtain rfl:=Akr q3;exact Agc br hd (true,1) rfl
   obtain rfl:=Akr q3;exact gb bb hd s1 rfl
  ·intro x hx;obtain⟨hj1,rfl⟩:=ZM hx;rw[AkA hj1]at hm;exact Akr hm▸gE
  intro y hy;obtain⟨hj1,rfl⟩:=ZL hy;rw[Aky hj1]at hm;exact Akr hm▸gE
def HI (a0:ByteArray)(a1:ByteArray):Option Bool:=Ab (F7 a0) fun x1=>Ab (gu (!(!x1.2.2)) (G8 a1)) fun x2=>if((!x1.2.2)||(!x2))=true then some false else if x1.2.1=true then Ab (L9 a1 x1.1) fun x3=>some x3 else some (eqS x1.1 a1)
theorem Jj {a0 a1 r}(hm:HI a0 a1=some r):Sf prog 24 [.d (.s a0),.d (.s a1)] (.d (.t r)):=by
 refine sq ?_;intros;refine gA hm MU fun _ q1 hm=>oB hm fun _ q2 hm=>gcH q2 Ln<|gi hm ?_ ?_<;>intro _ hm
 ·exact Akr hm▸gE
 refine gi hm ?_ ?_<;>intro _ hm
 ·refine gA hm Ui fun _ q3 hm=> ?_;exact Akr hm▸gE
 exact Akr hm▸gE
def U7:Option Bool:=Ab (E4 ([97]:List UInt8)) fun x1=>Ab (E5 x1) fun x2=>Ab (E4 ([97]:List UInt8)) fun x3=>Ab (Il x3 ([109]:List UInt8)) fun x4=>Ab (Fp 128) fun x5=>Ab (HS x5) fun x6=>Ab (Nr ([97,108,108,111,119,32,119,101,98,32,123,32,42,46,97,59,32,108,105,102,101,32,57,59,32,125]:List UInt8)) fun x7=>Ab (Dk ([120]:List UInt8)) fun x8=>if(((((x2.2==0)&&(x4.2==0))&&(x6.2==0))&&(x7.2.2==0))&&((x2.1.toNat:Int) !=0))=true then Ab (IT x2.1 ([109]:List UInt8) x4.1) fun x9=>Ab (gu (((x9==0)&&(eqS (bs x6.1) (⟨#[2,2,0,128]⟩:ByteArray)))&&((x7.1.length:Int)==1)) (idx x7.1 0)) fun x10=>Ab (gu ((((x9==0)&&(eqS (bs x6.1) (⟨#[2,2,0,128]⟩:ByteArray)))&&((x7.1.length:Int)==1))&&(x10.LifeMax==9)) (Ma ([x8]:List (UInt64×UInt64)))) fun x11=>Ab (gu (((((x9==0)&&(eqS (bs x6.1) (⟨#[2,2,0,128]⟩:ByteArray)))&&((x7.1.length:Int)==1))&&(x10.LifeMax==9))&&(G3 x11 x8)) (HI (⟨#[42,46,97]⟩:ByteArray) (⟨#[120,46,97]⟩:ByteArray))) fun x12=>Ab (gu ((((((x9==0)&&(eqS (bs x6.1) (⟨#[2,2,0,128]⟩:ByteArray)))&&((x7.1.length:Int)==1))&&(x10.LifeMax==9))&&(G3 x11 x8))&&x12) (HI (⟨#[42,46,97]⟩:ByteArray) (⟨#[97]⟩:ByteArray))) fun x13=>bnd ((((((((x9==0)&&(eqS (bs x6.1) (⟨#[2,2,0,128]⟩:ByteArray)))&&((x7.1.length:Int)==1))&&(x10.LifeMax==9))&&(G3 x11 x8))&&x12)&&(!x13))) fun x14=>some x14 else Ab (gu ((false&&(eqS (bs x6.1) (⟨#[2,2,0,128]⟩:ByteArray)))&&((x7.1.length:Int)==1)) (idx x7.1 0)) fun x15=>Ab (gu (((false&&(eqS (bs x6.1) (⟨#[2,2,0,128]⟩:ByteArray)))&&((x7.1.length:Int)==1))&&(x15.LifeMax==9)) (Ma ([x8]:List (UInt64×UInt64)))) fun x16=>Ab (gu ((((false&&(eqS (bs x6.1) (⟨#[2,2,0,128]⟩:ByteArray)))&&((x7.1.length:Int)==1))&&(x15.LifeMax==9))&&(G3 x16 x8)) (HI (⟨#[42,46,97]⟩:ByteArray) (⟨#[120,46,97]⟩:ByteArray))) fun x17=>Ab (gu (((((false&&(eqS (bs x6.1) (⟨#[2,2,0,128]⟩:ByteArray)))&&((x7.1.length:Int)==1))&&(x15.LifeMax==9))&&(G3 x16 x8))&&x17) (HI (⟨#[42,46,97]⟩:ByteArray) (⟨#[97]⟩:ByteArray))) fun x18=>bnd (((((((false&&(eqS (bs x6.1) (⟨#[2,2,0,128]⟩:ByteArray)))&&((x7.1.length:Int)==1))&&(x15.LifeMax==9))&&(G3 x16 x8))&&x17)&&(!x18))) fun x19=>some x19
theorem AeM {r}(hm:U7=some r):Sf prog 4 [] (.d (.t r)):=by
 refine sq ?_;intros;refine TN (k:=1) eB ([97]:List UInt8) (fun _=>rfl)<|oB hm fun _ q1 hm=>gco (Sp.lend (os:=[.row 0 1 _ eB ([97]:List UInt8)]) (n1:=1) (Jh q1) (.cons (.row (.head _)) .nil) (by kernel_rfl))<|gA hm Ji fun _ q2 hm=>TN (k:=1) eB ([97]:List UInt8) (fun _=>rfl)<|oB hm fun _ q3 hm=>gco (Sp.lend (os:=[.row 0 1 _ eB ([97]:List UInt8)]) (n1:=1) (Jh q3) (.cons (.row (.head _)) .nil) (by kernel_rfl))<|TN (k:=1) eB ([109]:List UInt8) (fun _=>rfl)<|gD hm Ol fun _ q4 hm=>gA hm II fun _ q5 hm=>gA hm AdL fun x6 q6 hm=> ?_;refine TN (k:=1) eB ([97,108,108,111,119,32,119,101,98,32,123,32,42,46,97,59,32,108,105,102,101,32,57,59,32,125]:List UInt8) (fun _=>rfl)<|gD hm VI fun _ q7 hm=>TN (k:=1) eB ([120]:List UInt8) (fun _=>rfl)<|gD hm Jk fun x8 q8 hm=>AhD 60 hm (fun hc1 hm=> ?_) fun hc1 hm=> ?_
 ·refine TN (k:=1) eB ([109]:List UInt8) (fun _=>rfl)<|oB hm fun _ q9 hm=>gco (Sp.lend (os:=[.row 0 1 _ eB ([109]:List UInt8)]) (n1:=1) (Qy q9) (.cons (.same (by kernel_rfl)) (.cons (.row (.head _)) (.cons (.same (by kernel_rfl)) .nil))) (by kernel_rfl))<|gbs (xs:=x6.1)<|oB hm fun _ q10 hm=>gxG Ah 7 q10<|gq A7 2 [x8]<|oB hm fun _ q11 hm=>gcH q11 OV<|oB hm fun _ q12 hm=>gcH q12 Jj<|oB hm fun _ q13 hm=>gcH q13 Jj<|bE hm ?_;intro _ hm;exact Akr hm▸gE
 refine gbs (xs:=x6.1)<|oB hm fun _ q15 hm=>gxG Ah 7 q15<|gq A7 2 [x8]<|oB hm fun _ q16 hm=>gcH q16 OV<|oB hm fun _ q17 hm=>gcH q17 Jj<|oB hm fun _ q18 hm=>gcH q18 Jj<|bE hm ?_;intro _ hm;exact Akr hm▸gE
def I3 (i1:Int)(x2:ByteArray)(s1:Int):Option ((Int)⊕Bool):=if(decide ((w64 (s1+(x2.size:Int)))>1000))=true then some (.inr false)else some (.inl (w64 (s1+(x2.size:Int))))
def Jo (a0:Ba):Option Bool:=Ab (D1 I3 a0.Names 0 0) fun x1=>match x1 with| .inr r=>some r| .inl y1=>bnd ((decide ((a0.Names.length:Int)≤20))) fun x3=>some x3
theorem T6 {a0 r}(hm:Jo a0=some r):Sf prog 5 [ag (FA a0)] (.d (.t r)):=by
 refine sq ?_;intros;refine oB hm fun _ q1 hm=>Jd 0 (E:=eS) (xs:=a0.Names) 7 fun hle1=>gF (ER _ _ _) q1 (fun p0 p=>⟨[(1,.pb 0 0),(3,.d (.i p)),(7,sl eS a0.Names),(8,.d (.i (a0.Names.length:Int))),(9,.d (.i p0))],[(0,.box 0 [.d (.i a0.Account),sl eS a0.Names,.d (.u a0.Key),.d (.i a0.Life)] 26)],[],1⟩) fun i1 s1 Jl bl1=>cR bl1 (fun _ _ q5 q4 bl1=> ?_) fun e=> ?_
 ·refine gx eS 1 q5<|gi q4 ?_ ?_<;>intro _ q4
  ·obtain rfl:=nT bl1 q4;exact Akr hm▸gE
  exact gT bl1 hle1 q4
 subst e;let y1:=s1;refine bE hm ?_;intro _ hm;exact Akr hm▸gE
def GJ (a0:Int):Option Bool:=bnd (((decide ((0:Int)≤a0))&&(decide (a0≤1099511627776)))) fun x1=>some x1
theorem N7 {a0 r}(hm:GJ a0=some r):Sf prog 30 [.d (.i a0)] (.d (.t r)):=by
 refine sq ?_;intros;refine bE hm ?_;intro _ hm;exact Akr hm▸gE
def B7 (a0:List ByteArray):Option (List ByteArray):=Ab (app 16 ([]:List ByteArray) a0) fun x1=>some x1
theorem Jg {a0 r}(hm:B7 a0=some r):Sp prog 31 [sl eS a0] [] 0 (is (.ow 0) [.row 0 1 _ eS r] 1):=by
 refine sq ?_;intros;unfold B7 at hm;refine gnq eS a0 (fun he1=> ?_) ?_
 ·rw[he1]at hm;replace hm:(some ([]:List ByteArray))=some _:=hm;refine OE eS 2 1 ?_;exact Akr hm▸gE
 refine TN (k:=1) eS ([]:List ByteArray) (fun _=>rfl)<|oB hm fun _ q1 hm=>gp eS 1 q1 ?_;exact Akr hm▸gE
def Fc (a0:Int):Option Bool:=bnd (((decide (a0≥0))&&(decide (a0≤1099511627776)))) fun x1=>some x1
theorem Hr {a0 r}(hm:Fc a0=some r):Sf prog 186 [.d (.i a0)] (.d (.t r)):=by
 refine sq ?_;intros;refine bE hm ?_;intro _ hm;exact Akr hm▸gE
def HT (a0:g_api_Sig):Option Bool:=bnd ((decide (((P9 a0.E a0.S).toNat:Int)<1152921504606845789))) fun x1=>some x1
theorem O3 {a0 r}(hm:HT a0=some r):Sf prog 188 [ag (PI a0)] (.d (.t r)):=by
 refine sq ?_;intros;refine bE hm ?_;intro _ hm;exact Akr hm▸gE
def BT (a0:List UInt64)(s1:UInt64×Int):Option ((UInt64×Int)⊕(UInt64)):=if(decide (s1.2<(a0.length:Int)))=true then Ab (idx a0 s1.2) fun x6=>some (.inl ((P9 s1.1 x6),(w64 (s1.2+1))))else some (.inr s1.1)
def C1 (a0:List UInt64):Option UInt64:=Ab (if(decide ((a0.length:Int)<1))=true then none else some ()) fun x1=>Ab (idx a0 0) fun x2=>Ab (Ab (iter (BT a0) EV (x2,1)) fun x4=>some x4) fun x3=>some x3
theorem KC {a0 r}(hm:C1 a0=some r):Sf prog 272 [sl eU a0] (.d (.u r)):=by
 refine sq ?_;intros;refine oB hm fun _ q1 hm=>gi q1 (fun hc1 q1=> ?_) fun hc1 q1=> ?_
 ·cases q1
 obtain rfl:=Akr q1;refine oB hm fun _ q2 hm=>gx eU 1 q2 ?_;obtain⟨x3,q3,hm⟩:=Ac hm;refine oB q3 fun x4 q4 q3=>gI q4 (fun(p_0,p_1)=>⟨[(0,sl eU a0),(3,.d (.u p_0)),(4,.d (.i p_1))],[],[],0⟩) fun s1 _ Jl q7 bl1=>gi q7 ?_ ?_<;>intro _ q7
 ·exact oB q7 fun _ q9 q7=>gx eU 1 q9<|gN bl1 q7
 obtain rfl:=nR bl1 q7;let x4:=s1.1;obtain rfl:=Akr q3;exact Akr hm▸gE
def HU (a0:g_api_Promise):Option Bool:=Ab (Fc a0.Log) fun x1=>Ab (gu x1 (Fc a0.At)) fun x2=>Ab (gu (x1&&x2) (C1 ([a0.Leaf.1,a0.Leaf.2]:List UInt64))) fun x3=>Ab (gu ((x1&&x2)&&(decide ((x3.toNat:Int)<2305843009213693951))) (HT a0.Sig)) fun x4=>bnd ((((x1&&x2)&&(decide ((x3.toNat:Int)<2305843009213693951)))&&x4)) fun x5=>some x5
theorem RM {a0 r}(hm:HU a0=some r):Sf prog 185 [ag (Ae a0)] (.d (.t r)):=by
 refine sq ?_;intros;refine AaJ 1 [.i a0.Log,.i a0.At,.u a0.Leaf.1,.u a0.Leaf.2,.u a0.Sig.E,.u a0.Sig.S]<|gA hm Hr fun _ q1 hm=>oB hm fun _ q2 hm=>gcH q2 Hr<|gslM (k:=1) (E:=eU) ([a0.Leaf.1,a0.Leaf.2]:List UInt64) (fun _=>rfl)<|oB hm fun _ q3 hm=>gcH q3 KC<|oB hm fun _ q4 hm=>gcH q4 O3<|bE hm ?_;intro _ hm;exact Akr hm▸gE
def Mj (a0:Int):Option Bool:=bnd (((decide (a0≤32))||(decide (a0>126)))) fun x1=>some x1
theorem Uu {a0 r}(hm:Mj a0=some r):Sf prog 273 [.d (.r a0)] (.d (.t r)):=by
 refine sq ?_;intros;refine bE hm ?_;intro _ hm;exact Akr hm▸gE
def DR (a0:ByteArray)(a2:Bool)(s1:Nat):Option ((Nat)⊕((Nat)⊕Int)):=if s1<a0.size then bnd (((Utf8.decode a0 s1).1:Int)) fun x3=>Ab (Mj x3) fun x4=>if(x4==a2)=true then some (.inr (.inr (s1:Int)))else some (.inl (s1+(Utf8.decode a0 s1).2))else some (.inr (.inl s1))
def Dp (a0:ByteArray)(a2:Bool):Option Int:=Ab (iter (DR a0 a2) EV 0) fun x1=>match x1 with| .inr r=>some r| .inl y1=>some (-1)
theorem Lj {a0 a2 r}(hm:Dp a0 a2=some r):Sf prog 358 [.d (.s a0),.fn (.func 273) [] [],.d (.t a2)] (.d (.i r)):=by
 refine sq ?_;intros;refine grng a0<|oB hm fun _ q1 hm=>gI q1 (fun p=>⟨[(1,.fn (.func 273) [] []),(2,.d (.t a2)),(10,.ow 0)],[(0,.hp 0 (.it a0 p))],[],1⟩) fun s1 _ Jl q4 bl1=>gnx q4 (fun hc1 q4=> ?_) fun hc1 q4=> ?_
 ·refine gi' (b:=true) (fun _=> ?_) (fun h=>by cases h);refine bE q4 ?_;intro _ q4;refine gA q4 Uu fun _ q7 q4=>gi q4 ?_ ?_<;>intro _ q4
  ·obtain rfl:=nR bl1 q4;exact Akr hm▸gE
  exact gN bl1 q4
 refine gi' (b:=false) (fun h=>by cases h) (fun _=> ?_);obtain rfl:=nR bl1 q4;let y1:=s1;exact Akr hm▸gE
def ED (a0:ByteArray):Option Int:=Ab (Dp a0 true) fun x1=>some x1
theorem Lk {a0 r}(hm:ED a0=some r):Sf prog 322 [.d (.s a0),.fn (.func 273) [] []] (.d (.i r)):=by
 refine sq ?_;intros;refine gA hm Lj fun _ q1 hm=> ?_;exact Akr hm▸gE
def DS (a0:ByteArray):Option Bool:=Ab (ED a0) fun x1=>some (decide (x1≥0))
theorem JT {a0 r}(hm:DS a0=some r):Sf prog 274 [.d (.s a0),.fn (.func 273) [] []] (.d (.t r)):=by
 refine sq ?_;intros;refine gA hm Lk fun _ q1 hm=> ?_;exact Akr hm▸gE
def Fb (a0:ByteArray):Option Bool:=Ab (gu ((!eqS a0 (⟨#[]⟩:ByteArray))&&(decide ((a0.size:Int)≤64))) (DS a0)) fun x1=>bnd ((((!eqS a0 (⟨#[]⟩:ByteArray))&&(decide ((a0.size:Int)≤64)))&&(!x1))) fun x2=>some x2
theorem RL {a0 r}(hm:Fb a0=some r):Sf prog 187 [.d (.s a0)] (.d (.t r)):=by
 refine sq ?_;intros;refine oB hm fun _ q1 hm=>gcH q1 JT<|bE hm ?_;intro _ hm;exact Akr hm▸gE
def D7 (a0:ByteArray):Option Int:=Ab (G8 a0) fun x1=>Ab (G7 x1) fun x2=>some x2
theorem OU {a0 r}(hm:D7 a0=some r):Sf prog 190 [.d (.s a0)] (.d (.i r)):=by
 refine sq ?_;intros;refine gA hm Ln fun _ q1 hm=>gA hm QB fun _ q2 hm=> ?_;exact Akr hm▸gE
def Kr (i1:Int)(x2:ByteArray)(s1:(List (ByteArray×Bool))):Option (((List (ByteArray×Bool)))⊕Bool):=Ab (gu (!(lkB s1 x2)) (CQ x2)) fun x3=>if((lkB s1 x2)||(x3 !=0))=true then some (.inr false)else if(lkI s1 x2 0).isNone=true then some (.inl (s1++[(x2,true)]))else none
def GS (a0:List ByteArray)(a1:Int)(a2:Int):Option Bool:=Ab (D1 Kr a0 0 ([]:List (ByteArray×Bool))) fun x1=>match x1 with| .inr r=>some r| .inl y1=>bnd (((decide ((a0.length:Int)≥a1))&&(decide ((a0.length:Int)≤a2)))) fun x4=>some x4
theorem QY {a0 a1 a2 r}(hm:GS a0 a1 a2=some r):Sf prog 189 [sl eS a0,.d (.i a1),.d (.i a2),.fn (.func 162) [] []] (.d (.t r)):=by
 refine sq ?_;intros;refine gmkm<|oB hm fun _ q1 hm=>Jd 0 (E:=eS) (xs:=a0) 13 fun hle1=>gF (ER _ _ _) q1 (fun p0 p=>⟨[(0,sl eS a0),(1,.d (.i a1)),(2,.d (.i a2)),(3,.fn (.func 162) [] []),(9,.ow 0),(13,sl eS a0),(14,.d (.i (a0.length:Int))),(15,.d (.i p0)),(12,.ow 0)],[(0,.hp 0 (.mp p))],[],1⟩) fun i1 s1 Jl bl1=>cR bl1 (fun x2 _ q5 q4 bl1=> ?_) fun e=> ?_
 ·refine gx eS 1 q5<|glk s1 x2<|oB q4 fun _ q6 q4=>gcH q6 JW<|gi q4 ?_ ?_<;>intro _ q4
  ·obtain rfl:=nT bl1 q4;exact Akr hm▸gE
  obtain⟨q7,q4⟩:=BY q4;exact gup q7<|gT bl1 hle1 q4
 subst e;let y1:=s1;refine bE hm ?_;intro _ hm;exact Akr hm▸gE
def Kq (i1:Int)(x2:ByteArray)(s1:(List (ByteArray×Bool))):Option (((List (ByteArray×Bool)))⊕Bool):=Ab (gu (!(lkB s1 x2)) (D7 x2)) fun x3=>if((lkB s1 x2)||(x3 !=0))=true then some (.inr false)else if(lkI s1 x2 0).isNone=true then some (.inl (s1++[(x2,true)]))else none
def GP (a0:List ByteArray)(a1:Int)(a2:Int):Option Bool:=Ab (D1 Kq a0 0 ([]:List (ByteArray×Bool))) fun x1=>match x1 with| .inr r=>some r| .inl y1=>bnd (((decide ((a0.length:Int)≥a1))&&(decide ((a0.length:Int)≤a2)))) fun x4=>some x4
theorem QX {a0 a1 a2 r}(hm:GP a0 a1 a2=some r):Sf prog 189 [sl eS a0,.d (.i a1),.d (.i a2),.fn (.func 190) [] []] (.d (.t r)):=by
 refine sq ?_;intros;refine gmkm<|oB hm fun _ q1 hm=>Jd 0 (E:=eS) (xs:=a0) 13 fun hle1=>gF (ER _ _ _) q1 (fun p0 p=>⟨[(0,sl eS a0),(1,.d (.i a1)),(2,.d (.i a2)),(3,.fn (.func 190) [] []),(9,.ow 0),(13,sl eS a0),(14,.d (.i (a0.length:Int))),(15,.d (.i p0)),(12,.ow 0)],[(0,.hp 0 (.mp p))],[],1⟩) fun i1 s1 Jl bl1=>cR bl1 (fun x2 _ q5 q4 bl1=> ?_) fun e=> ?_
 ·refine gx eS 1 q5<|glk s1 x2<|oB q4 fun _ q6 q4=>gcH q6 OU<|gi q4 ?_ ?_<;>intro _ q4
  ·obtain rfl:=nT bl1 q4;exact Akr hm▸gE
  obtain⟨q7,q4⟩:=BY q4;exact gup q7<|gT bl1 hle1 q4
 subst e;let y1:=s1;refine bE hm ?_;intro _ hm;exact Akr hm▸gE
def D4 (i1:Int)(x2:g_api_Promise)(s1:Int):Option ((Int)⊕Bool):=Ab (HU x2) fun x3=>if((!x3)||(decide (x2.Log≤s1)))=true then some (.inr false)else some (.inl x2.Log)
def JF (a0:Ag):Option Bool:=Ab (D1 D4 a0.Proms 0 (-1)) fun x1=>match x1 with| .inr r=>some r| .inl y1=>Ab (Fc a0.Serial) fun x4=>Ab (gu (!(!x4)) (Fc a0.From)) fun x5=>Ab (gu (!((!x4)||(!x5))) (Fc a0.Until)) fun x6=>bnd (((((!x4)||(!x5))||(!x6))||(decide (a0.From≥a0.Until)))) fun x7=>if x7=true then some false else Ab (Fb a0.Issuer) fun x8=>Ab (gu (!((((!x8)||((a0.Key.toNat:Int)==0))||(decide ((a0.Key.toNat:Int)≥2305843009213691579)))||(decide ((a0.Proms.length:Int)>4)))) (HT a0.Sig)) fun x9=>bnd ((((((!x8)||((a0.Key.toNat:Int)==0))||(decide ((a0.Key.toNat:Int)≥2305843009213691579)))||(decide ((a0.Proms.length:Int)>4)))||(!x9))) fun x10=>if x10=true then some false else if a0.Ca=true then Ab (Fb a0.Subject) fun x11=>Ab (gu (((x11&&((a0.Names.length:Int)==0))&&(decide (a0.Depth≥0)))&&(decide (a0.Depth≤4))) (GS a0.Permit 0 8)) fun x12=>bnd (((((x11&&((a0.Names.length:Int)==0))&&(decide (a0.Depth≥0)))&&(decide (a0.Depth≤4)))&&x12)) fun x13=>some x13 else Ab (gu (eqS a0.Subject (⟨#[]⟩:ByteArray)) (GP a0.Names 1 8)) fun x14=>bnd (((((eqS a0.Subject (⟨#[]⟩:ByteArray))&&x14)&&(a0.Depth==0))&&((a0.Permit.length:Int)==0))) fun x15=>some x15
theorem Uv {a0 r}(hm:JF a0=some r):Sf prog 100 [ag (B1 a0)] (.d (.t r)):=by
 refine sq ?_;intros;refine oB hm fun _ q1 hm=>Jd 0 (E:=Ae) (xs:=a0.Proms) 7 fun hle1=>gF (ER _ _ _) q1 (fun p0 p=>⟨[(1,.pb 0 0),(3,.d (.i p)),(7,sl Ae a0.Proms),(8,.d (.i (a0.Proms.length:Int))),(9,.d (.i p0))],[(0,.box 0 [.d (.i a0.Serial),.d (.s a0.Issuer),.d (.s a0.Subject),.d (.u a0.Key),sl eS a0.Names,.d (.i a0.From),.d (.i a0.Until),.d (.t a0.Ca),.d (.i a0.Depth),sl eS a0.Permit,sl Ae a0.Proms,.d (.u a0.Sig.E),.d (.u a0.Sig.S)] 43)],[],1⟩) fun i1 s1 Jl bl1=>cR bl1 (fun _ _ q5 q4 bl1=> ?_) fun e=> ?_
 ·refine gx Ae 6 q5<|gA q4 RM fun _ q6 q4=>gi q4 ?_ ?_<;>intro _ q4
  ·obtain rfl:=nT bl1 q4;exact Akr hm▸gE
  exact gT bl1 hle1 q4
 subst e;let y1:=s1;refine gA hm Hr fun _ q7 hm=>oB hm fun _ q8 hm=>gcH q8 Hr<|oB hm fun _ q9 hm=>gcH q9 Hr<|bE hm ?_;intro _ hm;refine gi hm ?_ ?_<;>intro _ hm
 ·exact Akr hm▸gE
 refine gA hm RL fun _ q11 hm=>oB hm fun _ q12 hm=>gcH q12 O3<|bE hm ?_;intro _ hm;refine gi hm ?_ ?_<;>intro _ hm
 ·exact Akr hm▸gE
 refine gi hm ?_ ?_<;>intro _ hm
 ·refine gA hm RL fun _ q14 hm=>oB hm fun _ q15 hm=>gcH q15 QY<|bE hm ?_;intro _ hm;exact Akr hm▸gE
 refine oB hm fun _ q17 hm=>gcH q17 QX<|bE hm ?_;intro _ hm;exact Akr hm▸gE
def AO (a0:List g_api_Item):Option (List g_api_Item):=Ab (app 56 ([]:List g_api_Item) a0) fun x1=>some x1
theorem Eo {a0 r}(hm:AO a0=some r):Sp prog 207 [sl Ad a0] [] 0 (is (.ow 0) [.row 0 3 _ Ad r] 1):=by
 refine sq ?_;intros;unfold AO at hm;refine gnq Ad a0 (fun he1=> ?_) ?_
 ·rw[he1]at hm;replace hm:(some ([]:List g_api_Item))=some _:=hm;refine OE Ad 2 3 ?_;exact Akr hm▸gE
 refine TN (k:=3) Ad ([]:List g_api_Item) (fun _=>rfl)<|oB hm fun _ q1 hm=>gp Ad 3 q1 ?_;exact Akr hm▸gE
def GM (a0:List g_api_Item):Option g_api_Item:=Ab (AO a0) fun x1=>some (⟨48,[],x1⟩:g_api_Item)
theorem JY {a0 r}(hm:GM a0=some r):Sf prog 114 [sl Ad a0] (ag (Ad r)):=by
 refine sq ?_;intros;refine gD hm Eo fun _ q1 hm=> ?_;exact Akr hm▸gE
def Fx (a0:UInt64):Option g_api_Item:=Ab (Fp (w64 (a0.toNat:Int))) fun x1=>some x1
theorem Ih {a0 r}(hm:Fx a0=some r):Sf prog 117 [.d (.u a0)] (ag (Ad r)):=by
 refine sq ?_;intros;refine gA hm II fun _ q1 hm=> ?_;exact Akr hm▸gE
def JN (a0:ByteArray):Option g_api_Item:=Ab (app 1 ([]:List UInt8) a0.data.toList) fun x1=>some (⟨12,x1,[]⟩:g_api_Item)
theorem PX {a0 r}(hm:JN a0=some r):Sf prog 191 [.d (.s a0)] (ag (Ad r)):=by
 refine sq ?_;intros;refine oB hm fun _ q1 hm=>gofS q1 ?_;exact Akr hm▸gE
def Qd (a0:Bool):Option g_api_Item:=Ab (if a0=true then Ab (idx ([0]:List UInt8) 0) fun x2=>bnd (([0]:List UInt8).set (0:Int).toNat 255) fun x3=>some x3 else some ([0]:List UInt8)) fun x1=>some (⟨1,x1,[]⟩:g_api_Item)
theorem Aam {a0 r}(hm:Qd a0=some r):Sf prog 193 [.d (.t a0)] (ag (Ad r)):=by
 refine sq fun D0 As η0 m0 hd=>TN (k:=1) eB ([0]:List UInt8) (fun _=>rfl)<|oB hm fun x1 q1 hm=>gj (fun(_:Unit)=>⟨[(2,.pb 0 0),(3,.ow 1)],[(0,.row 1 1 _ eB x1),(1,.box 0 [.d (.i 0),sl eB [],sl Ad []] 76)],[],2⟩) (fun _=>True) (fun Jp bk1=> ?_) fun _ _=> ?_
 ·refine gi q1 ?_ ?_<;>intro _ q1
  ·refine oB q1 fun _ q2 q1=>G2 (E:=eB) (fun _=>q2)<|bE q1 ?_;intro _ q1;refine Abc (k:=1) (E:=eB) 255 (fun _=>rfl) q2 ?_;obtain rfl:=Akr q1;exact gb bk1 hd () trivial
  obtain rfl:=Akr q1;exact gb bk1 hd () trivial
 exact Akr hm▸gE
def Cv (i1:Int)(x3:ByteArray)(s1:(List g_api_Item)):Option ((List g_api_Item)):=Ab (JN x3) fun x4=>Ab (app 56 s1 ([x4]:List g_api_Item)) fun x5=>some x5
def Cn (a0:List ByteArray):Option g_api_Item:=Ab (Ab (Et Cv a0 0 ([]:List g_api_Item)) fun x2=>some x2) fun x1=>Ab (GM x1) fun x6=>some x6
theorem H8 {a0 r}(hm:Cn a0=some r):Sf prog 192 [sl eS a0,.fn (.func 191) [] []] (ag (Ad r)):=by
 refine sq ?_;intros;unfold Cn at hm;obtain⟨x1,q1,hm⟩:=Ac hm;refine oB q1 fun _ q2 q1=>Sj 0 Ad 5 3<|Jd 0 (E:=eS) (xs:=a0) 8 fun hle1=>gF (E0 _ _ _) q2 (fun p0 p=>⟨[(1,.fn (.func 191) [] []),(4,.pb 0 0),(5,.ow 1),(8,sl eS a0),(9,.d (.i (a0.length:Int))),(10,.d (.i p0))],[(0,.row 1 3 _ Ad p),(1,.box 0 [.d (.i 0),sl eB [],sl Ad []] 76)],[],2⟩) fun i1 s1 Jl bl1=>c0 bl1 (fun _ _ q6 q5 bl1=> ?_) fun e=> ?_
 ·exact gx eS 1 q6<|gA q5 PX fun x4 q7 q5=>gq Ad 3 [x4]<|oB q5 fun _ q8 q5=>gp Ad 3 q8<|gM bl1 hle1 q5
 subst e;obtain rfl:=Akr q1;refine gD hm JY fun _ q9 hm=> ?_;exact Akr hm▸gE
def LD (a0:Ag):Option g_api_Item:=Ab (Fp a0.Serial) fun x1=>Ab (JN a0.Issuer) fun x2=>Ab (JN a0.Subject) fun x3=>Ab (Fx a0.Key) fun x4=>Ab (Cn a0.Names) fun x5=>Ab (Fp a0.From) fun x6=>Ab (Fp a0.Until) fun x7=>Ab (Qd a0.Ca) fun x8=>Ab (Fp a0.Depth) fun x9=>Ab (Cn a0.Permit) fun x10=>Ab (GM ([x1,x2,x3,x4,x5,x6,x7,x8,x9,x10]:List g_api_Item)) fun x11=>some x11
theorem Tq {a0 r}(hm:LD a0=some r):Sf prog 102 [ag (B1 a0)] (ag (Ad r)):=by
 refine sq ?_;intros;refine gA hm II fun x1 q1 hm=>gA hm PX fun x2 q2 hm=>gA hm PX fun x3 q3 hm=>gA hm Ih fun x4 q4 hm=>gA hm H8 fun x5 q5 hm=>gA hm II fun x6 q6 hm=>gA hm II fun x7 q7 hm=>gA hm Aam fun x8 q8 hm=>gA hm II fun x9 q9 hm=> ?_;refine gA hm H8 fun x10 q10 hm=>gq Ad 3 [x1,x2,x3,x4,x5,x6,x7,x8,x9,x10]<|gA hm JY fun _ q11 hm=> ?_;exact Akr hm▸gE
def JG (a0:g_api_Promise):Option g_api_Item:=Ab (Fp a0.Log) fun x1=>Ab (Fp a0.At) fun x2=>Ab (Fx a0.Leaf.1) fun x3=>Ab (Fx a0.Leaf.2) fun x4=>Ab (Fx a0.Sig.E) fun x5=>Ab (Fx a0.Sig.S) fun x6=>Ab (GM ([x1,x2,x3,x4,x5,x6]:List g_api_Item)) fun x7=>some x7
theorem Uw {a0 r}(hm:JG a0=some r):Sf prog 116 [ag (Ae a0)] (ag (Ad r)):=by
 refine sq ?_;intros;refine gA hm II fun x1 q1 hm=>gA hm II fun x2 q2 hm=>gA hm Ih fun x3 q3 hm=>gA hm Ih fun x4 q4 hm=>gA hm Ih fun x5 q5 hm=>gA hm Ih fun x6 q6 hm=>gq Ad 3 [x1,x2,x3,x4,x5,x6]<|gA hm JY fun _ q7 hm=> ?_;exact Akr hm▸gE
def BO (i1:Int)(x3:g_api_Promise)(s1:(List g_api_Item)):Option ((List g_api_Item)):=Ab (JG x3) fun x4=>Ab (app 56 s1 ([x4]:List g_api_Item)) fun x5=>some x5
def Ce (a0:List g_api_Promise):Option g_api_Item:=Ab (Ab (Et BO a0 0 ([]:List g_api_Item)) fun x2=>some x2) fun x1=>Ab (GM x1) fun x6=>some x6
theorem JZ {a0 r}(hm:Ce a0=some r):Sf prog 115 [sl Ae a0,.fn (.func 116) [] []] (ag (Ad r)):=by
 refine sq ?_;intros;unfold Ce at hm;obtain⟨x1,q1,hm⟩:=Ac hm;refine oB q1 fun _ q2 q1=>Sj 0 Ad 5 3<|Jd 0 (E:=Ae) (xs:=a0) 8 fun hle1=>gF (E0 _ _ _) q2 (fun p0 p=>⟨[(1,.fn (.func 116) [] []),(4,.pb 0 0),(5,.ow 1),(8,sl Ae a0),(9,.d (.i (a0.length:Int))),(10,.d (.i p0))],[(0,.row 1 3 _ Ad p),(1,.box 0 [.d (.i 0),sl eB [],sl Ad []] 76)],[],2⟩) fun i1 s1 Jl bl1=>c0 bl1 (fun _ _ q6 q5 bl1=> ?_) fun e=> ?_
 ·exact gx Ae 6 q6<|gA q5 Uw fun x4 q7 q5=>gq Ad 3 [x4]<|oB q5 fun _ q8 q5=>gp Ad 3 q8<|gM bl1 hle1 q5
 subst e;obtain rfl:=Akr q1;refine gD hm JY fun _ q9 hm=> ?_;exact Akr hm▸gE
def Ks (a0:Ag):Option g_api_Item:=Ab (LD a0) fun x1=>Ab (Ce a0.Proms) fun x2=>Ab (GM ([x1,x2]:List g_api_Item)) fun x3=>some x3
theorem RO {a0 r}(hm:Ks a0=some r):Sf prog 41 [ag (B1 a0)] (ag (Ad r)):=by
 refine sq ?_;intros;refine gA hm Tq fun x1 q1 hm=>gA hm JZ fun x2 q2 hm=>gq Ad 3 [x1,x2]<|gA hm JY fun _ q3 hm=> ?_;exact Akr hm▸gE
def K0 (a0:Ag):Option g_api_Item:=Ab (Ks a0) fun x1=>Ab (Fx a0.Sig.E) fun x2=>Ab (Fx a0.Sig.S) fun x3=>Ab (GM ([x2,x3]:List g_api_Item)) fun x4=>Ab (GM ([x1,x4]:List g_api_Item)) fun x5=>some x5
theorem VX {a0 r}(hm:K0 a0=some r):Sf prog 101 [ag (B1 a0)] (ag (Ad r)):=by
 refine sq ?_;intros;refine gA hm RO fun x1 q1 hm=>gA hm Ih fun x2 q2 hm=>gA hm Ih fun x3 q3 hm=>gq Ad 3 [x2,x3]<|gA hm JY fun x4 q4 hm=>gq Ad 3 [x1,x4]<|gA hm JY fun _ q5 hm=> ?_;exact Akr hm▸gE
def Eb (a0:Ag):Option Int:=Ab (JF a0) fun x1=>if(!x1)=true then some 1 else Ab (K0 a0) fun x2=>Ab (HS x2) fun x3=>if((x3.2 !=0)||(decide ((x3.1.length:Int)>2048)))=true then some 2 else some 0
theorem IK {a0 r}(hm:Eb a0=some r):Sf prog 32 [ag (B1 a0)] (.d (.i r)):=by
 refine sq ?_;intros;refine gA hm Uv fun _ q1 hm=>gi hm ?_ ?_<;>intro _ hm
 ·exact Akr hm▸gE
 refine gA hm VX fun _ q2 hm=>gD hm O1 fun _ q3 hm=>gi hm ?_ ?_<;>intro _ hm
 ·exact Akr hm▸gE
 exact Akr hm▸gE
def HN (a0:Ba)(a1:Int)(a2:Int)(a3:ByteArray):Option (Ag×Int):=Ab (GJ a2) fun x1=>Ab (gu (!(!x1)) (GJ a0.Life)) fun x2=>if((!x1)||(!x2))=true then some ((⟨0,ByteArray.empty,ByteArray.empty,0,[],0,0,false,0,[],[],(⟨0,0⟩:g_api_Sig)⟩:Ag),1)else Ab (B7 a0.Names) fun x3=>Ab (Eb (⟨a1,a3,ByteArray.empty,a0.Key,x3,a2,(w64 (a2+a0.Life)),false,0,[],[],(⟨0,0⟩:g_api_Sig)⟩:Ag)) fun x4=>if(x4 !=0)=true then some ((⟨0,ByteArray.empty,ByteArray.empty,0,[],0,0,false,0,[],[],(⟨0,0⟩:g_api_Sig)⟩:Ag),x4)else some ((⟨a1,a3,ByteArray.empty,a0.Key,x3,a2,(w64 (a2+a0.Life)),false,0,[],[],(⟨0,0⟩:g_api_Sig)⟩:Ag),x4)
theorem OZ {a0 a1 a2 a3 r}(hm:HN a0 a1 a2 a3=some r):Sf prog 7 [ag (FA a0),.d (.i a1),.d (.i a2),.d (.s a3)] (.tup [ag (B1 r.1),.d (.i r.2)]):=by
 refine sq ?_;intros;refine gA hm N7 fun _ q1 hm=>oB hm fun _ q2 hm=>gcH q2 N7<|gi hm ?_ ?_<;>intro _ hm
 ·exact Akr hm▸gE
 refine gD hm Jg fun _ q3 hm=>gD hm IK fun _ q4 hm=>gi hm ?_ ?_<;>intro _ hm
 ·exact Akr hm▸gE
 exact Akr hm▸gE
def It (a0:Ag):Option ((List UInt8)×Int):=Ab (Eb a0) fun x1=>if(x1 !=0)=true then some (([]:List UInt8),x1)else Ab (LD a0) fun x2=>Ab (HS x2) fun x3=>some (x3.1,x3.2)
theorem P0 {a0 r}(hm:It a0=some r):Sp prog 40 [ag (B1 a0),.fn (.func 102) [] []] [] 0 (is (.tup [.ow 0,.d (.i r.2)]) [.row 0 1 _ eB r.1] 1):=by
 refine sq ?_;intros;refine gA hm IK fun _ q1 hm=>gi hm ?_ ?_<;>intro _ hm
 ·refine OE eB 4 1 ?_;exact Akr hm▸gE
 refine gA hm Tq fun _ q2 hm=>gD hm O1 fun _ q3 hm=> ?_;exact Akr hm▸gE
def JO (a0:Ag):Option ((List UInt8)×Int):=Ab (It a0) fun x1=>some (x1.1,x1.2)
theorem Tr {a0 r}(hm:JO a0=some r):Sp prog 33 [ag (B1 a0)] [] 0 (is (.tup [.ow 0,.d (.i r.2)]) [.row 0 1 _ eB r.1] 1):=by
 refine sq ?_;intros;refine gD hm P0 fun _ q1 hm=> ?_;exact Akr hm▸gE
theorem AaR {a0:Ag}{r:(List UInt8)×Int}(hm:JO a0=some r):Sf prog 33 [ag (B1 a0)] (.tup [sl eB r.1,.d (.i r.2)]):=Sp.fz (Tr hm) (by kernel_rfl)
def BN (a0:List Aj):Option (List Aj):=Ab (app 96 ([]:List Aj) a0) fun x1=>some x1
theorem IG {a0 r}(hm:BN a0=some r):Sp prog 34 [sl AJ a0] [] 0 (is (.ow 0) [.row 0 6 _ AJ r] 1):=by
 refine sq ?_;intros;unfold BN at hm;refine gnq AJ a0 (fun he1=> ?_) ?_
 ·rw[he1]at hm;replace hm:(some ([]:List Aj))=some _:=hm;refine OE AJ 2 6 ?_;exact Akr hm▸gE
 refine TN (k:=6) AJ ([]:List Aj) (fun _=>rfl)<|oB hm fun _ q1 hm=>gp AJ 6 q1 ?_;exact Akr hm▸gE
def HJ (a0:List UInt8):Option Bool:=bnd (((decide ((a0.length:Int)>0))&&(decide ((a0.length:Int)≤2048)))) fun x1=>some x1
theorem OW {a0 r}(hm:HJ a0=some r):Sf prog 103 [sl eB a0] (.d (.t r)):=by
 refine sq ?_;intros;refine bE hm ?_;intro _ hm;exact Akr hm▸gE
def E7 (a0:Int):Option Bool:=bnd (((decide (a0≥0))&&(decide (a0≤1099511627776)))) fun x1=>some x1
theorem Hp {a0 r}(hm:E7 a0=some r):Sf prog 104 [.d (.i a0)] (.d (.t r)):=by
 refine sq ?_;intros;refine bE hm ?_;intro _ hm;exact Akr hm▸gE
def AR (a1:Int):Option (List g_api_Leaf):=Ab (if(decide (a1<0))=true then none else some ()) fun x1=>Ab (bnd ((w64 (a1-(w64 (0-((0:Nat):Int)))))) fun x3=>if(decide (x3>0))=true then if 0≤x3∧x3*32≤140737488355328∧x3≤140737488355328 then some ([]:List g_api_Leaf)else none else some ([]:List g_api_Leaf)) fun x2=>some x2
theorem GW {m As w a1 r}(S:St m (As) w)(hm:AR a1=some r):
  Ft Tryz.prog 275 #[.slice none 0 0,vI a1] w fun v w'=> ∃(M:Mem),m≤M∧∃(rv0:Value) (rc0:List Value),St M ((row 2 rv0 rc0 r.length)::As) w'∧v=rv0∧DU M rc0 r:=by
 unfold AR at hm;have L0:=Mem.rfl' m;refine ZW (args:=[.slice none 0 0,vI a1]) Tryz.func275 rfl Tryz.ntmps275 (AkG rfl)<|C5<|A9<|We (v:= .slice none 0 0) rfl<|Co<|nrm ?_;obtain⟨x1,q1,hm⟩:=Ac hm;have L1:=Mem.rfl' m;refine C5<|Rb [5,6,7] (fun f' w'=> ∃(M1:Mem),m≤M1∧St M1 (As) w'∧Aa5 f' []) ?_ ?_
 ·refine C5<|A9<|Ls (v:=vI a1) rfl<|Aiy (m:=a1) (n:=0) rfl rfl<|Co<|nrm<|Qu (t:=(decide (a1<0))) rfl (fun hc1=> ?_) (fun hc1=> ?_)
  ·replace q1:=ifT hc1 q1;cases q1
  replace q1:=ifF hc1 q1;refine NK<|nrm ?_;obtain rfl:=Akr q1;exact⟨Afy,m,L1,S,trivial⟩
 rintro f1 w1 ho ⟨m1,l1,S1,ha⟩;obtain⟨u1,rfl⟩:=Agk (N:=27) ho ha;replace L0:=Mem.tr L0 l1;clear S;obtain⟨x2,q2,hm⟩:=Ac hm;have L2:=Mem.rfl' m1;refine C5<|Rb [0,1,8,9,10,11,12,13,14,15,16,17,18,19,20,21,22,23,24,25] (fun f' w'=> ∃(M2:Mem) (v1:Value) (c1:List Value),m1≤M2∧St M2 ((row 2 v1 c1 x2.length)::As) w'∧DU M2 c1 x2∧Aa5 f' [(0,v1)]) ?_ ?_
 ·refine C5<|A9<|Ls (v:=vI a1) rfl<|Ls (v:= .slice none 0 0) rfl<|Re rfl Tryz.underlying94<|Ls (v:= .slice none 0 0) rfl<|Wc (n:=0) rfl Tryz.underlying94<|Wa (m:=0) (n:=((0:Nat):Int)) rfl rfl<|Wa (m:=a1) (n:=(w64 (0-((0:Nat):Int)))) rfl rfl ?_;obtain⟨x3,q3,q2⟩:=Ah1 q2;refine We (v:=vI x3) (Alc (fun z=>vI z) q3.symm)<|Co<|nrm<|C5<|A9<|Ls (v:=vI x3) rfl<|Aiz (m:=x3) (n:=0) rfl rfl<|Co<|nrm ?_;refine Qu (t:=(decide (x3>0))) rfl (fun hc2=> ?_) (fun hc2=> ?_)
  ·replace q2:=ifT hc2 q2;refine A9<|Ls (v:= .slice none 0 0) rfl<|Ls (v:= .slice none 0 0) rfl<|Re rfl Tryz.underlying94<|Ahc rfl Tryz.underlying94 Tryz.sizeOf201 rfl<|Ls (v:=vI x3) rfl ?_;obtain⟨q4,q2⟩:=BY q2;refine Ahd (bytes:=32) (sz:=2) (k:=x3) (ti:=Tryz.t201) S1 rfl rfl q4 Tryz.underlying94 Tryz.underlying3 Tryz.type201 rfl rfl rfl rfl ?_;intro v2 c2 w2 S2;replace S2:St _ ((row 2 v2 c2 x3.toNat)::As) _:=S2;clear S1;refine Ls (v:= .slice none 0 0) rfl<|Wc (n:=0) rfl Tryz.underlying94<|AbX (i:=0) S2 rfl rfl Tryz.underlying94 Tryz.sizeOf201 rfl (j:=0) rfl (Int.le_refl 0) (Ald _) ?_;intro v3 S3;rw[show c2.take ((0:Int).toNat*2)=[]from by simp]at S3;have h2:DU m1 [] ([]:List g_api_Leaf):=DU.nil;replace S3:St _ ((row 2 v3 [] ([]:List g_api_Leaf).length)::As) _:=S3;clear S2;refine We (v:=v3) rfl<|Co<|nrm ?_;obtain rfl:=Akr q2;exact⟨Afy,m1,_,_,L2,S3,h2,⟨rfl,trivial⟩⟩
  replace q2:=ifF hc2 q2;refine NK<|nrm ?_;have S4:=St.rowNil S1 2;have h3:DU m1 [] ([]:List g_api_Leaf):=DU.nil;replace S4:St _ ((row 2 (.slice none 0 0) [] ([]:List g_api_Leaf).length)::As) _:=S4;clear S1;obtain rfl:=Akr q2;exact⟨Afy,m1,_,_,L2,S4,h3,⟨rfl,trivial⟩⟩
 rintro f2 w3 ho ⟨m2,v1,c1,l2,S5,h1,ha⟩;obtain⟨u2,rfl⟩:=Agk (N:=27) ho ha;replace L0:=Mem.tr L0 l2;clear S1;refine C5<|A9<|Ls (v:=v1) rfl<|We (v:=v1) rfl<|Co<|nrm<|Xj<|Ai4 ?_;intro we hpd;replace S5:=St.pd S5 hpd;obtain rfl:=Akr hm;exact outR [_] rfl ⟨rfl,trivial⟩ ⟨_,L0,_,_,S5,rfl,h1⟩
theorem GZ {a1 r}(hm:AR a1=some r):Sp prog 275 [.d (.v (.slice none 0 0)),.d (.i a1)] [] 0 (is (.ow 0) [.row 0 2 _ Ay r] 1):=
 gnl call275 AaZ (fun S=>GW S hm)
def Cs (i1:Int)(x3:List g_api_Leaf)(s1:Int):Option (Int):=Ab (bnd ((w64 (s1+(x3.length:Int)))) fun x5=>if(decide (x5<0))=true then none else some x5) fun x4=>some x4
def Cr (i2:Int)(x9:List g_api_Leaf)(s2:(List g_api_Leaf)):Option ((List g_api_Leaf)):=Ab (app 32 s2 x9) fun x10=>some x10
def Bt (a0:List (List g_api_Leaf)):Option (List g_api_Leaf):=Ab (Ab (Et Cs a0 0 0) fun x2=>some x2) fun x1=>Ab (AR x1) fun x6=>Ab (Ab (Et Cr a0 0 x6) fun x8=>some x8) fun x7=>some x7
theorem Hj {a0 r}(hm:Bt a0=some r):Sp prog 194 [sl (eL Ay) a0] [] 0 (is (.ow 0) [.row 0 2 _ Ay r] 1):=by
 refine sq ?_;intros;unfold Bt at hm;obtain⟨x1,q1,hm⟩:=Ac hm;refine oB q1 fun _ q2 q1=>Jd 0 (E:=(eL Ay)) (xs:=a0) 9 fun hle1=>gF (E0 _ _ _) q2 (fun p0 p=>⟨[(0,sl (eL Ay) a0),(3,.d (.i p)),(9,sl (eL Ay) a0),(10,.d (.i (a0.length:Int))),(11,.d (.i p0))],[],[],0⟩) fun i1 s1 Jl bl1=>c0 bl1 (fun _ _ q6 q5 bl1=> ?_) fun e=> ?_
 ·refine oB q5 fun _ q7 q5=>gx (eL Ay) 1 q6<|bE q7 ?_;intro _ q7;refine gi q7 ?_ ?_<;>intro _ q7
  ·cases q7
  obtain rfl:=Akr q7;exact gM bl1 hle1 q5
 subst e;obtain rfl:=Akr q1;refine gD hm GZ fun _ q9 hm=> ?_;obtain⟨x7,q10,hm⟩:=Ac hm;refine oB q10 fun _ q11 q10=>Jd 2 (E:=(eL Ay)) (xs:=a0) 25 fun hle2=>gF (E0 _ _ _) q11 (fun p0 p=>⟨[(6,.ow 0),(25,sl (eL Ay) a0),(26,.d (.i (a0.length:Int))),(27,.d (.i p0))],[(0,.row 0 2 _ Ay p)],[],1⟩) fun i2 s2 Jl bl2=>c0 bl2 (fun _ _ q15 q14 bl2=> ?_) fun e=> ?_
 ·exact gx (eL Ay) 1 q15<|oB q14 fun _ q16 q14=>gp Ay 2 q16<|gM bl2 hle2 q14
 subst e;obtain rfl:=Akr q10;exact Akr hm▸gE
def LA (a0:Aj):Option (List g_api_Leaf):=Ab (Bt ([a0.L,a0.Wait]:List (List g_api_Leaf))) fun x1=>some x1
theorem Tn {a0 r}(hm:LA a0=some r):Sp prog 105 [ag (AJ a0)] [] 0 (is (.ow 0) [.row 0 2 _ Ay r] 1):=by
 refine sq ?_;intros;refine gq (eL Ay) 1 [a0.L,a0.Wait]<|gD hm Hj fun _ q1 hm=> ?_;exact Akr hm▸gE
def HM (i1:Int)(x4:g_api_Leaf)(s1:(List (ByteArray×Bool))):Option (((List (ByteArray×Bool)))⊕Int):=Ab (HJ x4.Body) fun x5=>Ab (gu (!(!x5)) (E7 x4.At)) fun x6=>if(((!x5)||(!x6))||(lkB s1 (bs x4.Body)))=true then some (.inr 1)else if(lkI s1 (bs x4.Body) 0).isNone=true then some (.inl (s1++[((bs x4.Body),true)]))else none
def HL (a0:Aj)(i2:Int)(x8:Int)(s2:Int):Option ((Int)⊕Int):=if((decide (x8≤s2))||(decide (x8≥(a0.L.length:Int))))=true then some (.inr 1)else some (.inl x8)
def Ha (a0:Aj):Option Int:=
 Ab (E7 a0.Id) fun x1=>
 if(((((!x1)||((a0.Key.toNat:Int)==0))||(decide ((a0.Key.toNat:Int)≥1152921504606845789)))||(decide (a0.Delay<0)))||(decide (a0.Delay>1000)))=true then
  some 1
 else
 Ab (LA a0) fun x2=>
 Ab (D1 HM x2 0 ([]:List (ByteArray×Bool))) fun x3=>match x3 with
 | .inr r=>some r
 | .inl y1=>
 Ab (D1 (HL a0) a0.Hide 0 (-1)) fun x7=>match x7 with
 | .inr r=>some r
 | .inl y3=>
 if(decide ((y1.length:Int)>256))=true then
  some 2
 else
 some 0
theorem MW {a0 r}(hm:Ha a0=some r):Sf prog 98 [ag (AJ a0)] (.d (.i r)):=by
 refine sq ?_;intros;refine gA hm Hp fun _ q1 hm=>gi hm ?_ ?_<;>intro _ hm
 ·exact Akr hm▸gE
 refine gmkm<|gD hm Tn fun x2 q2 hm=>oB hm fun _ q3 hm=>Jd 0 (E:=Ay) (xs:=x2) 35 fun hle1=>gF (ER _ _ _) q3 (fun p0 p=>⟨[(1,.pb 0 0),(3,.ow 1),(35,sl Ay x2),(36,.d (.i (x2.length:Int))),(37,.d (.i p0)),(33,.ow 1)],[(0,.hp 1 (.mp p)),(1,.box 0 [.d (.i a0.Id),.d (.u a0.Key),.d (.i a0.Delay),sl Ay a0.L,sl eI a0.Hide,sl Ay a0.Wait] 97)],[],2⟩) fun i1 s1 Jl bl1=>cR bl1 (fun x4 _ q7 q6 bl1=> ?_) fun e=> ?_
 ·refine gx Ay 2 q7<|gA q6 OW fun _ q8 q6=>oB q6 fun _ q9 q6=>gcH q9 Hp<|gbs (xs:=x4.Body)<|glk s1 (bs x4.Body)<|gi q6 ?_ ?_<;>intro _ q6
  ·obtain rfl:=nT bl1 q6;exact Akr hm▸gE
  refine gbs (xs:=x4.Body) ?_;obtain⟨q10,q6⟩:=BY q6;exact gup q10<|gT bl1 hle1 q6
 subst e;let y1:=s1;refine oB hm fun _ q11 hm=>Jd 2 (E:=eI) (xs:=a0.Hide) 64 fun hle2=>gF (ER _ _ _) q11 (fun p0 p=>⟨[(1,.pb 0 0),(3,.ow 1),(6,.d (.i p)),(64,sl eI a0.Hide),(65,.d (.i (a0.Hide.length:Int))),(66,.d (.i p0)),(33,.ow 1)],[(0,.hp 1 (.mp y1)),(1,.box 0 [.d (.i a0.Id),.d (.u a0.Key),.d (.i a0.Delay),sl Ay a0.L,sl eI a0.Hide,sl Ay a0.Wait] 97)],[],2⟩) fun i2 s2 Jl bl2=>cR bl2 (fun _ _ q15 q14 bl2=> ?_) fun e=> ?_
 ·refine gx eI 1 q15<|gi q14 ?_ ?_<;>intro _ q14
  ·obtain rfl:=nT bl2 q14;exact Akr hm▸gE
  exact gT bl2 hle2 q14
 subst e;let y3:=s2;refine gln y1<|gi hm ?_ ?_<;>intro _ hm
 ·exact Akr hm▸gE
 exact Akr hm▸gE
end Go.Proofs.YtlahakpgjlmeaaaGreatDoor
