/- The walks of some functions, by the executor, written by program. Conditions: none. -/
import Derived.Test.YtlahakpgjlmeaaaGreatDoorZh
import Derived.Test.YtlahakpgjlmeaaaGreatDoorZj
import Derived.Test.YtlahakpgjlmeaaaGreatDoorZk
import Derived.Test.YtlahakpgjlmeaaaGreatDoorZl
set_option linter.unusedSimpArgs false
set_option linter.unusedVariables false
set_option maxHeartbeats 20000000
set_option maxRecDepth 100000
namespace Go.Proofs.YtlahakpgjlmeaaaGreatDoor
open Go Go.Gw Go.Ax Tryz Go.RowKit
attribute [local irreducible] Go.Ax.Go
def Ew (a0:Af)(a1:Bool)(k0:Int)(k1:List UInt8)(k2:List Ar)(k3:AG):Option (Af×g_api_Share×Int):=Ab (BM a0 a1 k0 k1 k2 k3) fun z=>some (match z with| .error z=>((⟨(⟨0,0⟩:g_api_Share),false,false,[],(⟨[],[]⟩:g_api_Store)⟩:Af),(⟨0,0⟩:g_api_Share),z.1)| .ok c=>c)
theorem NW {a0 a1 k0 k1 k2 k3 r}(hm:Ew a0 a1 k0 k1 k2 k3=some r):Sf prog 42 [ag (AK a0),.d (.t a1),.fn (.func 43) [] [.d (.pf [.i k0]),.d (.pf [.sl _ eB k1]),.d (.pf [.sl _ AN k2]),.d (.pf [.sl _ Ah k3.Rules,.sl _ Au k3.Nodes])]] (.tup [ag (AK r.1),ag (Ak r.2.1),.d (.i r.2.2)]):=by
 unfold Ew at hm;refine X2 (N:=22) (zs0:=[.i 0,.u 0,.t false,.t false,.v (.slice none 0 0),.v (.slice none 0 0),.v (.slice none 0 0)]) (zs1:=[.i 0,.u 0]) (zs2:=[.i ((AdB ((BM a0 a1 k0 k1 k2 k3).getD (.error (0,0)))).1)]) (t0:=59) (t1:=54) (t2:=46) (ov:=thV 214 ((BM a0 a1 k0 k1 k2 k3).getD (.error (0,0)))) (ok1:=True) (okX:=True∧∃z,BM a0 a1 k0 k1 k2 k3=some (.error z)) (okE:=fun c=>True∧BM a0 a1 k0 k1 k2 k3=some (.ok c)) (JE:=fun(c:Af×g_api_Share×Int)=>⟨[(6,.pb 0 0),(7,.pb 1 0),(8,.pb 2 0)],[(0,.box 0 [.d (.i c.1.Share.Id),.d (.u c.1.Share.X),.d (.t c.1.Bad),.d (.t c.1.Up),sl Ai c.1.Done,sl eB c.1.Store.Safe,sl eB c.1.Store.Open] 59),(1,.box 1 [.d (.i c.2.1.Id),.d (.u c.2.1.X)] 54),(2,.box 2 [.d (.i c.2.2)] 46)],[],3⟩) (J1:=⟨[(1,.d (.t a1)),(2,.fn (.func 43) [] [.d (.pf [.i k0]),.d (.pf [.sl _ eB k1]),.d (.pf [.sl _ AN k2]),.d (.pf [.sl _ Ah k3.Rules,.sl _ Au k3.Nodes])]),(3,.pb 3 0),(6,.pb 0 0),(7,.pb 1 0),(8,.pb 2 0)],[(0,.box 2 [.d (.i 0)] 46),(1,.box 1 [.d (.i 0),.d (.u 0)] 54),(2,.box 0 [.d (.i 0),.d (.u 0),.d (.t false),.d (.t false),sl Ai [],sl eB [],sl eB []] 59),(3,.box 3 [.d (.i a0.Share.Id),.d (.u a0.Share.X),.d (.t a0.Bad),.d (.t a0.Up),sl Ai a0.Done,sl eB a0.Store.Safe,sl eB a0.Store.Open] 59)],[],4⟩) call42 call118 func42 rfl ntmps42 rfl rfl rfl ?_ ?_ ?_ ?_ (AdN) (fun h=>by obtain⟨_,z,hz⟩:=h; rw[hz]; exact AdM z)
 ·intro D0 As η0 m0 Jp hd bk;exact gb bk hd () trivial
 ·intro hok D0 As η0 m0 hd;obtain⟨z,hz2,hm⟩:=Ac hm;rw[hz2];unfold BM at hz2;clear hm;refine gA hz2 K5 fun x1 q1 hz2=> ?_;obtain⟨y1,q2,hz2⟩:=Ac hz2;rcases y1 with z1|x2
  ·dsimp only at hz2;obtain rfl:=Akr hz2;exact PA (AD q2) ⟨hok,_,rfl⟩ hd
  dsimp only at hz2;refine gc (fun _=>(AD q2).spE)<|oB hz2 fun x3 q3 hz2=>gj (fun(y2:Unit)=>⟨[(2,.fn (.func 43) [] [.d (.pf [.i k0]),.d (.pf [.sl _ eB k1]),.d (.pf [.sl _ AN k2]),.d (.pf [.sl _ Ah k3.Rules,.sl _ Au k3.Nodes])]),(3,.pb 3 0),(6,.pb 0 0),(7,.pb 1 0),(8,.pb 2 0)],[(0,.box 2 [.d (.i 0)] 46),(1,.box 1 [.d (.i 0),.d (.u 0)] 54),(2,.box 0 [.d (.i 0),.d (.u 0),.d (.t false),.d (.t false),sl Ai [],sl eB [],sl eB []] 59),(3,.box 3 [.d (.i a0.Share.Id),.d (.u a0.Share.X),.d (.t a0.Bad),.d (.t a0.Up),sl Ai a0.Done,sl eB a0.Store.Safe,sl eB a0.Store.Open] 59)],[],4⟩) (fun y2=>x3= .inl y2) (fun Jp bk1=> ?_) fun y2 hy=> ?_
  ·refine gi q3 ?_ ?_<;>intro hc1 q3
   ·obtain⟨y3,q4,q3⟩:=Ac q3;rcases y3 with z2|x4
    ·dsimp only at q3;obtain rfl:=Akr q3;dsimp only at hz2;obtain rfl:=Akr hz2;exact PA (AD q4) ⟨hok,_,rfl⟩ hd
    dsimp only at q3;refine gc (fun _=>(AD q4).spE) ?_;obtain rfl:=Akr q3;exact gb bk1 hd _ rfl
   obtain rfl:=Akr q3;exact gb bk1 hd _ rfl
  subst hy;dsimp only at hz2;obtain⟨y4,q5,hz2⟩:=Ac hz2;rcases y4 with z3|x5
  ·dsimp only at hz2;obtain rfl:=Akr hz2;exact PA (I9 q5) ⟨hok,_,rfl⟩ hd
  dsimp only at hz2;refine gco (I9 q5).spE ?_;obtain rfl:=Akr hz2;exact WJ _ ⟨hok,rfl⟩ hd
 ·rintro c ⟨hC,hz⟩ D0 As η0 m0 hd;rw[hz]at hm;have e0:c=r:=Akr hm;subst e0;exact Adt hd
 ·rintro⟨hC,z,hz⟩ D0 As η0 m0 hd;rw[hz]at hm;have e0:((⟨(⟨0,0⟩:g_api_Share),false,false,[],(⟨[],[]⟩:g_api_Store)⟩:Af),(⟨0,0⟩:g_api_Share),z.1)=r:=Akr hm;subst e0;rw[hz];exact Adt hd
def Bv (a0:Af)(a1:Int)(a2:List UInt8)(a3:List Ar)(a4:AG):Option (Af×g_api_Share×Int):=Ab (Ew a0 true a1 a2 a3 a4) fun x1=>some (x1.1,x1.2.1,x1.2.2)
theorem DN {a0 a1 a2 a3 a4 r}(hm:Bv a0 a1 a2 a3 a4=some r):Sf prog 10 [ag (AK a0),.d (.i a1),sl eB a2,sl AN a3,ag (Ff a4)] (.tup [ag (AK r.1),ag (Ak r.2.1),.d (.i r.2.2)]):=by
 refine sq ?_;intros;refine AaJ 6 [.i a1]<|AaJ 7 [.sl _ eB a2]<|AaJ 8 [.sl _ AN a3]<|AaJ 9 [.sl _ Ah a4.Rules,.sl _ Au a4.Nodes]<|gD hm NW fun _ q1 hm=> ?_;exact Akr hm▸gE
def J7 (a0:g_api_Store)(a1:Int):Option (g_api_Store×Int):=Ab (DQ a0) fun x1=>if(x1 !=0)=true then some ((⟨[],[]⟩:g_api_Store),x1)else if((decide (a1<0))||(decide (a1>(a0.Open.length:Int))))=true then some ((⟨[],[]⟩:g_api_Store),1)else Ab (cut a0.Open 0 a1) fun x2=>Ab (JM (⟨a0.Safe,x2⟩:g_api_Store)) fun x3=>some (x3.1,x3.2)
theorem Xn {a0 a1 r}(hm:J7 a0 a1=some r):Sf prog 59 [ag (Du a0),.d (.i a1)] (.tup [ag (Du r.1),.d (.i r.2)]):=by
 refine sq ?_;intros;refine gA hm JR fun _ q1 hm=>gi hm ?_ ?_<;>intro _ hm
 ·exact Akr hm▸gE
 refine gi hm ?_ ?_<;>intro _ hm
 ·exact Akr hm▸gE
 refine oB hm fun _ q2 hm=>gk eB 1 q2<|gA hm PT fun _ q3 hm=> ?_;exact Akr hm▸gE
def Dc (a0:Af)(k0:Int):Option (Except (Int×Int) (g_api_Share×Af)):=Ab (J7 a0.Store (Q5 k0 (a0.Store.Open.length:Int))) fun x1=>Ab (Bq x1.2) fun y1=>match y1 with| .error z1=>some (.error z1)| .ok x2=>some (.ok ((⟨0,0⟩:g_api_Share),(⟨a0.Share,a0.Bad,false,[],x1.1⟩:Af)))
theorem JV {a0 k0 r}(hm:Dc a0 k0=some r):Sb prog 58 [.pb 0 0,.d (.pf [.i k0])] [.box 0 [.d (.i a0.Share.Id),.d (.u a0.Share.X),.d (.t a0.Bad),.d (.t a0.Up),sl Ai a0.Done,sl eB a0.Store.Safe,sl eB a0.Store.Open] 59] 1 (thV 214 r) (Pos (exo r) (fun r=>ag (Ak r.1)) (fun r=> [.box 0 [.d (.i r.2.Share.Id),.d (.u r.2.Share.X),.d (.t r.2.Bad),.d (.t r.2.Up),.d (.sl _ Ai r.2.Done),.d (.sl _ eB r.2.Store.Safe),.d (.sl _ eB r.2.Store.Open)] 59]) 1) (exo r=none):=
 sb call58 func58 rfl ntmps58 rfl fun D0 As η0 m0 hd=>by
  unfold Dc at hm;refine gA hm Xn fun x1 q1 hm=> ?_;obtain⟨y1,q2,hm⟩:=Ac hm;rcases y1 with z1|x2
  ·dsimp only at hm;obtain rfl:=Akr hm;exact HX (AD q2)
  dsimp only at hm;refine gc (fun _=>(AD q2).spE) ?_;obtain rfl:=Akr hm;exact Qg hd
def BL (a0:Af)(a1:Bool)(k0:Int):Option (Except (Int×Int) (Af×g_api_Share×Int)):=
 Ab (Cu a0) fun x1=>
 Ab (Bq x1) fun y1=>match y1 with
 | .error z1=>some (.error z1)
 | .ok x2=>
 Ab ((
   if(a0.Up !=a1)=true then
    Ab (Bq 221) fun y3=>match y3 with
    | .error z2=>some (.inr (.error z2))
    | .ok x4=>
    some (.inl ())
   else
   some (.inl ())
  :Option ((Unit)⊕(Except (Int×Int) (Af×g_api_Share×Int))))) fun x3=>match x3 with
 | .inr r=>some r
 | .inl y2=>
 Ab (Dc a0 k0) fun y4=>match y4 with
 | .error z3=>some (.error z3)
 | .ok x5=>
 some (.ok (x5.2,x5.1,0))
def Ev (a0:Af)(a1:Bool)(k0:Int):Option (Af×g_api_Share×Int):=Ab (BL a0 a1 k0) fun z=>some (match z with| .error z=>((⟨(⟨0,0⟩:g_api_Share),false,false,[],(⟨[],[]⟩:g_api_Store)⟩:Af),(⟨0,0⟩:g_api_Share),z.1)| .ok c=>c)
theorem NV {a0 a1 k0 r}(hm:Ev a0 a1 k0=some r):Sf prog 42 [ag (AK a0),.d (.t a1),.fn (.func 58) [] [.d (.pf [.i k0])]] (.tup [ag (AK r.1),ag (Ak r.2.1),.d (.i r.2.2)]):=by
 unfold Ev at hm;refine X2 (N:=22) (zs0:=[.i 0,.u 0,.t false,.t false,.v (.slice none 0 0),.v (.slice none 0 0),.v (.slice none 0 0)]) (zs1:=[.i 0,.u 0]) (zs2:=[.i ((AdB ((BL a0 a1 k0).getD (.error (0,0)))).1)]) (t0:=59) (t1:=54) (t2:=46) (ov:=thV 214 ((BL a0 a1 k0).getD (.error (0,0)))) (ok1:=True) (okX:=True∧∃z,BL a0 a1 k0=some (.error z)) (okE:=fun c=>True∧BL a0 a1 k0=some (.ok c)) (JE:=fun(c:Af×g_api_Share×Int)=>⟨[(6,.pb 0 0),(7,.pb 1 0),(8,.pb 2 0)],[(0,.box 0 [.d (.i c.1.Share.Id),.d (.u c.1.Share.X),.d (.t c.1.Bad),.d (.t c.1.Up),sl Ai c.1.Done,sl eB c.1.Store.Safe,sl eB c.1.Store.Open] 59),(1,.box 1 [.d (.i c.2.1.Id),.d (.u c.2.1.X)] 54),(2,.box 2 [.d (.i c.2.2)] 46)],[],3⟩) (J1:=⟨[(1,.d (.t a1)),(2,.fn (.func 58) [] [.d (.pf [.i k0])]),(3,.pb 3 0),(6,.pb 0 0),(7,.pb 1 0),(8,.pb 2 0)],[(0,.box 2 [.d (.i 0)] 46),(1,.box 1 [.d (.i 0),.d (.u 0)] 54),(2,.box 0 [.d (.i 0),.d (.u 0),.d (.t false),.d (.t false),sl Ai [],sl eB [],sl eB []] 59),(3,.box 3 [.d (.i a0.Share.Id),.d (.u a0.Share.X),.d (.t a0.Bad),.d (.t a0.Up),sl Ai a0.Done,sl eB a0.Store.Safe,sl eB a0.Store.Open] 59)],[],4⟩) call42 call118 func42 rfl ntmps42 rfl rfl rfl ?_ ?_ ?_ ?_ (AdN) (fun h=>by obtain⟨_,z,hz⟩:=h; rw[hz]; exact AdM z)
 ·intro D0 As η0 m0 Jp hd bk;exact gb bk hd () trivial
 ·intro hok D0 As η0 m0 hd;obtain⟨z,hz2,hm⟩:=Ac hm;rw[hz2];unfold BL at hz2;clear hm;refine gA hz2 K5 fun x1 q1 hz2=> ?_;obtain⟨y1,q2,hz2⟩:=Ac hz2;rcases y1 with z1|x2
  ·dsimp only at hz2;obtain rfl:=Akr hz2;exact PA (AD q2) ⟨hok,_,rfl⟩ hd
  dsimp only at hz2;refine gc (fun _=>(AD q2).spE)<|oB hz2 fun x3 q3 hz2=>gj (fun(y2:Unit)=>⟨[(2,.fn (.func 58) [] [.d (.pf [.i k0])]),(3,.pb 3 0),(6,.pb 0 0),(7,.pb 1 0),(8,.pb 2 0)],[(0,.box 2 [.d (.i 0)] 46),(1,.box 1 [.d (.i 0),.d (.u 0)] 54),(2,.box 0 [.d (.i 0),.d (.u 0),.d (.t false),.d (.t false),sl Ai [],sl eB [],sl eB []] 59),(3,.box 3 [.d (.i a0.Share.Id),.d (.u a0.Share.X),.d (.t a0.Bad),.d (.t a0.Up),sl Ai a0.Done,sl eB a0.Store.Safe,sl eB a0.Store.Open] 59)],[],4⟩) (fun y2=>x3= .inl y2) (fun Jp bk1=> ?_) fun y2 hy=> ?_
  ·refine gi q3 ?_ ?_<;>intro hc1 q3
   ·obtain⟨y3,q4,q3⟩:=Ac q3;rcases y3 with z2|x4
    ·dsimp only at q3;obtain rfl:=Akr q3;dsimp only at hz2;obtain rfl:=Akr hz2;exact PA (AD q4) ⟨hok,_,rfl⟩ hd
    dsimp only at q3;refine gc (fun _=>(AD q4).spE) ?_;obtain rfl:=Akr q3;exact gb bk1 hd _ rfl
   obtain rfl:=Akr q3;exact gb bk1 hd _ rfl
  subst hy;dsimp only at hz2;obtain⟨y4,q5,hz2⟩:=Ac hz2;rcases y4 with z3|x5
  ·dsimp only at hz2;obtain rfl:=Akr hz2;exact PA (JV q5) ⟨hok,_,rfl⟩ hd
  dsimp only at hz2;refine gco (JV q5).spE ?_;obtain rfl:=Akr hz2;exact WJ _ ⟨hok,rfl⟩ hd
 ·rintro c ⟨hC,hz⟩ D0 As η0 m0 hd;rw[hz]at hm;have e0:c=r:=Akr hm;subst e0;exact Adt hd
 ·rintro⟨hC,z,hz⟩ D0 As η0 m0 hd;rw[hz]at hm;have e0:((⟨(⟨0,0⟩:g_api_Share),false,false,[],(⟨[],[]⟩:g_api_Store)⟩:Af),(⟨0,0⟩:g_api_Share),z.1)=r:=Akr hm;subst e0;rw[hz];exact Adt hd
def GH (a0:Af)(a1:Int):Option (Af×Int):=Ab (Ev a0 true a1) fun x1=>some (x1.1,x1.2.2)
theorem N4 {a0 a1 r}(hm:GH a0 a1=some r):Sf prog 12 [ag (AK a0),.d (.i a1)] (.tup [ag (AK r.1),.d (.i r.2)]):=by
 refine sq ?_;intros;refine AaJ 3 [.i a1]<|gD hm NV fun _ q1 hm=> ?_;exact Akr hm▸gE
def F3 (a0:Af):Option (Except (Int×Int) (g_api_Share×Af)):=
 Ab (Hx a0.Store) fun x1=>
 Ab (Di x1.1) fun x2=>
 Ab ((
   if(!x2.2.2)=true then
    Ab (Bq 200) fun y2=>match y2 with
    | .error z1=>some (.inr (.error z1))
    | .ok x4=>
    some (.inl ())
   else
   some (.inl ())
  :Option ((Unit)⊕(Except (Int×Int) (g_api_Share×Af))))) fun x3=>match x3 with
 | .inr r=>some r
 | .inl y1=>
 some (.ok ((⟨0,0⟩:g_api_Share),(⟨a0.Share,a0.Bad,true,x2.1,x1.1⟩:Af)))
theorem MQ {a0 r}(hm:F3 a0=some r):Sb prog 60 [.pb 0 0] [.box 0 [.d (.i a0.Share.Id),.d (.u a0.Share.X),.d (.t a0.Bad),.d (.t a0.Up),sl Ai a0.Done,sl eB a0.Store.Safe,sl eB a0.Store.Open] 59] 1 (thV 214 r) (Pos (exo r) (fun r=>ag (Ak r.1)) (fun r=> [.box 0 [.d (.i r.2.Share.Id),.d (.u r.2.Share.X),.d (.t r.2.Bad),.d (.t r.2.Up),.d (.sl _ Ai r.2.Done),.d (.sl _ eB r.2.Store.Safe),.d (.sl _ eB r.2.Store.Open)] 59]) 1) (exo r=none):=
 sb call60 func60 rfl ntmps60 rfl fun D0 As η0 m0 hd=>by
  unfold F3 at hm;refine gA hm VF fun x1 q1 hm=>gD hm OR fun x2 q2 hm=>oB hm fun x3 q3 hm=>gj (fun(y1:Unit)=>⟨[(0,.pb 0 0),(2,.pb 1 0),(3,.pb 2 0),(5,.ow 3)],[(0,.row 3 4 _ Ai x2.1),(1,.box 2 [sl eB x1.1.Safe,sl eB x1.1.Open] 57),(2,.box 1 [.d (.i 0),.d (.u 0)] 54),(3,.box 0 [.d (.i a0.Share.Id),.d (.u a0.Share.X),.d (.t a0.Bad),.d (.t a0.Up),sl Ai a0.Done,sl eB a0.Store.Safe,sl eB a0.Store.Open] 59)],[],4⟩) (fun y1=>x3= .inl y1) (fun Jp bk1=> ?_) fun y1 hy=> ?_
  ·refine gi q3 ?_ ?_<;>intro hc1 q3
   ·obtain⟨y2,q4,q3⟩:=Ac q3;rcases y2 with z1|x4
    ·dsimp only at q3;obtain rfl:=Akr q3;dsimp only at hm;obtain rfl:=Akr hm;exact HX (AD q4)
    dsimp only at q3;refine gc (fun _=>(AD q4).spE) ?_;obtain rfl:=Akr q3;exact gb bk1 hd _ rfl
   obtain rfl:=Akr q3;exact gb bk1 hd _ rfl
  subst hy;dsimp only at hm;obtain rfl:=Akr hm;exact Qg hd
def Ck (a0:Af)(a1:Bool):Option (Except (Int×Int) (Af×g_api_Share×Int)):=
 Ab (Cu a0) fun x1=>
 Ab (Bq x1) fun y1=>match y1 with
 | .error z1=>some (.error z1)
 | .ok x2=>
 Ab ((
   if(a0.Up !=a1)=true then
    Ab (Bq 221) fun y3=>match y3 with
    | .error z2=>some (.inr (.error z2))
    | .ok x4=>
    some (.inl ())
   else
   some (.inl ())
  :Option ((Unit)⊕(Except (Int×Int) (Af×g_api_Share×Int))))) fun x3=>match x3 with
 | .inr r=>some r
 | .inl y2=>
 Ab (F3 a0) fun y4=>match y4 with
 | .error z3=>some (.error z3)
 | .ok x5=>
 some (.ok (x5.2,x5.1,0))
def Gi (a0:Af)(a1:Bool):Option (Af×g_api_Share×Int):=Ab (Ck a0 a1) fun z=>some (match z with| .error z=>((⟨(⟨0,0⟩:g_api_Share),false,false,[],(⟨[],[]⟩:g_api_Store)⟩:Af),(⟨0,0⟩:g_api_Share),z.1)| .ok c=>c)
theorem PU {a0 a1 r}(hm:Gi a0 a1=some r):Sf prog 42 [ag (AK a0),.d (.t a1),.fn (.func 60) [] []] (.tup [ag (AK r.1),ag (Ak r.2.1),.d (.i r.2.2)]):=by
 unfold Gi at hm;refine X2 (N:=22) (zs0:=[.i 0,.u 0,.t false,.t false,.v (.slice none 0 0),.v (.slice none 0 0),.v (.slice none 0 0)]) (zs1:=[.i 0,.u 0]) (zs2:=[.i ((AdB ((Ck a0 a1).getD (.error (0,0)))).1)]) (t0:=59) (t1:=54) (t2:=46) (ov:=thV 214 ((Ck a0 a1).getD (.error (0,0)))) (ok1:=True) (okX:=True∧∃z,Ck a0 a1=some (.error z)) (okE:=fun c=>True∧Ck a0 a1=some (.ok c)) (JE:=fun(c:Af×g_api_Share×Int)=>⟨[(6,.pb 0 0),(7,.pb 1 0),(8,.pb 2 0)],[(0,.box 0 [.d (.i c.1.Share.Id),.d (.u c.1.Share.X),.d (.t c.1.Bad),.d (.t c.1.Up),sl Ai c.1.Done,sl eB c.1.Store.Safe,sl eB c.1.Store.Open] 59),(1,.box 1 [.d (.i c.2.1.Id),.d (.u c.2.1.X)] 54),(2,.box 2 [.d (.i c.2.2)] 46)],[],3⟩) (J1:=⟨[(1,.d (.t a1)),(2,.fn (.func 60) [] []),(3,.pb 3 0),(6,.pb 0 0),(7,.pb 1 0),(8,.pb 2 0)],[(0,.box 2 [.d (.i 0)] 46),(1,.box 1 [.d (.i 0),.d (.u 0)] 54),(2,.box 0 [.d (.i 0),.d (.u 0),.d (.t false),.d (.t false),sl Ai [],sl eB [],sl eB []] 59),(3,.box 3 [.d (.i a0.Share.Id),.d (.u a0.Share.X),.d (.t a0.Bad),.d (.t a0.Up),sl Ai a0.Done,sl eB a0.Store.Safe,sl eB a0.Store.Open] 59)],[],4⟩) call42 call118 func42 rfl ntmps42 rfl rfl rfl ?_ ?_ ?_ ?_ (AdN) (fun h=>by obtain⟨_,z,hz⟩:=h; rw[hz]; exact AdM z)
 ·intro D0 As η0 m0 Jp hd bk;exact gb bk hd () trivial
 ·intro hok D0 As η0 m0 hd;obtain⟨z,hz2,hm⟩:=Ac hm;rw[hz2];unfold Ck at hz2;clear hm;refine gA hz2 K5 fun x1 q1 hz2=> ?_;obtain⟨y1,q2,hz2⟩:=Ac hz2;rcases y1 with z1|x2
  ·dsimp only at hz2;obtain rfl:=Akr hz2;exact PA (AD q2) ⟨hok,_,rfl⟩ hd
  dsimp only at hz2;refine gc (fun _=>(AD q2).spE)<|oB hz2 fun x3 q3 hz2=>gj (fun(y2:Unit)=>⟨[(2,.fn (.func 60) [] []),(3,.pb 3 0),(6,.pb 0 0),(7,.pb 1 0),(8,.pb 2 0)],[(0,.box 2 [.d (.i 0)] 46),(1,.box 1 [.d (.i 0),.d (.u 0)] 54),(2,.box 0 [.d (.i 0),.d (.u 0),.d (.t false),.d (.t false),sl Ai [],sl eB [],sl eB []] 59),(3,.box 3 [.d (.i a0.Share.Id),.d (.u a0.Share.X),.d (.t a0.Bad),.d (.t a0.Up),sl Ai a0.Done,sl eB a0.Store.Safe,sl eB a0.Store.Open] 59)],[],4⟩) (fun y2=>x3= .inl y2) (fun Jp bk1=> ?_) fun y2 hy=> ?_
  ·refine gi q3 ?_ ?_<;>intro hc1 q3
   ·obtain⟨y3,q4,q3⟩:=Ac q3;rcases y3 with z2|x4
    ·dsimp only at q3;obtain rfl:=Akr q3;dsimp only at hz2;obtain rfl:=Akr hz2;exact PA (AD q4) ⟨hok,_,rfl⟩ hd
    dsimp only at q3;refine gc (fun _=>(AD q4).spE) ?_;obtain rfl:=Akr q3;exact gb bk1 hd _ rfl
   obtain rfl:=Akr q3;exact gb bk1 hd _ rfl
  subst hy;dsimp only at hz2;obtain⟨y4,q5,hz2⟩:=Ac hz2;rcases y4 with z3|x5
  ·dsimp only at hz2;obtain rfl:=Akr hz2;exact PA (MQ q5) ⟨hok,_,rfl⟩ hd
  dsimp only at hz2;refine gco (MQ q5).spE ?_;obtain rfl:=Akr hz2;exact WJ _ ⟨hok,rfl⟩ hd
 ·rintro c ⟨hC,hz⟩ D0 As η0 m0 hd;rw[hz]at hm;have e0:c=r:=Akr hm;subst e0;exact Adt hd
 ·rintro⟨hC,z,hz⟩ D0 As η0 m0 hd;rw[hz]at hm;have e0:((⟨(⟨0,0⟩:g_api_Share),false,false,[],(⟨[],[]⟩:g_api_Store)⟩:Af),(⟨0,0⟩:g_api_Share),z.1)=r:=Akr hm;subst e0;rw[hz];exact Adt hd
def HB (a0:Af):Option (Af×Int):=Ab (Gi a0 false) fun x1=>some (x1.1,x1.2.2)
theorem OS {a0 r}(hm:HB a0=some r):Sf prog 13 [ag (AK a0)] (.tup [ag (AK r.1),.d (.i r.2)]):=by
 refine sq ?_;intros;refine gA hm PU fun _ q1 hm=> ?_;exact Akr hm▸gE
def Jt (a0:List UInt8)(s1:(List UInt64)×Int)(s2:UInt64×UInt64×Int):Option ((UInt64×UInt64×Int)⊕(UInt64)):=if((decide (s2.2.2<(a0.length:Int)))&&(decide (s2.2.2<(w64 (s1.2+7)))))=true then Ab (idx a0 s2.2.2) fun x7=>bnd ((s2.1+(s2.2.1*(toU (x7.toNat:Int))))) fun x8=>some (.inl (x8,(s2.2.1*256),(w64 (s2.2.2+1))))else some (.inr s2.1)
def HG (a0:List UInt8)(s1:(List UInt64)×Int):Option (((List UInt64)×Int)⊕((List UInt64))):=if(decide (s1.2<(a0.length:Int)))=true then Ab (Ab (iter (Jt a0 s1) EV (0,1,s1.2)) fun x5=>some x5) fun x4=>Ab (app 8 s1.1 ([x4]:List UInt64)) fun x9=>some (.inl (x9,(w64 (s1.2+7))))else some (.inr s1.1)
def Lz (a0:List UInt8):Option (List UInt64):=Ab (Ab (iter (HG a0) EV (([]:List UInt64),0)) fun x2=>some x2) fun x1=>some x1
theorem Aag {a0 r}(hm:Lz a0=some r):Sp prog 235 [sl eB a0] [] 0 (is (.ow 0) [.row 0 1 _ eU r] 1):=by
 refine sq ?_;intros;unfold Lz at hm;obtain⟨x1,q1,hm⟩:=Ac hm;refine oB q1 fun x2 q2 q1=>Sj 0 eU 3 1<|gI q2 (fun(p_0,p_1)=>⟨[(0,sl eB a0),(3,.ow 0),(4,.d (.i p_1))],[(0,.row 0 1 _ eU p_0)],[],1⟩) fun s1 _ Jl q5 bl1=>gi q5 ?_ ?_<;>intro _ q5
 ·obtain⟨x4,q7,q5⟩:=Ac q5;refine oB q7 fun x5 q8 q7=>gI q8 (fun(p_0,p_1,p_2)=>⟨[(0,sl eB a0),(3,.ow 0),(4,.d (.i s1.2)),(5,.d (.u p_0)),(6,.d (.u p_1)),(7,.d (.i p_2))],[(0,.row 0 1 _ eU s1.1)],[],1⟩) fun s2 _ Jl q11 bl2=>gi q11 ?_ ?_<;>intro _ q11
  ·refine oB q11 fun _ q13 q11=>gx eB 1 q13<|bE q11 ?_;intro _ q11;exact gN bl2 q11
  obtain rfl:=nR bl2 q11;let x5:=s2.1;obtain rfl:=Akr q7;let x4:=x5;exact gq eU 1 [x4]<|oB q5 fun _ q15 q5=>gp eU 1 q15<|gN bl1 q5
 obtain rfl:=nR bl1 q5;let x2:=s1.1;obtain rfl:=Akr q1;exact Akr hm▸gE
def Dt (a0:UInt64)(a1:UInt64):Option UInt64:=bnd ((((a0%2305843009213693951)+(a1%2305843009213693951))%2305843009213693951)) fun x1=>some x1
theorem EX {a0 a1 r}(hm:Dt a0 a1=some r):Sf prog 236 [.d (.u a0),.d (.u a1)] (.d (.u r)):=by
 refine sq ?_;intros;refine bE hm ?_;intro _ hm;exact Akr hm▸gE
def Fw (s1:UInt64×UInt64×UInt64):Option ((UInt64×UInt64×UInt64)⊕(UInt64)):=if(decide ((s1.2.1.toNat:Int)>0))=true then Ab (if(((s1.2.1%2).toNat:Int)==1)=true then Ab (Dt s1.2.2 s1.1) fun x5=>some x5 else some s1.2.2) fun x4=>Ab (Dt s1.1 s1.1) fun x6=>some (.inl (x6,(s1.2.1/2),x4))else some (.inr s1.2.2)
def Kb (a0:UInt64)(a1:UInt64):Option UInt64:=Ab (Ab (iter Fw EV ((a0%2305843009213693951),(a1%2305843009213693951),0)) fun x2=>some x2) fun x1=>some x1
theorem Xt {a0 a1 r}(hm:Kb a0 a1=some r):Sf prog 359 [.d (.u a0),.d (.u a1)] (.d (.u r)):=by
 refine sq fun D0 As η0 m0 hd=> ?_;unfold Kb at hm;obtain⟨x1,q1,hm⟩:=Ac hm;refine oB q1 fun x2 q2 q1=>gI q2 (fun(p_0,p_1,p_2)=>⟨[(0,.d (.u p_0)),(1,.d (.u p_1)),(5,.d (.u p_2))],[],[],0⟩) fun s1 _ Jl q5 bl1=>gi q5 ?_ ?_<;>intro _ q5
 ·refine oB q5 fun x4 q7 q5=>gj (fun(_:Unit)=>⟨[(0,.d (.u s1.1)),(1,.d (.u s1.2.1)),(5,.d (.u x4))],[],[],0⟩) (fun _=>True) (fun Jp bk3=> ?_) fun _ _=> ?_
  ·refine gi q7 ?_ ?_<;>intro _ q7
   ·refine gA q7 EX fun _ q8 q7=> ?_;obtain rfl:=Akr q7;exact gb bk3 hd () trivial
   obtain rfl:=Akr q7;exact gb bk3 hd () trivial
  exact gA q5 EX fun _ q9 q5=>gN bl1 q5
 obtain rfl:=nR bl1 q5;let x2:=s1.2.2;obtain rfl:=Akr q1;exact Akr hm▸gE
def Gk (a0:UInt64)(a1:Int)(s1:UInt64×Int):Option ((UInt64×Int)⊕(UInt64)):=if(decide (s1.2<a1))=true then Ab (Kb s1.1 a0) fun x4=>some (.inl (x4,(w64 (s1.2+1))))else some (.inr s1.1)
def Dj (a0:UInt64)(a1:Int):Option UInt64:=Ab (Ab (iter (Gk a0 a1) EV (1,0)) fun x2=>some x2) fun x1=>some x1
theorem N5 {a0 a1 r}(hm:Dj a0 a1=some r):Sf prog 333 [.d (.u a0),.d (.i a1)] (.d (.u r)):=by
 refine sq ?_;intros;unfold Dj at hm;obtain⟨x1,q1,hm⟩:=Ac hm;refine oB q1 fun x2 q2 q1=>gI q2 (fun(p_0,p_1)=>⟨[(0,.d (.u a0)),(1,.d (.i a1)),(5,.d (.u p_0)),(6,.d (.i p_1))],[],[],0⟩) fun s1 _ Jl q5 bl1=>gi q5 ?_ ?_<;>intro _ q5
 ·exact gA q5 Xt fun _ q7 q5=>gN bl1 q5
 obtain rfl:=nR bl1 q5;let x2:=s1.1;obtain rfl:=Akr q1;exact Akr hm▸gE
def CY (a0:UInt64×UInt64×UInt64)(a1:Int)(s1:Int×UInt64×UInt64×UInt64):Option ((Int×UInt64×UInt64×UInt64)⊕(UInt64×UInt64×UInt64)):=if(decide (s1.1<3))=true then Ab (Dj (toU (w64 ((w64 ((w64 (3*a1))+s1.1))+1))) 3) fun x4=>Ab (Dt x4 7) fun x5=>Ab (idx [a0.1,a0.2.1,a0.2.2] s1.1) fun x6=>Ab (Dt x6 x5) fun x7=>Ab (Dj x7 17) fun x8=>Ab (idx [s1.2.1,s1.2.2.1,s1.2.2.2] s1.1) fun x9=>bnd (if s1.1=0 then x8 else s1.2.1) fun x10=>bnd (if s1.1=1 then x8 else s1.2.2.1) fun x11=>bnd (if s1.1=2 then x8 else s1.2.2.2) fun x12=>some (.inl ((w64 (s1.1+1)),x10,x11,x12))else some (.inr (s1.2.1,s1.2.2.1,s1.2.2.2))
def CX (x14:UInt64)(s2:Int×UInt64×UInt64×UInt64):Option ((Int×UInt64×UInt64×UInt64)⊕(UInt64×UInt64×UInt64)):=if(decide (s2.1<3))=true then Ab (idx [s2.2.1,s2.2.2.1,s2.2.2.2] s2.1) fun x18=>Ab (Dt x18 x14) fun x19=>Ab (idx [s2.2.1,s2.2.2.1,s2.2.2.2] s2.1) fun x20=>bnd (if s2.1=0 then x19 else s2.2.1) fun x21=>bnd (if s2.1=1 then x19 else s2.2.2.1) fun x22=>bnd (if s2.1=2 then x19 else s2.2.2.2) fun x23=>some (.inl ((w64 (s2.1+1)),x21,x22,x23))else some (.inr (s2.2.1,s2.2.2.1,s2.2.2.2))
def HF (a0:UInt64×UInt64×UInt64)(a1:Int):Option (UInt64×UInt64×UInt64):=Ab (Ab (iter (CY a0 a1) EV (0,0,0,0)) fun x2=>some (x2.1,x2.2.1,x2.2.2)) fun x1=>Ab (Dt x1.1 x1.2.1) fun x13=>Ab (Dt x13 x1.2.2) fun x14=>Ab (Ab (iter (CX x14) EV (0,x1.1,x1.2.1,x1.2.2)) fun x16=>some (x16.1,x16.2.1,x16.2.2)) fun x15=>some x15
theorem Ud {a0 a1 r}(hm:HF a0 a1=some r):Sf prog 296 [ag (Qj a0),.d (.i a1)] (ag (Qj r)):=by
 refine sq ?_;intros;unfold HF at hm;obtain⟨x1,q1,hm⟩:=Ac hm;refine oB q1 fun x2 q2 q1=>gI q2 (fun(p_0,p_1,p_2,p_3)=>⟨[(1,.d (.i a1)),(2,.pb 0 0),(4,.pb 1 0),(5,.pb 2 0),(6,.d (.i p_0))],[(0,.box 2 [.d (.u p_1),.d (.u p_2),.d (.u p_3)] 228),(1,.box 1 [.d (.u 0),.d (.u 0),.d (.u 0)] 228),(2,.box 0 [.d (.u a0.1),.d (.u a0.2.1),.d (.u a0.2.2)] 228)],[],3⟩) fun s1 _ Jl q5 bl1=>gi q5 ?_ ?_<;>intro _ q5
 ·refine gA q5 N5 fun _ q7 q5=>gA q5 EX fun _ q8 q5=>oB q5 fun _ q9 q5=>OF (fun _=>q9)<|gldA D.u (fun _=>q9)<|gA q5 EX fun _ q10 q5=>gA q5 N5 fun x8 q11 q5=>oB q5 fun _ q12 q5=>OF (fun _=>q12)<|bE q5 ?_;intro _ q5;refine bE q5 ?_;intro _ q5;refine bE q5 ?_;intro _ q5;exact Af9 D.u x8 q12<|gN bl1 q5
 obtain rfl:=nR bl1 q5;let x2:=(s1.2.1,s1.2.2.1,s1.2.2.2);obtain rfl:=Akr q1;refine gA hm EX fun _ q16 hm=>gA hm EX fun x14 q17 hm=> ?_;obtain⟨x15,q18,hm⟩:=Ac hm;refine oB q18 fun x16 q19 q18=>gI q19 (fun(p_0,p_1,p_2,p_3)=>⟨[(4,.pb 1 0),(5,.pb 2 0),(8,.d (.u x14)),(9,.d (.i p_0)),(2,.pb 0 0)],[(0,.box 2 [.d (.u p_1),.d (.u p_2),.d (.u p_3)] 228),(1,.box 1 [.d (.u 0),.d (.u 0),.d (.u 0)] 228),(2,.box 0 [.d (.u a0.1),.d (.u a0.2.1),.d (.u a0.2.2)] 228)],[],3⟩) fun s2 _ Jl q22 bl2=>gi q22 ?_ ?_<;>intro _ q22
 ·refine oB q22 fun _ q24 q22=>OF (fun _=>q24)<|gldA D.u (fun _=>q24)<|gA q22 EX fun x19 q25 q22=>oB q22 fun _ q26 q22=>OF (fun _=>q26)<|bE q22 ?_;intro _ q22;refine bE q22 ?_;intro _ q22;refine bE q22 ?_;intro _ q22;exact Af9 D.u x19 q26<|gN bl2 q22
 obtain rfl:=nR bl2 q22;let x16:=(s2.2.1,s2.2.2.1,s2.2.2.2);obtain rfl:=Akr q18;exact Akr hm▸gE
def IA (s1:Int×UInt64×UInt64×UInt64):Option ((Int×UInt64×UInt64×UInt64)⊕(UInt64×UInt64×UInt64)):=if(decide (s1.1<8))=true then Ab (HF s1.2 s1.1) fun x4=>some (.inl ((w64 (s1.1+1)),x4.1,x4.2.1,x4.2.2))else some (.inr (s1.2.1,s1.2.2.1,s1.2.2.2))
def Ka (a0:UInt64×UInt64×UInt64):Option (UInt64×UInt64×UInt64):=Ab (Ab (iter IA EV (0,a0.1,a0.2.1,a0.2.2)) fun x2=>some (x2.1,x2.2.1,x2.2.2)) fun x1=>some x1
theorem Xs {a0 r}(hm:Ka a0=some r):Sf prog 237 [ag (Qj a0)] (ag (Qj r)):=by
 refine sq ?_;intros;unfold Ka at hm;obtain⟨x1,q1,hm⟩:=Ac hm;refine oB q1 fun x2 q2 q1=>gI q2 (fun(p_0,p_1,p_2,p_3)=>⟨[(1,.pb 0 0),(2,.pb 1 0),(3,.d (.i p_0))],[(0,.box 1 [.d (.u 0),.d (.u 0),.d (.u 0)] 228),(1,.box 0 [.d (.u p_1),.d (.u p_2),.d (.u p_3)] 228)],[],2⟩) fun s1 _ Jl q5 bl1=>gi q5 ?_ ?_<;>intro _ q5
 ·exact gA q5 Ud fun _ q7 q5=>gN bl1 q5
 obtain rfl:=nR bl1 q5;let x2:=(s1.2.1,s1.2.2.1,s1.2.2.2);obtain rfl:=Akr q1;exact Akr hm▸gE
def CM (x1:List UInt64)(s1:Int×UInt64×UInt64×UInt64):Option ((Int×UInt64×UInt64×UInt64)⊕(UInt64×UInt64×UInt64)):=if((decide (s1.1<(x1.length:Int)))||(s1.1==0))=true then Ab (if(decide (s1.1<(x1.length:Int)))=true then Ab (idx x1 s1.1) fun x6=>Ab (Dt s1.2.1 x6) fun x7=>some x7 else some s1.2.1) fun x5=>Ab (if(decide ((w64 (s1.1+1))<(x1.length:Int)))=true then Ab (idx x1 (w64 (s1.1+1))) fun x9=>Ab (Dt s1.2.2.1 x9) fun x10=>some x10 else some s1.2.2.1) fun x8=>Ab (Ka (x5,x8,s1.2.2.2)) fun x11=>some (.inl ((w64 (s1.1+2)),x11.1,x11.2.1,x11.2.2))else some (.inr (s1.2.1,s1.2.2.1,s1.2.2.2))
def L8 (a0:List UInt8):Option (UInt64×UInt64):=Ab (Lz a0) fun x1=>Ab (Ab (iter (CM x1) EV (0,0,0,(toU (a0.length:Int)))) fun x3=>some (x3.1,x3.2.1,x3.2.2)) fun x2=>some (x2.1,x2.2.1)
theorem Xr {a0 r}(hm:L8 a0=some r):Sf prog 144 [sl eB a0] (ag (A7 r)):=by
 refine sq fun D0 As η0 m0 hd=>gD hm Aag fun x1 q1 hm=> ?_;obtain⟨x2,q2,hm⟩:=Ac hm;refine oB q2 fun x3 q3 q2=>gI q3 (fun(p_0,p_1,p_2,p_3)=>⟨[(2,.pb 0 0),(3,.ow 1),(4,.pb 2 0),(5,.d (.i p_0))],[(0,.box 2 [.d (.u p_1),.d (.u p_2),.d (.u p_3)] 228),(1,.row 1 1 _ eU x1),(2,.box 0 [.d (.u 0),.d (.u 0)] 81)],[],3⟩) fun s1 _ Jl q6 bl1=>gi q6 ?_ ?_<;>intro _ q6
 ·refine oB q6 fun x5 q8 q6=>gj (fun(_:Unit)=>⟨[(2,.pb 0 0),(3,.ow 1),(4,.pb 2 0),(5,.d (.i s1.1))],[(0,.box 2 [.d (.u x5),.d (.u s1.2.2.1),.d (.u s1.2.2.2)] 228),(1,.row 1 1 _ eU x1),(2,.box 0 [.d (.u 0),.d (.u 0)] 81)],[],3⟩) (fun _=>True) (fun Jp bk3=> ?_) fun _ _=> ?_
  ·refine gi q8 ?_ ?_<;>intro _ q8
   ·refine oB q8 fun _ q9 q8=>G2 (E:=eU) (fun _=>q9)<|Yg (k:=1) (fo:=0) (nn:=1) (ag:=false) (E:=eU) (fun _=>rfl) (fun _=>q9)<|gA q8 EX fun _ q10 q8=> ?_;obtain rfl:=Akr q8;exact gb bk3 hd () trivial
   obtain rfl:=Akr q8;exact gb bk3 hd () trivial
  refine oB q6 fun x8 q11 q6=>gj (fun(_:Unit)=>⟨[(2,.pb 0 0),(3,.ow 1),(4,.pb 2 0),(5,.d (.i s1.1))],[(0,.box 2 [.d (.u x5),.d (.u x8),.d (.u s1.2.2.2)] 228),(1,.row 1 1 _ eU x1),(2,.box 0 [.d (.u 0),.d (.u 0)] 81)],[],3⟩) (fun _=>True) (fun Jp bk4=> ?_) fun _ _=> ?_
  ·refine gi q11 ?_ ?_<;>intro _ q11
   ·refine oB q11 fun _ q12 q11=>G2 (E:=eU) (fun _=>q12)<|Yg (k:=1) (fo:=0) (nn:=1) (ag:=false) (E:=eU) (fun _=>rfl) (fun _=>q12)<|gA q11 EX fun _ q13 q11=> ?_;obtain rfl:=Akr q11;exact gb bk4 hd () trivial
   obtain rfl:=Akr q11;exact gb bk4 hd () trivial
  exact gA q6 Xs fun _ q14 q6=>gN bl1 q6
 obtain rfl:=nR bl1 q6;let x3:=(s1.2.1,s1.2.2.1,s1.2.2.2);obtain rfl:=Akr q2;exact Akr hm▸gE
def KR (a0:List UInt8):Option (UInt64×UInt64):=Ab (L8 a0) fun x1=>some x1
theorem VK {a0 r}(hm:KR a0=some r):Sf prog 63 [sl eB a0] (ag (A7 r)):=by
 refine sq ?_;intros;refine gA hm Xr fun _ q1 hm=> ?_;exact Akr hm▸gE
def GF (a1:List UInt8)(i1:Int)(x2:g_api_Done)(s1:Unit):Option ((Unit)⊕Bool):=Ab (KR a1) fun x3=>if(G3 x2.Body x3)=true then some (.inr true)else some (.inl ())
def G0 (a0:Af)(a1:List UInt8):Option Bool:=Ab (D1 (GF a1) a0.Done 0 ()) fun x1=>match x1 with| .inr r=>some r| .inl y1=>some false
theorem Rw {a0 a1 r}(hm:G0 a0 a1=some r):Sf prog 14 [ag (AK a0),sl eB a1] (.d (.t r)):=by
 refine sq ?_;intros;refine oB hm fun _ q1 hm=>Jd 0 (E:=Ai) (xs:=a0.Done) 8 fun hle1=>gF (ER _ _ _) q1 (fun p0 _=>⟨[(1,sl eB a1),(8,sl Ai a0.Done),(9,.d (.i (a0.Done.length:Int))),(10,.d (.i p0)),(2,.pb 0 0)],[(0,.box 0 [.d (.i a0.Share.Id),.d (.u a0.Share.X),.d (.t a0.Bad),.d (.t a0.Up),sl Ai a0.Done,sl eB a0.Store.Safe,sl eB a0.Store.Open] 59)],[],1⟩) fun i1 s1 Jl bl1=>cR bl1 (fun _ _ q5 q4 bl1=> ?_) fun e=> ?_
 ·refine gx Ai 4 q5<|gA q4 VK fun _ q6 q4=>gi q4 ?_ ?_<;>intro _ q4
  ·obtain rfl:=nT bl1 q4;exact Akr hm▸gE
  exact gT bl1 hle1 q4
 subst e;exact Akr hm▸gE
def Iy (a0:List UInt8)(a1:Ba)(a2:UInt64)(a3:Int):Option Bool:=Ab (U7) fun x1=>if(!x1)=true then some false else Ab (gu (!(decide ((a0.length:Int)>200))) (Jo a1)) fun x2=>if(((((decide ((a0.length:Int)>200))||(!x2))||(decide (a3<0)))||(decide (a3>5000)))||((a2.toNat:Int)==(a1.Key.toNat:Int)))=true then some true else Ab (IQ a0 a1) fun x3=>Ab (HN (⟨a1.Account,a1.Names,a2,a1.Life⟩:Ba) 7 100 (⟨#[103,114,101,97,116,115,101,97,108]⟩:ByteArray)) fun x4=>if((!x3.2.2.2.2.2.2)||(x4.2 !=0))=true then some true else Ab (Fl x3.2.2.1 x4.1 100) fun x5=>Ab (Fe x3.2.2.2.2.2.1) fun x6=>Ab (Fe x5.2.1) fun x7=>if(((x5.2.2 !=0)||(x6.2 !=0))||(x7.2 !=0))=true then some true else Ab (idx x3.2.1 0) fun x8=>Ab (Bv x8 1 x6.1 x3.2.2.2.1 x3.2.2.2.2.1) fun x9=>if(x9.2.2 !=0)=true then if(true||(eqS (bs x6.1) (bs x7.1)))=true then Ab (gu (!(x9.2.2==0)) (CV x6.1 x3.2.2.2.1 x3.2.2.2.2.1)) fun x10=>bnd (((x9.2.2==0)||(x10 !=0))) fun x11=>some x11 else Ab (GH x9.1 a3) fun x12=>Ab (HB x12.1) fun x13=>Ab (Bv x9.1 2 x7.1 x3.2.2.2.1 x3.2.2.2.2.1) fun x14=>Ab (Bv x13.1 2 x7.1 x3.2.2.2.1 x3.2.2.2.2.1) fun x15=>Ab (Bv x13.1 1 x6.1 x3.2.2.2.1 x3.2.2.2.2.1) fun x16=>Ab (gu (((x12.2==0)&&(x13.2==0))&&(!(x14.2.2==250))) (G0 x9.1 x7.1)) fun x17=>bnd (((((((x12.2==0)&&(x13.2==0))&&((x14.2.2==250)||x17))&&(x15.2.2==x14.2.2))&&(x16.2.2==0))&&(x16.2.1.Id==x9.1.Share.Id))) fun x18=>some x18 else Ab (CV x7.1 x3.2.2.2.1 x3.2.2.2.2.1) fun x19=>if((x19 !=0)||(eqS (bs x6.1) (bs x7.1)))=true then Ab (gu (!(x9.2.2==0)) (CV x6.1 x3.2.2.2.1 x3.2.2.2.2.1)) fun x20=>bnd (((x9.2.2==0)||(x20 !=0))) fun x21=>some x21 else Ab (GH x9.1 a3) fun x22=>Ab (HB x22.1) fun x23=>Ab (Bv x9.1 2 x7.1 x3.2.2.2.1 x3.2.2.2.2.1) fun x24=>Ab (Bv x23.1 2 x7.1 x3.2.2.2.1 x3.2.2.2.2.1) fun x25=>Ab (Bv x23.1 1 x6.1 x3.2.2.2.1 x3.2.2.2.2.1) fun x26=>Ab (gu (((x22.2==0)&&(x23.2==0))&&(!(x24.2.2==250))) (G0 x9.1 x7.1)) fun x27=>bnd (((((((x22.2==0)&&(x23.2==0))&&((x24.2.2==250)||x27))&&(x25.2.2==x24.2.2))&&(x26.2.2==0))&&(x26.2.1.Id==x9.1.Share.Id))) fun x28=>some x28
theorem SM {a0 a1 a2 a3 r}(hm:Iy a0 a1 a2 a3=some r):Sf prog 3 [sl eB a0,ag (FA a1),.d (.u a2),.d (.i a3)] (.d (.t r)):=by
 refine sq ?_;intros;refine gA hm AeM fun _ q1 hm=>gi hm ?_ ?_<;>intro _ hm
 ·exact Akr hm▸gE
 refine oB hm fun _ q2 hm=>gcH q2 T6<|gi hm ?_ ?_<;>intro _ hm
 ·exact Akr hm▸gE
 refine gA hm WV fun _ q3 hm=>gA hm OZ fun _ q4 hm=>gi hm ?_ ?_<;>intro _ hm
 ·exact Akr hm▸gE
 refine gD hm Mx fun _ q5 hm=>gA hm Sv fun x6 q6 hm=>gA hm Sv fun x7 q7 hm=>gi hm ?_ ?_<;>intro _ hm
 ·exact Akr hm▸gE
 refine oB hm fun _ q8 hm=>gx AK 7 q8<|gA hm DN fun _ q9 hm=>AhD 128 hm (fun hc5 hm=> ?_) fun hc5 hm=> ?_
 ·refine gbs (xs:=x6.1)<|gbs (xs:=x7.1)<|gi hm ?_ ?_<;>intro _ hm
  ·refine oB hm fun _ q10 hm=>gcH q10 KG<|bE hm ?_;intro _ hm;exact Akr hm▸gE
  refine gA hm N4 fun _ q12 hm=>gA hm OS fun _ q13 hm=>gA hm DN fun _ q14 hm=>gA hm DN fun _ q15 hm=>gA hm DN fun _ q16 hm=>oB hm fun _ q17 hm=>gcH q17 Rw<|bE hm ?_;intro _ hm;exact Akr hm▸gE
 refine gA hm KG fun _ q19 hm=>gbs (xs:=x6.1)<|gbs (xs:=x7.1)<|gi hm ?_ ?_<;>intro _ hm
 ·refine oB hm fun _ q20 hm=>gcH q20 KG<|bE hm ?_;intro _ hm;exact Akr hm▸gE
 refine gA hm N4 fun _ q22 hm=>gA hm OS fun _ q23 hm=>gA hm DN fun _ q24 hm=>gA hm DN fun _ q25 hm=>gA hm DN fun _ q26 hm=>oB hm fun _ q27 hm=>gcH q27 Rw<|bE hm ?_;intro _ hm;exact Akr hm▸gE
end Go.Proofs.YtlahakpgjlmeaaaGreatDoor
