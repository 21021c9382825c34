/- Several texts, one behind the other. Conditions: none. -/
import Derived.Test.YtbajlmaijjcbmaaGreatDoorZk
import Derived.KernelRfl
import Derived.Test.YtbajlmaijjcbmaaGreatDoorZg
import Derived.Test.YtbajlmaijjcbmaaGreatDoorZh
import Derived.Test.YtbajlmaijjcbmaaGreatDoorZi
import Derived.Test.YtbajlmaijjcbmaaGreatDoorZb
import Derived.Test.YtbajlmaijjcbmaaGreatDoorZj
import Derived.Test.YtbajlmaijjcbmaaGreatDoorCards
import Derived.Test.YtbajlmaijjcbmaaGreatDoorTie
import Derived.WalkKit
import Derived.ProofKit
import Derived.OpenShut
import Derived.Deep.DeepHandedRow
import Derived.Lib.LaidTab
import Derived.SevenTiedAt
import Derived.Stop.LaidErr
set_option linter.unusedSimpArgs false
set_option linter.unusedVariables false
set_option maxHeartbeats 20000000
set_option maxRecDepth 100000
section
namespace Go.Proofs.YtbajlmaijjcbmaaGreatDoor
open Go Go.Gw Go.Ax
abbrev FP:Nat:=2305843009213693951
theorem litP:(2305843009213693951:UInt64).toNat=FP:=rfl
theorem and_P (n:Nat):n&&&2305843009213693951=n%2305843009213693952:=Nat.and_two_pow_sub_one_eq_mod n 61
theorem toU_toNat {n:Nat}(h:n<18446744073709551616):(toU (n:Int)).toNat=n:=by
 unfold toU;rw[UInt64.toNat_ofNat'];omega
theorem shlU3 {h:UInt64}(hh:h.toNat<288230376151711744):(GO h 3).toNat=8*h.toNat:=by
 unfold GO;rw[show(h.toNat:Int)*2^ (min 3 64)=((8*h.toNat:Nat):Int)from by
  rw[show min 3 64=3 from rfl]; omega]
 exact toU_toNat (by omega)
theorem shrU_toNat (x:UInt64)(k:Nat)(hk:k≤64):(Dj x k).toNat=x.toNat/2^k:=by
 unfold Dj;rw[UInt64.toNat_ofNat',Nat.min_eq_left hk];exact Nat.mod_eq_of_lt (Nat.lt_of_le_of_lt (Nat.div_le_self _ _) x.toNat_lt)
theorem or_add {a b:Nat}(h:b<8):8*a|||b=8*a+b:=(Nat.two_pow_add_eq_or_of_lt (i:=3) h a).symm
theorem pfold_nat {h l:UInt64}(hh:h.toNat<288230376151711744):(V0 h l).toNat=(h.toNat*18446744073709551616+l.toNat)%FP:=by
 have hl:=l.toNat_lt;have e1:(l&&&2305843009213693951).toNat=l.toNat%2305843009213693952:=by rw[UInt64.toNat_and,litP]; exact and_P _
 have e2:(Dj l 61).toNat=l.toNat/2305843009213693952:=shrU_toNat l 61 (by omega);have e3:((GO h 3)|||(Dj l 61)).toNat=8*h.toNat+l.toNat/2305843009213693952:=by
  rw[UInt64.toNat_or,shlU3 hh,e2]; exact or_add (by omega)
 have e4:((l&&&2305843009213693951)+((GO h 3)|||(Dj l 61))).toNat=l.toNat%2305843009213693952+(8*h.toNat+l.toNat/2305843009213693952):=by
  rw[UInt64.toNat_add,e1,e3]; omega
 unfold V0;generalize hn:(l&&&2305843009213693951)+((GO h 3)|||(Dj l 61))=n at*;have e5:(n&&&2305843009213693951).toNat=n.toNat%2305843009213693952:=by rw[UInt64.toNat_and,litP]; exact and_P _
 have e6:(Dj n 61).toNat=n.toNat/2305843009213693952:=shrU_toNat n 61 (by omega);have e7:((n&&&2305843009213693951)+Dj n 61).toNat=n.toNat%2305843009213693952+n.toNat/2305843009213693952:=by rw[UInt64.toNat_add,e5,e6]; omega
 dsimp only;generalize (n&&&2305843009213693951)+Dj n 61=k at*;split
 ·rename_i hk;rw[UInt64.toNat_sub_of_le _ _ (by rw[UInt64.le_iff_toNat_le]; exact hk),litP];simp only[FP]at*;omega
 ·simp only[FP]at*;omega
theorem pone_nat (a:UInt64):(O2 a).toNat=a.toNat%FP:=by
 unfold O2;rw[pfold_nat (by decide)];simp
theorem padd_nat (a b:UInt64):(CI a b).toNat=(a.toNat%FP+b.toNat%FP)%FP:=by
 unfold CI;rw[pone_nat,UInt64.toNat_add,pone_nat,pone_nat];simp only[FP];omega
theorem mul_high {p q r s:Nat}(hp:p<4294967296)(hq:q<4294967296)(hr:r<4294967296)(hs:s<4294967296):
  (p*r+((p*s+q*s/4294967296)/4294967296)+(((p*s+q*s/4294967296)%4294967296+q*r)/4294967296))=((p*4294967296+q)*(r*4294967296+s))/18446744073709551616:=by
 have h1:(p*4294967296+q)*(r*4294967296+s)=(p*r)*18446744073709551616+(p*s+q*r)*4294967296+q*s:=by
  rw[Nat.add_mul,Nat.mul_add,Nat.mul_add,Nat.add_mul];have a1:p*4294967296*(r*4294967296)=p*r*18446744073709551616:=by rw[Nat.mul_assoc,Nat.mul_left_comm 4294967296,←Nat.mul_assoc p]
  have a2:p*4294967296*s=p*s*4294967296:=Nat.mul_right_comm _ _ _;have a3:q*(r*4294967296)=q*r*4294967296:=(Nat.mul_assoc _ _ _).symm;rw[a1,a2,a3]; omega
 rw[h1];generalize p*r=A;generalize p*s=B;generalize q*r=C;generalize q*s=D;omega
theorem phi_nat (a b:UInt64):(phi a b).toNat=(a.toNat*b.toNat)/18446744073709551616:=by
 have ha:=a.toNat_lt;have hb:=b.toNat_lt;have m32: ∀x:UInt64,(x&&&4294967295).toNat=x.toNat%4294967296:=fun x=>by
  rw[UInt64.toNat_and]; exact Nat.and_two_pow_sub_one_eq_mod _ 32
 have s32: ∀x:UInt64,(Dj x 32).toNat=x.toNat/4294967296:=fun x=>shrU_toNat x 32 (by omega);have hp:a.toNat/4294967296<4294967296:=by omega
 have hq:a.toNat%4294967296<4294967296:=by omega
 have hr:b.toNat/4294967296<4294967296:=by omega
 have hs:b.toNat%4294967296<4294967296:=by omega
 have ea:a.toNat/4294967296*4294967296+a.toNat%4294967296=a.toNat:=Nat.div_add_mod' _ _;have eb:b.toNat/4294967296*4294967296+b.toNat%4294967296=b.toNat:=Nat.div_add_mod' _ _;have key:=mul_high hp hq hr hs;rw[ea,eb]at key;have bd: ∀x y:Nat,x<4294967296→y<4294967296→x*y≤18446744065119617025:=fun x y hx hy=>Nat.mul_le_mul (show x≤4294967295 by omega) (show y≤4294967295 by omega);have b1:=bd _ _ hp hr;have b2:=bd _ _ hp hs;have b3:=bd _ _ hq hr;have b4:=bd _ _ hq hs;have ab:a.toNat*b.toNat/18446744073709551616<18446744073709551616:=by
  rw[Nat.div_lt_iff_lt_mul (by omega)];exact Nat.lt_of_le_of_lt (Nat.mul_le_mul (show a.toNat≤18446744073709551615 by omega) (show b.toNat≤18446744073709551615 by omega)) (by omega)
 unfold phi;dsimp only;rw[←key]at ab⊢;simp only[UInt64.toNat_add,UInt64.toNat_mul,s32,m32];generalize a.toNat/4294967296*(b.toNat/4294967296)=A at*;generalize a.toNat/4294967296*(b.toNat%4294967296)=B at*;generalize a.toNat%4294967296*(b.toNat/4294967296)=C at*;generalize a.toNat%4294967296*(b.toNat%4294967296)=D at*;omega
theorem pmul_nat (a b:UInt64):(Wi a b).toNat=(a.toNat*b.toNat)%FP:=by
 have h1:(O2 a).toNat<FP:=by rw[pone_nat]; exact Nat.mod_lt _ (by decide)
 have h2:(O2 b).toNat<FP:=by rw[pone_nat]; exact Nat.mod_lt _ (by decide)
 simp only[FP]at h1 h2;have hm:(O2 a).toNat*(O2 b).toNat<5316911983139663491615228241121378304:=Nat.lt_of_le_of_lt (Nat.mul_le_mul (show(O2 a).toNat≤2305843009213693950 by omega) (show(O2 b).toNat≤2305843009213693950 by omega)) (by omega);unfold Wi;rw[pfold_nat (by rw[phi_nat]; omega),phi_nat,UInt64.toNat_mul];have:(O2 a).toNat*(O2 b).toNat/18446744073709551616*18446744073709551616+(O2 a).toNat*(O2 b).toNat%2^64=(O2 a).toNat*(O2 b).toNat:=by omega
 rw[this,pone_nat,pone_nat,←Nat.mul_mod]
theorem psev_nat (a:UInt64):(Lb a).toNat=a.toNat^17%FP:=by
 unfold Lb;dsimp only;simp only[pmul_nat,Nat.mul_mod_mod,Nat.mod_mul_mod];congr 1;rw[show(17:Nat)=1+16 from rfl,Nat.pow_add,Nat.pow_one];congr 1;generalize a.toNat=x;rw[show(16:Nat)=2*2*2*2 from rfl,Nat.pow_mul,Nat.pow_mul,Nat.pow_mul];simp only[Nat.pow_two]
theorem u_ext {a b:UInt64}(h:a.toNat=b.toNat):a=b:=UInt64.toNat_inj.1 h
end Go.Proofs.YtbajlmaijjcbmaaGreatDoor
end
section
namespace Go.Proofs.YtbajlmaijjcbmaaGreatDoor
open Go Go.Gw Go.Ax
section
variable {x4 x5 x7 y u:UInt64}
theorem dq_lt (hd:x7.toNat<4294967296)(hu:u.toNat<y.toNat):(u.toNat*4294967296+x7.toNat)/y.toNat<4294967296:=by
 rw[Nat.div_lt_iff_lt_mul (by omega)];have:(u.toNat+1)*4294967296≤y.toNat*4294967296:=Nat.mul_le_mul_right _ hu;omega
theorem dcond {q r:UInt64}(h1:2147483648≤x4.toNat∧x4.toNat<4294967296)(h0:x5.toNat<4294967296)(hd:x7.toNat<4294967296)(hy:y.toNat=x4.toNat*4294967296+x5.toNat)(hu:u.toNat<y.toNat)
  (hq:q.toNat*x4.toNat+r.toNat=u.toNat) (hr:r.toNat<4294967296):
  (((decide ((q.toNat:Int)≥4294967296))||(decide (((q*x5).toNat:Int)>(((4294967296*r)+x7).toNat:Int))))=true↔(u.toNat*4294967296+x7.toNat)/y.toNat<q.toNat):=by
 have hlt:=dq_lt hd hu;have e1:((4294967296*r)+x7).toNat=4294967296*r.toNat+x7.toNat:=by
  rw[UInt64.toNat_add,UInt64.toNat_mul,show(4294967296:UInt64).toNat=4294967296 from rfl]; omega
 rw[Bool.or_eq_true,decide_eq_true_eq,decide_eq_true_eq,e1];by_cases hb:4294967296≤q.toNat
 ·constructor
  ·intro _; omega
  ·intro _; left; omega
 ·have hB:q.toNat*x5.toNat≤4294967295*4294967295:=Nat.mul_le_mul (by omega) (by omega);have e2:(q*x5).toNat=q.toNat*x5.toNat:=by rw[UInt64.toNat_mul]; omega
  have e3:q.toNat*y.toNat=q.toNat*x4.toNat*4294967296+q.toNat*x5.toNat:=by rw[hy,Nat.mul_add,Nat.mul_assoc]
  rw[e2,Nat.div_lt_iff_lt_mul (by omega),e3];generalize q.toNat*x4.toNat=A at*;generalize q.toNat*x5.toNat=B at*;omega
theorem dstep {q r:UInt64}(h1:2147483648≤x4.toNat∧x4.toNat<4294967296)(h0:x5.toNat<4294967296)(hd:x7.toNat<4294967296)(hy:y.toNat=x4.toNat*4294967296+x5.toNat)(hu:u.toNat<y.toNat)
  (hq:q.toNat*x4.toNat+r.toNat=u.toNat) (hr:r.toNat<4294967296) (hq2:q.toNat≤4294967297) (hc:(u.toNat*4294967296+x7.toNat)/y.toNat<q.toNat):
  (q-1).toNat=q.toNat-1∧(r+x4).toNat=r.toNat+x4.toNat∧(q-1).toNat*x4.toNat+(r+x4).toNat=u.toNat∧(u.toNat*4294967296+x7.toNat)/y.toNat≤(q-1).toNat∧
  (4294967296≤(r+x4).toNat→(q-1).toNat=(u.toNat*4294967296+x7.toNat)/y.toNat):=by
 have q1:1≤q.toNat:=Nat.lt_of_le_of_lt (Nat.zero_le _) hc;have e1:(q-1).toNat=q.toNat-1:=by rw[UInt64.toNat_sub_of_le _ _ (by rw[UInt64.le_iff_toNat_le]; exact q1)]; rfl
 have e2:(r+x4).toNat=r.toNat+x4.toNat:=by rw[UInt64.toNat_add]; omega
 have e3:(q.toNat-1)*x4.toNat+x4.toNat=q.toNat*x4.toNat:=by
  rw[←Nat.succ_mul]; congr 1; omega
 refine⟨e1,e2,by rw[e1,e2,Nat.add_comm r.toNat,←Nat.add_assoc,e3,hq],by rw[e1]; exact Nat.le_sub_one_of_lt hc,fun hb=> ?_⟩;rw[e2]at hb;refine Nat.le_antisymm ?_ (by rw[e1]; exact Nat.le_sub_one_of_lt hc);rw[e1,Nat.le_div_iff_mul_le (Nat.lt_of_le_of_lt (Nat.zero_le _) hu)];clear hc e1 e2;have hB:(q.toNat-1)*x5.toNat≤4294967296*4294967295:=Nat.mul_le_mul (by omega) (by omega);have e4:(q.toNat-1)*y.toNat=(q.toNat-1)*x4.toNat*4294967296+(q.toNat-1)*x5.toNat:=by rw[hy,Nat.mul_add,Nat.mul_assoc]
 rw[e4];generalize (q.toNat-1)*x4.toNat=A at*;generalize (q.toNat-1)*x5.toNat=B at*;generalize q.toNat*x4.toNat=C at*;omega
theorem dloop1 (h1:2147483648≤x4.toNat∧x4.toNat<4294967296)(h0:x5.toNat<4294967296)(hd:x7.toNat<4294967296)(hy:y.toNat=x4.toNat*4294967296+x5.toNat)(hu:u.toNat<y.toNat):
  ∀(n:Nat) (q r:UInt64),q.toNat*x4.toNat+r.toNat=u.toNat→r.toNat<4294967296→q.toNat≤4294967297→(u.toNat*4294967296+x7.toNat)/y.toNat≤q.toNat→4294967296≤r.toNat+n*2147483648→
   ∃p,iter (Df x4 x5 x7) (n+1) (q,r)=some p∧p.toNat=(u.toNat*4294967296+x7.toNat)/y.toNat:=by
 intro n;induction n with
 |zero=>intro q r _ hr _ _ hn; omega
 |succ n ih=>
  intro q r hq hr hq2 hle hn;have hc:=dcond h1 h0 hd hy hu hq hr;by_cases hcc:(u.toNat*4294967296+x7.toNat)/y.toNat<q.toNat
  ·obtain⟨s1,s2,s3,s4,s5⟩:=dstep h1 h0 hd hy hu hq hr hq2 hcc;by_cases hb:4294967296≤(r+x4).toNat
   ·refine⟨q-1,AL ?_,s5 hb⟩;unfold Df;rw[if_pos (hc.2 hcc),if_pos (by rw[decide_eq_true_eq]; dsimp only; omega)]
   ·obtain⟨p,p1,p2⟩:=ih (q-1) (r+x4) s3 (by omega) (by omega) s4 (by omega);refine⟨p,?_,p2⟩;rw[Av (s':=(q-1,r+x4)),p1];unfold Df;rw[if_pos (hc.2 hcc),if_neg (by rw[decide_eq_true_eq]; dsimp only; omega)]
  ·refine⟨q,AL ?_,by omega⟩;unfold Df;rw[if_neg (fun h=>hcc (hc.1 h))]
theorem dloop2 (h1:2147483648≤x4.toNat∧x4.toNat<4294967296)(h0:x5.toNat<4294967296)(hd:x7.toNat<4294967296)(hy:y.toNat=x4.toNat*4294967296+x5.toNat)(hu:u.toNat<y.toNat):
  ∀(n:Nat) (q r:UInt64),q.toNat*x4.toNat+r.toNat=u.toNat→r.toNat<4294967296→q.toNat≤4294967297→(u.toNat*4294967296+x7.toNat)/y.toNat≤q.toNat→4294967296≤r.toNat+n*2147483648→
   ∃p,iter (De x4 x5 x7) (n+1) (r,q)=some p∧p.toNat=(u.toNat*4294967296+x7.toNat)/y.toNat:=by
 intro n;induction n with
 |zero=>intro q r _ hr _ _ hn; omega
 |succ n ih=>
  intro q r hq hr hq2 hle hn;have hc:=dcond h1 h0 hd hy hu hq hr;by_cases hcc:(u.toNat*4294967296+x7.toNat)/y.toNat<q.toNat
  ·obtain⟨s1,s2,s3,s4,s5⟩:=dstep h1 h0 hd hy hu hq hr hq2 hcc;by_cases hb:4294967296≤(r+x4).toNat
   ·refine⟨q-1,AL ?_,s5 hb⟩;unfold De;rw[if_pos (hc.2 hcc),if_pos (by rw[decide_eq_true_eq]; dsimp only; omega)]
   ·obtain⟨p,p1,p2⟩:=ih (q-1) (r+x4) s3 (by omega) (by omega) s4 (by omega);refine⟨p,?_,p2⟩;rw[Av (s':=(r+x4,q-1)),p1];unfold De;rw[if_pos (hc.2 hcc),if_neg (by rw[decide_eq_true_eq]; dsimp only; omega)]
  ·refine⟨q,AL ?_,by omega⟩;unfold De;rw[if_neg (fun h=>hcc (hc.1 h))]
theorem dstart (h1:2147483648≤x4.toNat∧x4.toNat<4294967296)(h0:x5.toNat<4294967296)(hd:x7.toNat<4294967296)(hy:y.toNat=x4.toNat*4294967296+x5.toNat)(hu:u.toNat<y.toNat):
  (u/x4).toNat*x4.toNat+(u-(u/x4)*x4).toNat=u.toNat∧(u-(u/x4)*x4).toNat<4294967296∧(u/x4).toNat≤4294967297∧(u.toNat*4294967296+x7.toNat)/y.toNat≤(u/x4).toNat:=by
 have e1:(u/x4).toNat=u.toNat/x4.toNat:=UInt64.toNat_div _ _;have hmul:u.toNat/x4.toNat*x4.toNat≤u.toNat:=Nat.div_mul_le_self _ _;have hul:=u.toNat_lt;have e2:((u/x4)*x4).toNat=u.toNat/x4.toNat*x4.toNat:=by rw[UInt64.toNat_mul,e1]; omega
 have e3:(u-(u/x4)*x4).toNat=u.toNat-u.toNat/x4.toNat*x4.toNat:=by
  rw[UInt64.toNat_sub_of_le _ _ (by rw[UInt64.le_iff_toNat_le,e2]; exact hmul),e2]
 have e4:u.toNat-u.toNat/x4.toNat*x4.toNat=u.toNat%x4.toNat:=by
  have:=Nat.div_add_mod' u.toNat x4.toNat; omega
 have e5:=Nat.mod_lt u.toNat (show 0<x4.toNat by omega);refine⟨by rw[e1,e3]; omega,by rw[e3,e4]; omega,?_,?_⟩
 ·rw[e1];have:u.toNat/x4.toNat<4294967298:=by
   rw[Nat.div_lt_iff_lt_mul (by omega)];omega
  omega
 ·rw[e1,Nat.le_div_iff_mul_le (by omega)];have h2:(u.toNat*4294967296+x7.toNat)/y.toNat*y.toNat≤u.toNat*4294967296+x7.toNat:=Nat.div_mul_le_self _ _;generalize (u.toNat*4294967296+x7.toNat)/y.toNat=Q at*;have h3:Q*y.toNat=Q*x4.toNat*4294967296+Q*x5.toNat:=by rw[hy,Nat.mul_add,Nat.mul_assoc]
  rw[h3]at h2;generalize Q*x4.toNat=A at*;generalize Q*x5.toNat=B at*;omega
theorem drest {q:UInt64}(hu:u.toNat<y.toNat)(hq:q.toNat=(u.toNat*4294967296+x7.toNat)/y.toNat):(((u*4294967296)+x7)-(q*y)).toNat=(u.toNat*4294967296+x7.toNat)%y.toNat:=by
 have hyl:=y.toNat_lt;have hm:=Nat.mod_lt (u.toNat*4294967296+x7.toNat) (show 0<y.toNat by omega);have hdm:=Nat.div_add_mod' (u.toNat*4294967296+x7.toNat) y.toNat;rw[UInt64.toNat_sub,UInt64.toNat_add,UInt64.toNat_mul,UInt64.toNat_mul,hq,show(4294967296:UInt64).toNat=4294967296 from rfl];generalize (u.toNat*4294967296+x7.toNat)/y.toNat*y.toNat=Z at*;omega
end
theorem shlU_nat {x:UInt64}{k:Nat}(hk:k≤63):(GO x k).toNat=(x.toNat*2^k)%18446744073709551616:=by
 unfold GO;rw[Nat.min_eq_left (by omega),show(x.toNat:Int)*2^k=((x.toNat*2^k:Nat):Int)from by simp];unfold toU;rw[UInt64.toNat_ofNat'];generalize x.toNat*2^k=z;omega
theorem or_nat {a b k:Nat}(h:b<2^k):a*2^k|||b=a*2^k+b:=by
 rw[Nat.mul_comm]; exact(Nat.two_pow_add_eq_or_of_lt h a).symm
theorem div64_eq {hi lo y0:UInt64}{s:Nat}(hs:s≤63)(hlz:CG y0=some (s:Int))(hn1:9223372036854775808≤y0.toNat*2^s)(hn2:y0.toNat*2^s<18446744073709551616)(hh:hi.toNat<y0.toNat):
  ∃q r,F8 hi lo y0=some (q,r)∧r.toNat=(hi.toNat*18446744073709551616+lo.toNat)%y0.toNat:=by
 have hyne:y0≠0:=fun e=>by rw[e]at hh; simp at hh
 unfold F8;rw[if_neg (by rw[beq_iff_eq]; omega),Ab,if_neg (by rw[decide_eq_true_eq]; omega),Ab];by_cases hz:hi.toNat=0
 ·rw[if_pos (by rw[beq_iff_eq]; omega),if_pos hyne,if_pos hyne];refine⟨_,_,rfl,?_⟩;rw[UInt64.toNat_mod,hz]; simp
 ·have hts:(toU (s:Int)).toNat=s:=toU_toNat (by omega);have h64:(64-toU (s:Int)).toNat=64-s:=by
   rw[UInt64.toNat_sub_of_le _ _ (by rw[UInt64.le_iff_toNat_le,hts]; show s≤64; omega),hts]; rfl
  rw[if_neg (by rw[beq_iff_eq]; omega),hlz,Ab,hts,h64];simp only[C0];have hps:0<2^s:=Nat.two_pow_pos s;have hpp:2^s*2^ (64-s)=18446744073709551616:=by rw[←Nat.pow_add,show s+(64-s)=64 from by omega]
  have hY:(GO y0 s).toNat=y0.toNat*2^s:=by rw[shlU_nat (by omega)]; exact Nat.mod_eq_of_lt hn2
  have hlo:=lo.toNat_lt;have hlod:lo.toNat/2^ (64-s)<2^s:=by rw[Nat.div_lt_iff_lt_mul (Nat.two_pow_pos _),hpp]; omega
  have hhs:hi.toNat*2^s+2^s≤y0.toNat*2^s:=by rw[←Nat.succ_mul]; exact Nat.mul_le_mul_right _ hh
  have hU:((GO hi s)|||(Dj lo (64-s))).toNat=hi.toNat*2^s+lo.toNat/2^ (64-s):=by
   rw[UInt64.toNat_or,shlU_nat (by omega),shrU_toNat _ _ (by omega),Nat.mod_eq_of_lt (by omega),or_nat hlod]
  have hL:(GO lo s).toNat=(lo.toNat*2^s)%18446744073709551616:=shlU_nat (by omega);have m32: ∀x:UInt64,(x&&&4294967295).toNat=x.toNat%4294967296:=fun x=>by
   rw[UInt64.toNat_and]; exact Nat.and_two_pow_sub_one_eq_mod _ 32
  have s32: ∀x:UInt64,(Dj x 32).toNat=x.toNat/4294967296:=fun x=>shrU_toNat x 32 (by omega);have hlos:lo.toNat*2^s=lo.toNat/2^ (64-s)*18446744073709551616+(lo.toNat*2^s)%18446744073709551616:=by
   have e1:lo.toNat*2^s/18446744073709551616=lo.toNat/2^ (64-s):=by
    rw[←hpp,Nat.mul_comm,Nat.mul_div_mul_left _ _ hps]
   rw[←e1]; exact(Nat.div_add_mod' _ _).symm
  have hN:(hi.toNat*18446744073709551616+lo.toNat)*2^s=(hi.toNat*2^s+lo.toNat/2^ (64-s))*18446744073709551616+(lo.toNat*2^s)%18446744073709551616:=by
   rw[Nat.add_mul,hlos,Nat.add_mul,Nat.mul_right_comm];omega
  generalize hgy:GO y0 s=y at*;generalize hgu:(GO hi s)|||(Dj lo (64-s))=u at*;generalize hgl:GO lo s=l at*;have hyl:=y.toNat_lt;have a1:2147483648≤(Dj y 32).toNat∧(Dj y 32).toNat<4294967296:=by rw[s32]; omega
  have a0:(y&&&4294967295).toNat<4294967296:=by rw[m32]; omega
  have ay:y.toNat=(Dj y 32).toNat*4294967296+(y&&&4294967295).toNat:=by rw[s32,m32]; omega
  have ad:(Dj l 32).toNat<4294967296:=by rw[s32]; have:=l.toNat_lt; omega
  have ae:(l&&&4294967295).toNat<4294967296:=by rw[m32]; omega
  have au:u.toNat<y.toNat:=by rw[hU,hY]; omega
  have hx4:Dj y 32≠0:=fun e=>by rw[e]at a1; simp at a1
  obtain⟨b1,b2,b3,b4⟩:=dstart a1 a0 ad ay au;obtain⟨q1,c1,c2⟩:=dloop1 a1 a0 ad ay au 2 _ _ b1 b2 b3 b4 (by omega);have hr1:=drest au c2;have hr1l:=Nat.mod_lt (u.toNat*4294967296+(Dj l 32).toNat) (show 0<y.toNat by omega);rw[if_pos hx4,Dg _ c1 (by omega),Ab,Ab,if_pos hx4];generalize hgv:((u*4294967296)+(Dj l 32))-(q1*y)=v at*;have av:v.toNat<y.toNat:=by omega
  obtain⟨d1,d2,d3,d4⟩:=dstart a1 a0 ae ay av;obtain⟨q0,e1,e2⟩:=dloop2 a1 a0 ae ay av 2 _ _ d1 d2 d3 d4 (by omega);have hr0:=drest av e2;rw[Dg _ e1 (by omega),Ab,Ab];refine⟨_,_,rfl,?_⟩;rw[shrU_toNat _ _ (by omega),hr0,hr1];have f1:(((u.toNat*4294967296+(Dj l 32).toNat)%y.toNat)*4294967296+(l&&&4294967295).toNat)%y.toNat=((hi.toNat*18446744073709551616+lo.toNat)*2^s)%y.toNat:=by
   rw[Nat.add_mod,Nat.mod_mul_mod,←Nat.add_mod,hN,←hU,←hL,s32,m32];have e9:(u.toNat*4294967296+l.toNat/4294967296)*4294967296+l.toNat%4294967296=u.toNat*18446744073709551616+l.toNat:=by omega
   rw[e9]
  rw[f1,hY,Nat.mul_mod_mul_right,Nat.mul_div_cancel _ hps]
end Go.Proofs.YtbajlmaijjcbmaaGreatDoor
end
section
namespace Go.Proofs.YtbajlmaijjcbmaaGreatDoor
open Go Go.Gw Go.Ax
abbrev GQ:Nat:=2305843009213691579
abbrev GR:Nat:=1152921504606845789
def Dv (y:UInt64):Prop:= ∃s:Nat,s≤63∧CG y=some (s:Int)∧9223372036854775808≤y.toNat*2^s∧y.toNat*2^s<18446744073709551616
theorem dvQ:Dv 2305843009213691579:=⟨3,by omega,by kernel_rfl,by decide,by decide⟩
theorem dvR:Dv 1152921504606845789:=⟨4,by omega,by kernel_rfl,by decide,by decide⟩
theorem Dv.pos {y:UInt64}(h:Dv y):0<y.toNat:=by
 obtain⟨s,_,_,h1,_⟩:=h;by_cases e:y.toNat=0
 ·rw[e]at h1; simp at h1
 ·omega
theorem rem_eq {y:UInt64}(h:Dv y)(hi lo:UInt64): ∃z,E9 hi lo y=some z∧z.toNat=(hi.toNat*18446744073709551616+lo.toNat)%y.toNat:=by
 have hpos:=h.pos;obtain⟨s,h1,h2,h3,h4⟩:=h;have hyne:y≠0:=fun e=>by rw[e]at hpos; simp at hpos
 have hm:(hi%y).toNat=hi.toNat%y.toNat:=UInt64.toNat_mod _ _;obtain⟨q,r,e1,e2⟩:=div64_eq (hi:=hi%y) (lo:=lo) h1 h2 h3 h4 (by rw[hm]; exact Nat.mod_lt _ hpos);refine⟨r,?_,?_⟩
 ·unfold E9;rw[if_pos hyne,e1,Ab]
 ·rw[e2,hm,Nat.add_mod,Nat.mod_mul_mod,←Nat.add_mod]
def ofN (n:Nat):UInt64:=UInt64.ofNat n
theorem ofN_nat {n:Nat}(h:n<18446744073709551616):(ofN n).toNat=n:=by
 unfold ofN; rw[UInt64.toNat_ofNat']; exact Nat.mod_eq_of_lt h
theorem ofN_mod (n:Nat){y:UInt64}(h:0<y.toNat):(ofN (n%y.toNat)).toNat=n%y.toNat:=ofN_nat (Nat.lt_of_lt_of_le (Nat.mod_lt _ h) (Nat.le_of_lt y.toNat_lt))
theorem of_nat {z:UInt64}{n:Nat}(h:z.toNat=n):z=ofN n:=by
 rw[←h]; exact u_ext (ofN_nat z.toNat_lt).symm
def Ox (y a b:UInt64):UInt64:=ofN ((a.toNat*b.toNat)%y.toNat)
theorem mulM_nat {y:UInt64}(h:Dv y)(a b:UInt64):(Ox y a b).toNat=(a.toNat*b.toNat)%y.toNat:=ofN_mod _ h.pos
theorem ringMul_eq {y:UInt64}(h:Dv y)(a b:UInt64):Bo y a b=some (Ox y a b):=by
 obtain⟨z,e1,e2⟩:=rem_eq h (phi a b) (a*b);unfold Bo;rw[Q7,Ab,e1,Ab];rw[phi_nat,UInt64.toNat_mul,Nat.div_add_mod']at e2;rw[of_nat e2]; rfl
def Aah (y a b:UInt64):UInt64:=ofN ((a.toNat+b.toNat)%y.toNat)
theorem carry_nat (a b:UInt64):(IP a b).toNat*18446744073709551616+(a+b).toNat=a.toNat+b.toNat:=by
 have:=a.toNat_lt;have:=b.toNat_lt;unfold IP;rw[UInt64.toNat_ofNat',UInt64.toNat_add];omega
theorem num_aux {P d r c sm t:Nat}(hP:d*18446744073709551616+r=P)(hr:r<18446744073709551616)(hd:d<2305843009213693952)(hc:c*18446744073709551616+sm=r+t)(ht:t<18446744073709551616):
  ((d+c)%18446744073709551616)*18446744073709551616+sm=P+t:=by
 have h1:c≤1:=by omega
 rw[Nat.mod_eq_of_lt (show d+c<18446744073709551616 by omega),Nat.add_mul,←hP,Nat.add_assoc,hc,Nat.add_assoc]
def numM (s:UInt64×UInt64)(y:UInt64):UInt64:=ofN ((s.1.toNat*2305843009213693952+s.2.toNat)%y.toNat)
theorem num_eq {y:UInt64}(h:Dv y)(s:UInt64×UInt64):HW s y=some (numM s y):=by
 have hpos:=h.pos;have hyne:y≠0:=fun e=>by rw[e]at hpos; simp at hpos
 obtain⟨t,h1,h2,h3,h4⟩:=h;have hp:(phi s.1 2305843009213693952).toNat=s.1.toNat*2305843009213693952/18446744073709551616:=phi_nat _ _;have hl:(s.1*2305843009213693952).toNat=s.1.toNat*2305843009213693952%18446744073709551616:=UInt64.toNat_mul _ _;have hs1:=s.1.toNat_lt;have hs2:=s.2.toNat_lt;have hc:=carry_nat (s.1*2305843009213693952) s.2;have Acj:(phi s.1 2305843009213693952+IP (s.1*2305843009213693952) s.2).toNat*18446744073709551616+(s.1*2305843009213693952+s.2).toNat=s.1.toNat*2305843009213693952+s.2.toNat:=by
  rw[UInt64.toNat_add,hp];rw[hl]at hc;have hdl:s.1.toNat*2305843009213693952/18446744073709551616<2305843009213693952:=by
   rw[Nat.div_lt_iff_lt_mul (by decide),Nat.mul_comm (2305843009213693952)];exact Nat.mul_lt_mul_of_pos_right hs1 (by decide)
  exact num_aux (Nat.div_add_mod' _ _) (Nat.mod_lt _ (by decide)) hdl hc hs2
 have hm:((phi s.1 2305843009213693952+IP (s.1*2305843009213693952) s.2)%y).toNat=(phi s.1 2305843009213693952+IP (s.1*2305843009213693952) s.2).toNat%y.toNat:=UInt64.toNat_mod _ _;obtain⟨q,r,e1,e2⟩:=div64_eq (hi:=(phi s.1 2305843009213693952+IP (s.1*2305843009213693952) s.2)%y) (lo:=s.1*2305843009213693952+s.2) h1 h2 h3 h4 (by rw[hm]; exact Nat.mod_lt _ hpos);unfold HW;rw[if_neg (by rw[beq_iff_eq]; omega),Q7,Ab,if_pos hyne];dsimp only;rw[e1,Ab];rw[hm,Nat.add_mod,Nat.mod_mul_mod,←Nat.add_mod,Acj]at e2;rw[of_nat e2]; rfl
theorem tabL_all:((List.range 256).all fun n=>decide (n<2^ (str_0.data.toList.getD n 0).toNat)&&decide ((str_0.data.toList.getD n 0).toNat≤8))=true:=by kernel_rfl
theorem tabL_len:str_0.data.toList.length=256:=by kernel_rfl
theorem tabL (x:UInt64)(hx:x.toNat<256): ∃b,idx str_0.data.toList ((toB (x.toNat:Int)).toNat:Int)=some b∧x.toNat<2^b.toNat∧b.toNat≤8:=by
 have hb:(toB (x.toNat:Int)).toNat=x.toNat:=by unfold toB; rw[UInt8.toNat_ofNat']; omega
 have h:=List.all_eq_true.1 tabL_all x.toNat (List.mem_range.2 hx);rw[Bool.and_eq_true,decide_eq_true_eq,decide_eq_true_eq]at h;have hlt:x.toNat<str_0.data.toList.length:=by rw[tabL_len]; exact hx
 rw[List.getD_eq_getElem?_getD,List.getElem?_eq_getElem hlt,Option.getD_some]at h;rw[hb];exact⟨str_0.data.toList[x.toNat],Kp (by simp),h.1,h.2⟩
theorem len64_eq (a:UInt64): ∃L:Nat,Fb a=some (L:Int)∧a.toNat<2^L∧L≤64:=by
 have ha:=a.toNat_lt;have h1: ∃(x:UInt64) (n:Nat),(if(decide ((a.toNat:Int)≥4294967296))=true then some ((Dj a 32),(32:Int))else some (a,0))=some (x,(n:Int))∧n≤32∧x.toNat<4294967296∧a.toNat<(x.toNat+1)*2^n:=by
  split
  ·refine⟨Dj a 32,32,rfl,by omega,?_,?_⟩<;>rw[shrU_toNat a 32 (by omega)]<;>omega
  ·rename_i h; rw[decide_eq_true_eq]at h; exact⟨a,0,rfl,by omega,by omega,by omega⟩
 obtain⟨x,n,e1,n1,hx,hn⟩:=h1;have h2: ∃(y:UInt64) (k:Nat),(if(decide ((x.toNat:Int)≥65536))=true then some ((Dj x 16),(w64 ((n:Int)+16)))else some (x,(n:Int)))=some (y,(k:Int))∧k≤48∧y.toNat<65536∧a.toNat<(y.toNat+1)*2^k:=by
  split
  ·refine⟨Dj x 16,n+16,by rw[Cm (by omega) (by omega)]; rfl,by omega,?_,?_⟩
   ·rw[shrU_toNat x 16 (by omega)]; omega
   ·rw[shrU_toNat x 16 (by omega),Nat.pow_add];refine Nat.lt_of_lt_of_le hn ?_;have:x.toNat+1≤(x.toNat/2^16+1)*2^16:=by omega
    calc (x.toNat+1)*2^n≤((x.toNat/2^16+1)*2^16)*2^n:=Nat.mul_le_mul_right _ this
     _=(x.toNat/2^16+1)*(2^n*2^16):=by rw[Nat.mul_assoc,Nat.mul_comm (2^16)]
  ·rename_i h; rw[decide_eq_true_eq]at h; exact⟨x,n,rfl,by omega,by omega,hn⟩
 obtain⟨y,k,e2,k1,hy,hk⟩:=h2;have h3: ∃(z:UInt64) (j:Nat),(if(decide ((y.toNat:Int)≥256))=true then some ((Dj y 8),(w64 ((k:Int)+8)))else some (y,(k:Int)))=some (z,(j:Int))∧j≤56∧z.toNat<256∧a.toNat<(z.toNat+1)*2^j:=by
  split
  ·refine⟨Dj y 8,k+8,by rw[Cm (by omega) (by omega)]; rfl,by omega,?_,?_⟩
   ·rw[shrU_toNat y 8 (by omega)]; omega
   ·rw[shrU_toNat y 8 (by omega),Nat.pow_add];refine Nat.lt_of_lt_of_le hk ?_;have:y.toNat+1≤(y.toNat/2^8+1)*2^8:=by omega
    calc (y.toNat+1)*2^k≤((y.toNat/2^8+1)*2^8)*2^k:=Nat.mul_le_mul_right _ this
     _=(y.toNat/2^8+1)*(2^k*2^8):=by rw[Nat.mul_assoc,Nat.mul_comm (2^8)]
  ·rename_i h; rw[decide_eq_true_eq]at h; exact⟨y,k,rfl,by omega,by omega,hk⟩
 obtain⟨z,j,e3,j1,hz,hj⟩:=h3;obtain⟨b,e4,b1,b2⟩:=tabL z hz;refine⟨j+b.toNat,?_,?_,by omega⟩
 ·unfold Fb;rw[e1,Ab];dsimp only;rw[e2,Ab];dsimp only;rw[e3,Ab,e4,Ab,C0,Cm (n:=(b.toNat:Int)) (by omega) (by omega),Cm (by omega) (by omega)]; rfl
 ·refine Nat.lt_of_lt_of_le hj ?_;rw[Nat.add_comm j,Nat.pow_add];exact Nat.mul_le_mul_right _ b1
def NB (y a n:UInt64):UInt64:=ofN (a.toNat^n.toNat%y.toNat)
theorem powN_nat {y:UInt64}(h:Dv y)(a n:UInt64):(NB y a n).toNat=a.toNat^n.toNat%y.toNat:=ofN_mod _ h.pos
theorem and_pow (n j:Nat):n&&&2^j=(n.testBit j).toNat*2^j:=by
 apply Nat.eq_of_testBit_eq;intro i;rw[Nat.testBit_and,Nat.testBit_two_pow];by_cases h:j=i
 ·subst h;cases hb:n.testBit j<;>simp[hb,Nat.testBit_two_pow_self]
 ·cases hb:n.testBit j<;>simp[h,Nat.testBit_two_pow]
theorem bit_eq (n:UInt64){j:Nat}(hj:j≤63):(((n&&&(GO 1 j)).toNat:Int) !=0)=decide (n.toNat/2^j%2=1):=by
 have h1:(GO 1 j).toNat=2^j:=by
  rw[shlU_nat hj,show(1:UInt64).toNat=1 from rfl,Nat.one_mul];exact Nat.mod_eq_of_lt (Nat.lt_of_le_of_lt (Nat.pow_le_pow_right (by omega) hj) (by decide))
 have h2:(n&&&(GO 1 j)).toNat=(n.toNat.testBit j).toNat*2^j:=by rw[UInt64.toNat_and,h1,and_pow]
 rw[h2];have hp:=Nat.two_pow_pos j;rw[Nat.testBit_eq_decide_div_mod_eq];by_cases hb:n.toNat/2^j%2=1
 ·simp only[hb,decide_true,Bool.toNat_true,Nat.one_mul];rw[bne_iff_ne]; omega
 ·simp only[hb,decide_false,Bool.toNat_false,Nat.zero_mul]; rfl
def mulF (y:UInt64):Unit→UInt64→UInt64→Option (UInt64×Unit):=fun(s1:Unit) (b1:UInt64) (b2:UInt64)=>Ac (Bo y b1 b2) fun x1=>some (x1,())
theorem pow_it {y:UInt64}(h:Dv y)(a n:UInt64): ∀(j:Nat) (out:UInt64),j≤64→out.toNat=a.toNat^ (n.toNat/2^j)%y.toNat→
  ∃r,iter (B2 (fun(s:UInt64×Unit) (b0:Bool)=>Ac (Cy (mulF y) a b0 s) fun z=>some (true,z)) n) (j+1) ((j:Int)-1,(out,()))=some (.inl (r,()))∧r.toNat=a.toNat^n.toNat%y.toNat:=by
 intro j;induction j with
 |zero=>
  intro out _ ho;refine⟨out,AL ?_,by rw[ho]; simp⟩;unfold B2;rw[if_neg (by simp)]
 |succ j ih=>
  intro out hj ho;have hw:w64 ((((j+1:Nat):Int)-1)-1)=(j:Int)-1:=by rw[Cm (by omega) (by omega)]; omega
  have hk:(((j+1:Nat):Int)-1).toNat=j:=by omega
  have hbit:=bit_eq n (j:=j) (by omega);have hdiv:n.toNat/2^ (j+1)=n.toNat/2^j/2:=by rw[Nat.pow_succ,Nat.div_div_eq_div_mul]
  have hsq:(Ox y out out).toNat=a.toNat^ (2*(n.toNat/2^ (j+1)))%y.toNat:=by
   rw[mulM_nat h,ho,←Nat.mul_mod,←Nat.pow_add,←Nat.two_mul]
  by_cases hb:n.toNat/2^j%2=1
  ·have hn:(Ox y (Ox y out out) a).toNat=a.toNat^ (n.toNat/2^j)%y.toNat:=by
    rw[mulM_nat h,hsq,Nat.mod_mul_mod,←Nat.pow_succ];congr 2; omega
   obtain⟨r,r1,r2⟩:=ih (Ox y (Ox y out out) a) (by omega) hn;refine⟨r,?_,r2⟩;rw[Av (s':=((j:Int)-1,(Ox y (Ox y out out) a,()))),r1];unfold B2;dsimp only;rw[if_pos (by rw[decide_eq_true_eq]; omega),if_pos (by omega),hk,hbit];simp only[Cy,mulF,ringMul_eq h,Ab,hb,decide_true,if_true,Bool.not_true,Bool.false_eq_true,if_false,hw]
  ·have hn:(Ox y out out).toNat=a.toNat^ (n.toNat/2^j)%y.toNat:=by
    rw[hsq]; congr 2; omega
   obtain⟨r,r1,r2⟩:=ih (Ox y out out) (by omega) hn;refine⟨r,?_,r2⟩;rw[Av (s':=((j:Int)-1,(Ox y out out,()))),r1];unfold B2;dsimp only;rw[if_pos (by rw[decide_eq_true_eq]; omega),if_pos (by omega),hk,hbit];simp only[Cy,mulF,ringMul_eq h,Ab,hb,decide_false,Bool.not_true,Bool.false_eq_true,if_false,hw]
theorem power_eq {y:UInt64}(h:Dv y)(a n:UInt64)(h1:1<y.toNat):FG (mulF y) a n ()=some (NB y a n,()):=by
 obtain⟨L,e1,e2,e3⟩:=len64_eq n;have hw:w64 ((L:Int)-1)=(L:Int)-1:=Cm (by omega) (by omega);obtain⟨r,r1,r2⟩:=pow_it h a n L 1 e3 (by rw[Nat.div_eq_of_lt e2]; simp; exact(Nat.mod_eq_of_lt h1).symm);have r1':=Dg _ r1 (by omega);unfold FG Fp;rw[show GH n=some n from rfl,Ab,e1,Ab,hw,r1',Ab];simp only[Ab];rw[of_nat r2]; rfl
theorem pow_eq (a n:UInt64):C5 a n=some (NB 2305843009213691579 a n):=by
 unfold C5;have:=power_eq dvQ a n (by decide);unfold mulF at this;rw[this,Ab]
theorem base_eq (n:UInt64):CX n=some (NB 2305843009213691579 4 n):=by
 unfold CX;rw[pow_eq,Ab]
end Go.Proofs.YtbajlmaijjcbmaaGreatDoor
end
section
namespace Go.Proofs.YtbajlmaijjcbmaaGreatDoor
open Go Go.Gw Go.Ax
theorem inv_abs {u v:Int}{q:Nat}(hs:0≤u∧v≤0∨u≤0∧0≤v):(u-(q:Int)*v).natAbs=u.natAbs+q*v.natAbs∧((q:Int)*v).natAbs=q*v.natAbs∧(0≤v∧u-(q:Int)*v≤0∨v≤0∧0≤u-(q:Int)*v):=by
 have hqv:((q:Int)*v).natAbs=q*v.natAbs:=by rw[Int.natAbs_mul,Int.natAbs_natCast]
 have h1:0≤v→0≤(q:Int)*v:=fun h=>Int.mul_nonneg (Int.natCast_nonneg q) h;have h2:v≤0→(q:Int)*v≤0:=fun h=>Int.mul_nonpos_of_nonneg_of_nonpos (Int.natCast_nonneg q) h;refine⟨?_,hqv,?_⟩
 ·rw[←hqv];generalize (q:Int)*v=z at*;omega
 ·generalize (q:Int)*v=z at*;omega
theorem inv_it (m:Nat)(a:Int)(hm2:m<2305843009213693952): ∀(n:Nat) (x y:UInt64) (u v:Int),y.toNat≤n→(∃k,u*a=x.toNat+k*m)→(∃k,v*a=y.toNat+k*m)→u.natAbs*y.toNat+v.natAbs*x.toNat=m→
  (0≤u∧v≤0∨u≤0∧0≤v)→x.toNat≤m→u.natAbs≤m→v.natAbs≤m→y.toNat≤m→
  ∃r:Int,iter Bp (n+1) (x,y,u,v)=some r∧(∃k,r*a=Nat.gcd x.toNat y.toNat+k*m)∧r.natAbs≤m:=by
 intro n;induction n with
 |zero=>
  intro x y u v hy hu hv hb hs hx hul hvl hyl;have hy0:y.toNat=0:=by omega
  refine⟨u,AL ?_,by rw[hy0,Nat.gcd_zero_right]; exact hu,hul⟩;unfold Bp;rw[if_neg (by simp[hy0])]
 |succ n ih=>
  intro x y u v hy hu hv hb hs hx hul hvl hyl;by_cases hy0:y.toNat=0
  ·refine⟨u,AL ?_,by rw[hy0,Nat.gcd_zero_right]; exact hu,hul⟩;unfold Bp;rw[if_neg (by simp[hy0])]
  ·have hyne:y≠0:=fun e=>hy0 (by rw[e]; rfl);have hdm:=Nat.div_add_mod' x.toNat y.toNat;have hmod:=Nat.mod_lt x.toNat (show 0<y.toNat by omega);have hql:x.toNat/y.toNat≤x.toNat:=Nat.div_le_self _ _;have hmul:x.toNat/y.toNat*y.toNat≤x.toNat:=Nat.div_mul_le_self _ _;have hxl:=x.toNat_lt;have hgcd:Nat.gcd x.toNat y.toNat=Nat.gcd y.toNat (x.toNat%y.toNat):=by rw[Nat.gcd_comm,Nat.gcd_rec,Nat.gcd_comm]
   have eq1:(x/y).toNat=x.toNat/y.toNat:=UInt64.toNat_div _ _;have eq2:((x/y)*y).toNat=x.toNat/y.toNat*y.toNat:=by rw[UInt64.toNat_mul,eq1]; exact Nat.mod_eq_of_lt (Nat.lt_of_le_of_lt hmul hxl)
   have eq3:(x-(x/y)*y).toNat=x.toNat%y.toNat:=by
    rw[UInt64.toNat_sub_of_le _ _ (by rw[UInt64.le_iff_toNat_le,eq2]; exact hmul),eq2];omega
   generalize hq:x.toNat/y.toNat=q at*;generalize hr:x.toNat%y.toNat=r at*;obtain⟨habs,hqv,hs'⟩:=inv_abs (q:=q) hs;have hbal:v.natAbs*r+(u-(q:Int)*v).natAbs*y.toNat=m:=by
    rw[habs,←hb,←hdm]; grind
   have hvm:(u-(q:Int)*v).natAbs≤m:=by
    have:(u-(q:Int)*v).natAbs*1≤(u-(q:Int)*v).natAbs*y.toNat:=Nat.mul_le_mul_left _ (by omega);omega
   have hqb:((q:Int)*v).natAbs≤m:=by omega
   have w1:w64 (q:Int)=(q:Int):=Cm (by omega) (by omega);have w2:w64 ((q:Int)*v)=(q:Int)*v:=by
    generalize (q:Int)*v=z at*;exact Cm (by omega) (by omega)
   have w3:w64 (u-(q:Int)*v)=u-(q:Int)*v:=by
    generalize u-(q:Int)*v=z at*;exact Cm (by omega) (by omega)
   have hdmI:(q:Int)*(y.toNat:Int)+(r:Int)=(x.toNat:Int):=by exact_mod_cast hdm
   obtain⟨t,t1,t2,t3⟩:=ih y (x-(x/y)*y) v (u-(q:Int)*v) (by rw[eq3]; omega) hv (by
    obtain⟨k,hk⟩:=hu;obtain⟨l,hl⟩:=hv;refine⟨k-q*l,?_⟩;rw[eq3];grind) (by rw[eq3]; exact hbal) (by omega) hyl hvl hvm (by rw[eq3]; omega)
   rw[eq3,←hgcd]at t2;refine⟨t,?_,t2,t3⟩;rw[Av (s':=(y,x-(x/y)*y,v,u-(q:Int)*v)),t1];unfold Bp;dsimp only;rw[if_pos (by simp; omega),if_pos hyne,eq1,C0,w1,w2,w3,C0]
theorem inv_eq {a:UInt64}{b:Nat}(h:a.toNat*b%GQ=1): ∃z:UInt64,DI a=some (z,0)∧z.toNat*a.toNat%GQ=1:=by
 have hm:(a%2305843009213691579).toNat=a.toNat%GQ:=UInt64.toNat_mod _ _;have hml:=Nat.mod_lt a.toNat (show 0<GQ by decide);have hne:a.toNat%GQ≠0:=fun e=>by
  rw[Nat.mul_mod,e,Nat.zero_mul,Nat.zero_mod]at h; cases h
 have hg:Nat.gcd (a.toNat%GQ) GQ=1:=by
  have d1:=Nat.gcd_dvd_left (a.toNat%GQ) GQ;have d2:=Nat.gcd_dvd_right (a.toNat%GQ) GQ;have h':a.toNat%GQ*b%GQ=1:=by rw[Nat.mod_mul_mod]; exact h
  have h2:=Nat.div_add_mod (a.toNat%GQ*b) GQ;rw[h']at h2;have d3:Nat.gcd (a.toNat%GQ) GQ ∣ GQ*(a.toNat%GQ*b/GQ)+1:=by rw[h2]; exact Nat.dvd_trans d1 (Nat.dvd_mul_right _ _)
  have d4:=(Nat.dvd_add_right (Nat.dvd_trans d2 (Nat.dvd_mul_right GQ (a.toNat%GQ*b/GQ)))).1 d3;exact Nat.dvd_one.1 d4
 obtain⟨r,r1,⟨k,r2⟩,r3⟩:=inv_it GQ (a.toNat%GQ:Nat) (by decide) GQ (a%2305843009213691579) 2305843009213691579 1 0 (by decide) ⟨0,by rw[hm]; simp⟩ ⟨-1,by
  rw[show(2305843009213691579:UInt64).toNat=GQ from rfl]; simp⟩ (by rw[show(2305843009213691579:UInt64).toNat=GQ from rfl]; simp) (by omega) (by rw[hm]; omega) (by decide) (by decide) (by decide)
 rw[hm,show(2305843009213691579:UInt64).toNat=GQ from rfl,hg]at r2;have r1':=Dg _ r1 (by decide);have hw:w64 (((2305843009213691579:UInt64).toNat:Int))=(GQ:Int):=Cm (by decide) (by decide);have hz: ∃z:Nat,(if(decide (r<0))=true then bnd ((w64 (r+(w64 (((2305843009213691579:UInt64).toNat:Int)))))) fun x7=>some x7 else some r)=some (z:Int)∧z≤GQ∧∃l:Int,(z:Int)*(a.toNat%GQ:Nat)=1+l*GQ:=by
  simp only[GQ]at*;by_cases hneg:r<0
  ·rw[if_pos (by simpa using hneg),hw,C0,Cm (by omega) (by omega)];obtain⟨z,hz⟩:=Int.eq_ofNat_of_zero_le (show 0≤r+2305843009213691579 by omega);refine⟨z,by rw[←hz]; rfl,by omega,k+(a.toNat%2305843009213691579:Nat),?_⟩;rw[←hz,Int.add_mul,r2];grind
  ·rw[if_neg (by simpa using hneg)];obtain⟨z,hz⟩:=Int.eq_ofNat_of_zero_le (show 0≤r by omega);exact⟨z,by rw[hz],by omega,k,by rw[←hz]; exact r2⟩
 obtain⟨z,z1,z2,l,z3⟩:=hz;have hzn:(toU (z:Int)).toNat=z:=toU_toNat (by simp only[GQ]at z2; omega);refine⟨toU (z:Int),?_,?_⟩
 ·unfold DI DH;rw[if_pos (by decide),if_neg (by rw[beq_iff_eq,hm]; omega),r1',Ab,Ab,z1,Ab,Ab]
 ·rw[hzn,←Nat.mul_mod_mod];have:((z*(a.toNat%GQ):Nat):Int)=1+l*GQ:=by rw[Int.natCast_mul]; exact z3
  generalize z*(a.toNat%GQ)=w at*;simp only[GQ]at*;omega
end Go.Proofs.YtbajlmaijjcbmaaGreatDoor
end
section
namespace Go.Proofs.YtbajlmaijjcbmaaGreatDoor
open Go Go.Gw Go.Ax
theorem bytes8_eq (n:UInt64):D4 n=some (MC 8 n):=by
 unfold D4;simp[Dh,Gk,idx,w64,C0,MC]
def pubK (k:UInt64):UInt64:=NB 2305843009213691579 4 k
def chal (c p:UInt64)(msg:List UInt8):UInt64:=numM (ptag ⟨#[115,105,103,110]⟩ [MC 8 c,MC 8 p,msg]) 1152921504606845789
theorem chal_eq (c p:UInt64){msg:List UInt8}(h:msg.length≤600000):Cn c p msg=some (chal c p msg):=by
 unfold Cn;rw[bytes8_eq,Ab,bytes8_eq,Ab,WH _ _ (by simp[XB,Fg]; omega),Ab,num_eq dvR,Ab]; rfl
def AaH (k:UInt64)(msg:List UInt8):UInt64:=numM (ptag ⟨#[110,111,110,99,101]⟩ [MC 8 k,msg]) 1152921504606845788+1
def signE (k:UInt64)(msg:List UInt8):UInt64:=chal (pubK (AaH k msg)) (pubK k) msg
def signS (k:UInt64)(msg:List UInt8):g_api_Sig:=⟨signE k msg,Aah 1152921504606845789 (Ox 1152921504606845789 (signE k msg) k) (AaH k msg)⟩
def gr:Nat:=GR
theorem powQ_nat (a n:UInt64):(NB 2305843009213691579 a n).toNat=a.toNat^n.toNat%GQ:=powN_nat dvQ a n
theorem inv_law {p e k:Nat}(hp:p^gr%GQ=1)(he:e≤gr):p^e%GQ*p^ (gr-e)%GQ=1:=by
 rw[Nat.mod_mul_mod,←Nat.pow_add,Nat.add_sub_cancel' he]; exact hp
theorem gu_tt {α:Type} [Inhabited α](o:Option α):gu true o=o:=rfl
end Go.Proofs.YtbajlmaijjcbmaaGreatDoor
end
section
namespace Go.Proofs.YtbajlmaijjcbmaaGreatDoor
open Go Go.Gw Go.Ax
def radd (a b:UInt64):UInt64:=((a%2305843009213693951)+(b%2305843009213693951))%2305843009213693951
theorem radd_nat (a b:UInt64):(radd a b).toNat=(a.toNat%FP+b.toNat%FP)%FP:=by
 unfold radd;rw[UInt64.toNat_mod,UInt64.toNat_add,UInt64.toNat_mod,UInt64.toNat_mod,litP];simp only[FP];omega
theorem radd_eq (a b:UInt64):radd a b=CI a b:=u_ext (by rw[radd_nat,padd_nat])
theorem add01_eq (a b:UInt64):Ci a b=some (CI a b):=by rw[←radd_eq]; rfl
theorem mul01_it: ∀(n:Nat) (a b o:UInt64),b.toNat<2^n→o.toNat<FP→∃r,iter C3 (n+1) (a,b,o)=some r∧r.toNat=(o.toNat+a.toNat*b.toNat)%FP:=by
 intro n;induction n with
 |zero=>
  intro a b o h ho;have hb:b.toNat=0:=by simp at h; omega
  refine⟨o,AL ?_,by rw[hb]; simp; exact(Nat.mod_eq_of_lt ho).symm⟩;unfold C3;rw[if_neg (by simp[hb])]
 |succ n ih=>
  intro a b o h ho;by_cases hb:b.toNat=0
  ·refine⟨o,AL ?_,by rw[hb]; simp; exact(Nat.mod_eq_of_lt ho).symm⟩;unfold C3;rw[if_neg (by simp[hb])]
  ·have e1:2^ (n+1)=2*2^n:=by rw[Nat.pow_succ]; omega
   have hb2:(b/2).toNat=b.toNat/2:=by rw[UInt64.toNat_div]; rfl
   have hbm:((b%2).toNat:Int)=((b.toNat%2:Nat):Int):=by rw[UInt64.toNat_mod]; rfl
   have hp0: ∀x y,(CI x y).toNat<FP:=fun x y=>by rw[padd_nat]; exact Nat.mod_lt _ (by decide)
   by_cases ho1:b.toNat%2=1
   ·obtain⟨r,h1,h2⟩:=ih (CI a a) (b/2) (CI o a) (by rw[hb2]; omega) (hp0 _ _);refine⟨r,?_,?_⟩
    ·rw[Av (s':=(CI a a,b/2,CI o a)),h1];unfold C3;rw[if_pos (by simp; omega),if_pos (by rw[hbm,ho1]; rfl),add01_eq,Ab,Ab,add01_eq,Ab]
    ·rw[h2,padd_nat,padd_nat,hb2];simp only[Nat.mod_add_mod,Nat.add_mod_mod];rw[Nat.add_mod,Nat.mod_mul_mod,←Nat.add_mod,←Nat.two_mul];congr 1;have:b.toNat=2*(b.toNat/2)+1:=by omega
     conv=>rhs; rw[this]
     rw[Nat.mul_add,Nat.mul_one,←Nat.mul_assoc,Nat.mul_comm a.toNat 2]; omega
   ·obtain⟨r,h1,h2⟩:=ih (CI a a) (b/2) o (by rw[hb2]; omega) ho;refine⟨r,?_,?_⟩
    ·rw[Av (s':=(CI a a,b/2,o)),h1];unfold C3;rw[if_pos (by simp; omega),if_neg (by rw[hbm]; simp; omega),Ab,add01_eq,Ab]
    ·rw[h2,padd_nat,hb2];simp only[Nat.mod_add_mod,Nat.add_mod_mod];rw[Nat.add_mod,Nat.mod_mul_mod,←Nat.add_mod,←Nat.two_mul];congr 1;have:b.toNat=2*(b.toNat/2):=by omega
     conv=>rhs; rw[this]
     rw[←Nat.mul_assoc,Nat.mul_comm a.toNat 2]
theorem mul01_eq (a b:UInt64):Io a b=some (Wi a b):=by
 have hb:(b%2305843009213693951).toNat<2^64:=(b%2305843009213693951).toNat_lt;obtain⟨r,h1,h2⟩:=mul01_it 64 (a%2305843009213693951) (b%2305843009213693951) 0 hb (by decide);have hr:r=Wi a b:=u_ext (by
  rw[h2,pmul_nat,UInt64.toNat_mod,UInt64.toNat_mod,litP];simp only[UInt64.toNat_zero,Nat.zero_add];rw[←Nat.mul_mod])
 unfold Io;rw[Dg _ h1 (by omega),Ab,Ab,hr]
theorem raised_it (a:UInt64)(n:Nat)(hn:n≤1000): ∀(k i:Nat) (x:UInt64),i+k=n→x.toNat=a.toNat^i%FP→∃y,iter (Da a (n:Int)) (k+1) (x,(i:Int))=some y∧y.toNat=a.toNat^n%FP:=by
 intro k;induction k with
 |zero=>
  intro i x h hx;refine⟨x,AL ?_,by rw[hx,show i=n from by omega]⟩;unfold Da;rw[if_neg (by simp; omega)]
 |succ k ih=>
  intro i x h hx;have hw:w64 ((i:Int)+1)=((i+1:Nat):Int):=by rw[Cm (by omega) (by omega)]; omega
  obtain⟨y,h1,h2⟩:=ih (i+1) (Wi x a) (by omega) (by rw[pmul_nat,hx,Nat.mod_mul_mod,Nat.pow_succ]);refine⟨y,?_,h2⟩;rw[Av (s':=(Wi x a,((i+1:Nat):Int)))]
  ·exact h1
  ·unfold Da;rw[if_pos (by simp; omega),mul01_eq,Ab];simp only[hw]
theorem raised_gen (a:UInt64)(n:Nat)(hn:n≤1000): ∃y,Cg a (n:Int)=some y∧y.toNat=a.toNat^n%FP:=by
 obtain⟨y,h1,h2⟩:=raised_it a n hn n 0 1 (by omega) (by simp);have h1':=Dg _ h1 (by omega);refine⟨y,?_,h2⟩;unfold Cg;rw[show((0:Int))=((0:Nat):Int)from rfl,h1',Ab,Ab]
theorem raised_eq {a:UInt64}:Cg a 17=some (Lb a):=by
 obtain⟨y,h1,h2⟩:=raised_gen a 17 (by omega);have:y=Lb a:=u_ext (by rw[h2,psev_nat]);rw[←this]; exact h1
theorem con_eq {r i:Nat}(hr:r<8)(hi:i<3):(Ac (Cg (toU (w64 ((w64 ((w64 (3*(r:Int)))+(i:Int)))+1))) 3) fun x4=>Ci x4 7)=some (Ml (r:Int) (i:Int)):=by
 have hw:w64 ((w64 ((w64 (3*(r:Int)))+(i:Int)))+1)=((3*r+i+1:Nat):Int):=by
  rw[Cm (n:=3*(r:Int)) (by omega) (by omega),Cm (n:=3*(r:Int)+(i:Int)) (by omega) (by omega),Cm (by omega) (by omega)]; omega
 have hN:(toU ((3*r+i+1:Nat):Int)).toNat=3*r+i+1:=toU_toNat (by omega);unfold Ml;rw[hw];generalize toU ((3*r+i+1:Nat):Int)=N at*;obtain⟨y,h1,h2⟩:=raised_gen N 3 (by omega);have h1':Cg N 3=some y:=h1;rw[h1',Ab,add01_eq];refine congrArg some (u_ext ?_);have hle:N.toNat≤24:=by omega
 have h2':N.toNat*N.toNat≤24*24:=Nat.mul_le_mul hle hle;have h3':N.toNat*N.toNat*N.toNat≤24*24*24:=Nat.mul_le_mul h2' hle;have e3:N.toNat^3=N.toNat*N.toNat*N.toNat:=by rw[Nat.pow_succ,Nat.pow_two]
 dsimp only;rw[padd_nat,h2,e3,UInt64.toNat_add,UInt64.toNat_mul,UInt64.toNat_mul,show(7:UInt64).toNat=7 from rfl];have e4:N.toNat*N.toNat%2^64=N.toNat*N.toNat:=Nat.mod_eq_of_lt (by omega);rw[e4];clear e4 e3 h2 h1 h1' hw hN;generalize N.toNat*N.toNat*N.toNat=z at*;rw[Nat.mod_eq_of_lt (show z<2^64 by omega),Nat.mod_eq_of_lt (show z<FP by simp only[FP]; omega),Nat.mod_eq_of_lt (show z<FP by simp only[FP]; omega),Nat.mod_eq_of_lt (show 7<FP by decide),Nat.mod_eq_of_lt (show z+7<FP by simp only[FP]; omega),Nat.mod_eq_of_lt (show z+7<2^64 by omega)]
theorem obind_obind {α β γ:Type}(x:Option α)(f:α→Option β)(g:β→Option γ):Ac x (fun a=>Ac (f a) g)=Ac (Ac x f) g:=by cases x<;>rfl
theorem round_b4 {s:UInt64×UInt64×UInt64}{r:Nat}(hr:r<8)(a b c:UInt64):
  BW s (r:Int) (0,a,b,c)=some (.inl (1,Lb (CI s.1 (Ml r 0)),b,c))∧
  BW s (r:Int) (1,a,b,c)=some (.inl (2,a,Lb (CI s.2.1 (Ml r 1)),c))∧
  BW s (r:Int) (2,a,b,c)=some (.inl (3,a,b,Lb (CI s.2.2 (Ml r 2)))):=by
 have c0:=con_eq hr (i:=0) (by omega);have c1:=con_eq hr (i:=1) (by omega);have c2:=con_eq hr (i:=2) (by omega);refine⟨?_,?_,?_⟩
 ·unfold BW;dsimp only;rw[if_pos (by simp),obind_obind,show((0:Nat):Int)=0 from rfl]at*;rw[c0,Ab,show idx [s.1,s.2.1,s.2.2] 0=some s.1 from rfl,Ab,add01_eq,Ab,raised_eq,Ab,show idx [a,b,c] 0=some a from rfl,Ab];simp[C0,w64]
 ·unfold BW;dsimp only;rw[if_pos (by simp),obind_obind,show((1:Nat):Int)=1 from rfl]at*;rw[c1,Ab,show idx [s.1,s.2.1,s.2.2] 1=some s.2.1 from rfl,Ab,add01_eq,Ab,raised_eq,Ab,show idx [a,b,c] 1=some b from rfl,Ab];simp[C0,w64]
 ·unfold BW;dsimp only;rw[if_pos (by simp),obind_obind,show((2:Nat):Int)=2 from rfl]at*;rw[c2,Ab,show idx [s.1,s.2.1,s.2.2] 2=some s.2.2 from rfl,Ab,add01_eq,Ab,raised_eq,Ab,show idx [a,b,c] 2=some c from rfl,Ab];simp[C0,w64]
theorem padd3 (x y z:UInt64):CI (CI (CI 0 x) y) z=CI (CI x y) z:=u_ext (by
 simp only[padd_nat,UInt64.toNat_zero];simp only[FP];omega)
theorem round_b5 (x:UInt64)(a b c:UInt64):
  BV x (0,a,b,c)=some (.inl (1,CI a x,b,c))∧BV x (1,a,b,c)=some (.inl (2,a,CI b x,c))∧BV x (2,a,b,c)=some (.inl (3,a,b,CI c x)):=by
 refine⟨?_,?_,?_⟩
 ·unfold BV;dsimp only;rw[if_pos (by simp),show idx [a,b,c] 0=some a from rfl,Ab,add01_eq,Ab,Ab]; simp[C0,w64]
 ·unfold BV;dsimp only;rw[if_pos (by simp),show idx [a,b,c] 1=some b from rfl,Ab,add01_eq,Ab,Ab]; simp[C0,w64]
 ·unfold BV;dsimp only;rw[if_pos (by simp),show idx [a,b,c] 2=some c from rfl,Ab,add01_eq,Ab,Ab]; simp[C0,w64]
theorem round_eq {r:Nat}(hr:r<8)(s:UInt64×UInt64×UInt64):Fk s (r:Int)=some (IG (r:Int) s):=by
 have h4:iter (BW s (r:Int)) 4 (0,0,0,0)=some (Lb (CI s.1 (Ml r 0)),Lb (CI s.2.1 (Ml r 1)),Lb (CI s.2.2 (Ml r 2))):=by
  rw[Av (round_b4 hr 0 0 0).1,Av (round_b4 hr _ 0 0).2.1,Av (round_b4 hr _ _ 0).2.2];exact AL rfl
 have h5: ∀x a b c:UInt64,iter (BV x) 4 (0,a,b,c)=some (CI a x,CI b x,CI c x):=fun x a b c=>by
  rw[Av (round_b5 x a b c).1,Av (round_b5 x _ b c).2.1,Av (round_b5 x _ _ c).2.2];exact AL rfl
 unfold Fk;rw[Dg _ h4 (by omega),Ab,Ab,add01_eq,Ab,add01_eq,Ab,Dg _ (h5 _ _ _ _) (by omega),Ab,Ab];unfold IG Zz;rw[padd3]
theorem mix02_it (s:UInt64×UInt64×UInt64){r:Nat}(hr:r<8):Ez ((r:Int),s.1,s.2.1,s.2.2)=some (.inl (((r+1:Nat):Int),(IG (r:Int) s).1,(IG (r:Int) s).2.1,(IG (r:Int) s).2.2)):=by
 have hw:w64 ((r:Int)+1)=((r+1:Nat):Int):=by rw[Cm (by omega) (by omega)]; omega
 unfold Ez;rw[if_pos (by simp; omega),round_eq hr,Ab];simp only[hw]
theorem mix02_eq (s:UInt64×UInt64×UInt64):Im s=some (Lc s):=by
 have h:iter Ez 9 (((0:Nat):Int),s.1,s.2.1,s.2.2)=some (Lc s):=by
  rw[Av (mix02_it s (by omega)),Av (mix02_it _ (by omega)),Av (mix02_it _ (by omega)),Av (mix02_it _ (by omega)),Av (mix02_it _ (by omega)),Av (mix02_it _ (by omega)),Av (mix02_it _ (by omega)),Av (mix02_it _ (by omega))];exact AL rfl
 unfold Im;rw[show((0:Int))=((0:Nat):Int)from rfl,Dg _ h (by omega),Ab,Ab]
theorem or_shl {s:UInt64}{b:UInt8}{i:Nat}(hi:i<7)(hs:s.toNat<256^i)(u:UInt64)(hu:u.toNat=256^i):
  s|||GO (toU (b.toNat:Int)) (8*i)=s+u*(toU (b.toNat:Int))∧(s+u*(toU (b.toNat:Int))).toNat<256^ (i+1):=by
 have hb:=b.toNat_lt;have e1:(toU (b.toNat:Int)).toNat=b.toNat:=toU_toNat (by omega);have e2:(2:Nat)^ (8*i)=256^i:=by rw[Nat.pow_mul]
 have hpow:256^i≤256^6:=Nat.pow_le_pow_right (by omega) (by omega);have hpos:0<256^i:=Nat.pow_pos (by omega);have e256:(256:Nat)^6=281474976710656:=by decide
 have hmul:256^i*b.toNat≤256^i*255:=Nat.mul_le_mul_left _ (by omega);have esh:(GO (toU (b.toNat:Int)) (8*i)).toNat=256^i*b.toNat:=by
  unfold GO;rw[e1,Nat.min_eq_left (by omega),show(b.toNat:Int)*2^ (8*i)=((256^i*b.toNat:Nat):Int)from by
   rw[←e2,Nat.mul_comm]; simp[Nat.mul_comm,Int.mul_comm]]
  exact toU_toNat (by omega)
 have ese:(u*(toU (b.toNat:Int))).toNat=256^i*b.toNat:=by
  rw[UInt64.toNat_mul,e1,hu]; omega
 have eadd:(s+u*(toU (b.toNat:Int))).toNat=s.toNat+256^i*b.toNat:=by
  rw[UInt64.toNat_add,ese]; omega
 refine⟨u_ext ?_,?_⟩
 ·rw[eadd,UInt64.toNat_or,esh,Nat.or_comm,←e2,←Nat.two_pow_add_eq_or_of_lt (by rw[e2]; exact hs)]; omega
 ·rw[eadd,Nat.pow_succ]; omega
theorem of2_it (a0:List UInt8)(hb:a0.length≤1000000)(st:(List UInt64)×Int)(i:Nat)(hi:st.2=(i:Int))(hi2:i≤1000000):
  ∀(l:List UInt8) (k:Nat) (s u:UInt64),k+l.length≤7→((a0.drop i).take 7).drop k=l→((a0.drop i).take 7).length=k+l.length→s.toNat<256^k→(k<7→u.toNat=256^k)→
   iter (Fl a0 st) (l.length+1) (s,u,((i+k:Nat):Int))=some (ple l k s):=by
 intro l;induction l with
 |nil=>
  intro k s u h1 h2 h3 hs hu;refine AL ?_;have hw:w64 ((i:Int)+7)=((i+7:Nat):Int):=by rw[Cm (by omega) (by omega)]; omega
  simp only[List.length_take,List.length_drop,List.length_nil]at h3;unfold Fl;dsimp only;rw[hi,hw,if_neg (by simp; omega)];rfl
 |cons b l ih=>
  intro k s u h1 h2 h3 hs hu;have hw:w64 ((i:Int)+7)=((i+7:Nat):Int):=by rw[Cm (by omega) (by omega)]; omega
  have hw1:w64 (((i+k:Nat):Int)+1)=((i+(k+1):Nat):Int):=by rw[Cm (by omega) (by omega)]; omega
  simp only[List.length_cons]at h1 h3;have h3':=h3;simp only[List.length_take,List.length_drop]at h3';have hx:a0[i+k]? =some b:=by
   have:(((a0.drop i).take 7).drop k)[0]? =some b:=by rw[h2]; rfl
   rw[List.getElem?_drop,List.getElem?_take_of_lt (by omega),List.getElem?_drop]at this;simpa using this
  obtain⟨o1,o2⟩:=or_shl (b:=b) (show k<7 by omega) hs u (hu (by omega));rw[List.length_cons,Av (s':=(s+u*(toU (b.toNat:Int)),u*256,((i+(k+1):Nat):Int)))]
  ·have hd:((a0.drop i).take 7).drop (k+1)=l:=by rw[←List.drop_drop,h2]; rfl
   rw[ih (k+1) _ (u*256) (by omega) hd (by omega) o2 (fun hk=>by
    rw[UInt64.toNat_mul,hu (by omega),show(256:UInt64).toNat=256 from rfl,Nat.pow_succ];have:256^k≤256^6:=Nat.pow_le_pow_right (by omega) (by omega);have e256:(256:Nat)^6=281474976710656:=by decide
    omega)]
   rw[ple,o1]
  ·unfold Fl;dsimp only;rw[hi,hw,if_pos (by simp; omega),Kp hx,Ab,C0];simp only[hw1]
theorem of1_it (a0:List UInt8)(hb:a0.length≤900000): ∀(n i:Nat) (out:List UInt64),a0.length≤i+n→i≤900007→out.length+n≤1000000→
  iter (Ee a0) (n+1) (out,(i:Int))=some (out++pof n (a0.drop i)):=by
 intro n;induction n with
 |zero=>
  intro i out h _ _;have:a0.drop i=[]:=List.drop_eq_nil_of_le (by omega);refine AL ?_;unfold Ee;rw[if_neg (by simp; omega),this]; simp[pof]
 |succ n ih=>
  intro i out h hi ho;by_cases hlt:i<a0.length
  ·obtain⟨b,l,hl⟩: ∃b l,a0.drop i=b::l:=⟨a0[i],a0.drop (i+1),List.drop_eq_getElem_cons hlt⟩;have hw:w64 ((i:Int)+7)=((i+7:Nat):Int):=by rw[Cm (by omega) (by omega)]; omega
   have h2:=of2_it a0 (by omega) (out,(i:Int)) i rfl (by omega) ((a0.drop i).take 7) 0 0 1 (by simp; omega) (by simp) (by simp) (by decide) (fun _=>by decide);have h2':=Dg _ h2 (by simp; omega);rw[Nat.add_zero]at h2';rw[Av (s':=(out++[ple ((a0.drop i).take 7) 0 0],((i+7:Nat):Int)))]
   ·rw[ih (i+7) _ (by omega) (by omega) (by simp; omega),hl];simp only[pof];rw[←hl,List.drop_drop];simp
   ·unfold Ee;dsimp only;rw[if_pos (by simp; omega),h2',Ab,Ab,Mh 8 (by simp; omega) (by simp; omega),Ab];simp only[hw]
  ·have:a0.drop i=[]:=List.drop_eq_nil_of_le (by omega);refine AL ?_;unfold Ee;rw[if_neg (by simp; omega),this]; simp[pof]
theorem of01_eq (a0:List UInt8)(hb:a0.length≤900000):Jh a0=some (pof a0.length a0):=by
 have h:=of1_it a0 hb a0.length 0 [] (by omega) (by omega) (by simp; omega);have h':=Dg _ h (by omega);unfold Jh;rw[show((0:Int))=((0:Nat):Int)from rfl,h',Ab,Ab];simp
theorem sum02_it (l:List UInt64)(hl:l.length≤1000000): ∀(n i:Nat) (s:UInt64×UInt64×UInt64),l.length≤i+n→1≤i→i≤1000002→
  iter (BX l) (n+1) ((i:Int),s.1,s.2.1,s.2.2)=some (G8 n (l.drop i) s):=by
 intro n;induction n with
 |zero=>
  intro i s h h1 _;have:l.drop i=[]:=List.drop_eq_nil_of_le (by omega);refine AL ?_;unfold BX;rw[if_neg (by simp; omega),this]; simp[G8]
 |succ n ih=>
  intro i s h h1 h2;by_cases hlt:i<l.length
  ·have hw:w64 ((i:Int)+1)=((i+1:Nat):Int):=by rw[Cm (by omega) (by omega)]; omega
   have hw2:w64 ((i:Int)+2)=((i+2:Nat):Int):=by rw[Cm (by omega) (by omega)]; omega
   have hx:idx l (i:Int)=some l[i]:=Kp (by simp[hlt]);by_cases hlt2:i+1<l.length
   ·have hy:idx l ((i+1:Nat):Int)=some l[i+1]:=Kp (by simp[hlt2]);have hd:l.drop i=l[i]::l[i+1]::l.drop (i+2):=by rw[List.drop_eq_getElem_cons hlt,List.drop_eq_getElem_cons hlt2]
    rw[Av (s':=(((i+2:Nat):Int),(Lc (CI s.1 l[i],CI s.2.1 l[i+1],s.2.2)).1,(Lc (CI s.1 l[i],CI s.2.1 l[i+1],s.2.2)).2.1,(Lc (CI s.1 l[i],CI s.2.1 l[i+1],s.2.2)).2.2))]
    ·rw[ih (i+2) (Lc (CI s.1 l[i],CI s.2.1 l[i+1],s.2.2)) (by omega) (by omega) (by omega),hd]; rfl
    ·unfold BX;dsimp only;rw[if_pos (by simp; omega),if_pos (by simp; omega),hx,Ab,add01_eq,Ab,Ab,hw,if_pos (by simp; omega),hy,Ab,add01_eq,Ab,Ab,mix02_eq,Ab];simp only[hw2]
   ·have hd:l.drop i=[l[i]]:=by rw[List.drop_eq_getElem_cons hlt,List.drop_eq_nil_of_le (by omega)]
    rw[Av (s':=(((i+2:Nat):Int),(Lc (CI s.1 l[i],s.2.1,s.2.2)).1,(Lc (CI s.1 l[i],s.2.1,s.2.2)).2.1,(Lc (CI s.1 l[i],s.2.1,s.2.2)).2.2))]
    ·rw[ih (i+2) (Lc (CI s.1 l[i],s.2.1,s.2.2)) (by omega) (by omega) (by omega),hd,List.drop_eq_nil_of_le (by omega)];cases n<;>simp[G8]
    ·unfold BX;dsimp only;rw[if_pos (by simp; omega),if_pos (by simp; omega),hx,Ab,add01_eq,Ab,Ab,hw,if_neg (by simp; omega),Ab,mix02_eq,Ab];simp only[hw2]
  ·have:l.drop i=[]:=List.drop_eq_nil_of_le (by omega);refine AL ?_;unfold BX;rw[if_neg (by simp; omega),this]; simp[G8]
theorem psumL_len: ∀(n k:Nat) (l:List UInt64) (s:UInt64×UInt64×UInt64),l.length≤n→l.length≤k→G8 n l s=G8 k l s:=by
 intro n;induction n with
 |zero=>intro k l s h _; have:l=[]:=List.eq_nil_of_length_eq_zero (by omega); subst this; simp[G8]
 |succ n ih=>
  intro k l s h hk;match l,k,h,hk with
  | [],k,_,_=>cases k<;>simp[G8]
  | [x],k+1,_,_=>simp[G8]
  |x::y::l,k+1,h,hk=>simp only[G8]; exact ih k l _ (by simp at h; omega) (by simp at hk; omega)
theorem sum02_eq (b:List UInt8)(hb:b.length≤900000):Ik b=some (Acj b):=by
 have hl:=XA b.length b;unfold Ik;rw[of01_eq b hb,Ab];have hk:Acj b=((Wj (pof b.length b) (0,0,toU (b.length:Int))).1,(Wj (pof b.length b) (0,0,toU (b.length:Int))).2.1):=rfl;rw[hk];clear hk;generalize pof b.length b=l at*;have h:iter (BX l) (l.length+2) (0,0,0,toU (b.length:Int))=some (Wj l (0,0,toU (b.length:Int))):=by
  match l,hl with
  | [],hl=>
   rw[show([]:List UInt64).length+2=1+1 from rfl,Av (s':=(((2:Nat):Int),(Lc (0,0,toU (b.length:Int))).1,(Lc (0,0,toU (b.length:Int))).2.1,(Lc (0,0,toU (b.length:Int))).2.2))]
   ·exact AL rfl
   ·unfold BX;dsimp only;rw[if_pos (by simp),if_neg (by simp),Ab,if_neg (by rw[Cm (by omega) (by omega)]; simp),Ab,mix02_eq,Ab]; rfl
  | [x],hl=>
   rw[show [x].length+2=2+1 from rfl,Av (s':=(((2:Nat):Int),(Lc (CI 0 x,0,toU (b.length:Int))).1,(Lc (CI 0 x,0,toU (b.length:Int))).2.1,(Lc (CI 0 x,0,toU (b.length:Int))).2.2))]
   ·exact AL rfl
   ·have e:idx [x] 0=some x:=rfl;unfold BX;dsimp only;rw[if_pos (by simp),if_pos (by simp),e,Ab,add01_eq,Ab,Ab,if_neg (by rw[Cm (by omega) (by omega)]; simp),Ab,mix02_eq,Ab]; rfl
  |x::y::l,hl=>
   rw[Av (s':=(((2:Nat):Int),(Lc (CI 0 x,CI 0 y,toU (b.length:Int))).1,(Lc (CI 0 x,CI 0 y,toU (b.length:Int))).2.1,(Lc (CI 0 x,CI 0 y,toU (b.length:Int))).2.2))]
   ·rw[sum02_it (x::y::l) (by simp at hl⊢; omega) _ 2 _ (by simp) (by omega) (by omega)];refine congrArg some ?_;simp only[List.drop_succ_cons,List.drop_zero,Wj,List.length_cons,G8];exact psumL_len _ _ _ _ (by omega) (by omega)
   ·have e:idx (x::y::l) 0=some x:=rfl;have e1:idx (x::y::l) (w64 (0+1))=some y:=rfl;unfold BX;dsimp only;rw[if_pos (by simp),if_pos (by simp; omega),e,Ab,add01_eq,Ab,Ab,if_pos (by rw[show w64 (0+1)=1 from rfl]; simp; omega),e1,Ab,add01_eq,Ab,Ab,mix02_eq,Ab]; rfl
 rw[Dg _ h (by omega),Ab,Ab]
theorem eight_it (n:UInt64): ∀(k:Nat) (b:List UInt8),k≤8→b.length+k≤1000000→iter (Dn n) (k+1) (b,(k:Int)-1)=some (b++MC k n):=by
 intro k;induction k with
 |zero=>intro b _ _; refine AL ?_; unfold Dn; rw[if_neg (by simp)]; simp[MC]
 |succ k ih=>
  intro b hk hb;have hw:w64 (8*(((k+1:Nat):Int)-1))=((8*k:Nat):Int):=by rw[Cm (by omega) (by omega)]; omega
  have hw2:w64 ((((k+1:Nat):Int)-1)-1)=(k:Int)-1:=by rw[Cm (by omega) (by omega)]; omega
  rw[Av (s':=(b++[toB ((Dj n (8*k)).toNat:Int)],(k:Int)-1))]
  ·rw[ih _ (by omega) (by simp; omega)]; simp[MC]
  ·unfold Dn;dsimp only;rw[hw,hw2,toU_toNat (by omega),if_pos (decide_eq_true (by omega)),Mh 1 (by simp; omega) (by simp; omega),Ab]
theorem eight_eq (n:UInt64):Gy n=some (MC 8 n):=by
 have h:=Dg _ (eight_it n 8 [] (by omega) (by simp)) (by omega);unfold Gy;rw[show(7:Int)=((8:Nat):Int)-1 from rfl,h,Ab,Ab]; rfl
theorem coded_it (ps:List (List UInt8)): ∀(n i:Nat) (b:List UInt8),i+n=ps.length→i≤1000000→ps.length≤1000000→b.length+XB (ps.drop i)≤800000→iter (Dp ps) (n+1) (b,(i:Int))=some (V1 b (ps.drop i)):=by
 intro n;induction n with
 |zero=>
  intro i b h _ _ _;have:ps.drop i=[]:=List.drop_eq_nil_of_le (by omega);refine AL ?_;unfold Dp;rw[if_neg (by simp; omega),this]; rfl
 |succ n ih=>
  intro i b h hi hps hb;have hlt:i<ps.length:=by omega
  have hx:idx ps (i:Int)=some ps[i]:=Kp (by simp[hlt]);have hd:ps.drop i=ps[i]::ps.drop (i+1):=List.drop_eq_getElem_cons hlt;have hw:w64 ((i:Int)+1)=((i+1:Nat):Int):=by rw[Cm (by omega) (by omega)]; omega
  rw[hd]at hb⊢;simp only[XB]at hb;have hc:cut (MC 8 (toU (ps[i].length:Int))) 4 ((MC 8 (toU (ps[i].length:Int))).length:Int)=some (MC 4 (toU (ps[i].length:Int))):=by
   rw[Fg];have:=Ta (xs:=MC 8 (toU (ps[i].length:Int))) (lo:=4) (hi:=8) (by omega) (by rw[Fg]; omega);rw[show((4:Nat):Int)=4 from rfl]at this;rw[this]; rfl
  rw[Av (s':=(b++MC 4 (toU (ps[i].length:Int))++ps[i],((i+1:Nat):Int)))]
  ·rw[ih (i+1) _ (by omega) (by omega) hps (by simp[Fg]; omega)]; rfl
  ·unfold Dp;dsimp only;rw[if_pos (by simp; omega),hx,Ab,eight_eq,Ab,hc,Ab,Mh 1 (by simp[Fg]; omega) (by simp[Fg]; omega),Ab,Ab,Mh 1 (by simp[Fg]; omega) (by simp[Fg]; omega),Ab];simp only[hw]
theorem tagged02_eq (t:ByteArray)(ps:List (List UInt8))(h:t.data.toList.length+XB ps≤700000)(hp:ps.length≤1000000):FF t ps=some (ptag t ps):=by
 have hc:=coded_it ps ps.length 0 (toB (t.size:Int)::t.data.toList) (by omega) (by omega) hp (by simp at h⊢; omega);have hc':=Dg _ hc (by omega);unfold FF HO;rw[Mh 1 (by simp at h⊢; omega) (by simp at h⊢; omega),Ab];rw[show((0:Int))=((0:Nat):Int)from rfl];rw[show [toB (t.size:Int)]++t.data.toList=toB (t.size:Int)::t.data.toList from rfl,hc',Ab,Ab,Ab];rw[sum02_eq _ (by rw[Sx]; simp at h⊢; omega),Ab];rfl
end Go.Proofs.YtbajlmaijjcbmaaGreatDoor
end
section
namespace Go.Gw
open Go
theorem w64_sucN {i:Nat}(h:i<9223372036854775807):w64 ((i:Int)+1)=((i+1:Nat):Int):=by rw[Cm (by omega) (by omega)]; omega
end Go.Gw
end
section
namespace Go.Proofs.YtbajlmaijjcbmaaGreatDoor
open Go Go.Gw Go.Ax
theorem plus_nat {a b m:UInt64}(hm:m.toNat≤4611686018427387904)(ha:a.toNat<m.toNat)(hb:b.toNat<m.toNat):
  (if(decide ((a.toNat:Int)≥((m-b).toNat:Int)))=true then some (a-(m-b))else some (a+b))=some (Aah m a b):=by
 have h1:(m-b).toNat=m.toNat-b.toNat:=by rw[UInt64.toNat_sub_of_le]; exact UInt64.le_iff_toNat_le.2 (Nat.le_of_lt hb)
 by_cases h:m.toNat-b.toNat≤a.toNat
 ·have h2:(a-(m-b)).toNat=a.toNat-(m.toNat-b.toNat):=by rw[UInt64.toNat_sub_of_le,h1]; exact UInt64.le_iff_toNat_le.2 (by omega)
  rw[if_pos (by rw[h1]; simpa using h)];congr 1;refine of_nat ?_;rw[h2,show a.toNat+b.toNat=(a.toNat-(m.toNat-b.toNat))+m.toNat from by omega,Nat.add_mod_right,Nat.mod_eq_of_lt (by omega)]
 ·rw[if_neg (by rw[h1]; simpa using h)];congr 1;refine of_nat ?_;rw[UInt64.toNat_add,Nat.mod_eq_of_lt (by omega),Nat.mod_eq_of_lt (by omega)]
theorem sum03_eq {a b m:UInt64}(hm:m.toNat≤4611686018427387904)(ha:a.toNat<m.toNat)(hb:b.toNat<m.toNat):Ij a b m=some (Aah m a b):=plus_nat hm ha hb
theorem plus02_eq {a b m:UInt64}(hm:m.toNat≤4611686018427387904)(ha:a.toNat<m.toNat)(hb:b.toNat<m.toNat):Hv a b m=some (Aah m a b):=plus_nat hm ha hb
theorem addM_nat' {y:UInt64}(h:0<y.toNat)(a b:UInt64):(Aah y a b).toNat=(a.toNat+b.toNat)%y.toNat:=ofN_mod _ h
theorem bit1 (x:UInt64){i:Nat}(hi:i≤63):((((Dj x ((toU (i:Int)).toNat))&&&1).toNat:Int)==1)=decide (x.toNat/2^i%2=1):=by
 rw[toU_toNat (by omega),UInt64.toNat_and,shrU_toNat _ _ (by omega),show(1:UInt64).toNat=1 from rfl,Nat.and_one_is_mod,Bool.eq_iff_iff,beq_iff_eq,decide_eq_true_eq];omega
theorem div_two (n i:Nat):n/2^i=2*(n/2^ (i+1))+n/2^i%2:=by
 rw[Nat.pow_succ,←Nat.div_div_eq_div_mul];omega
theorem times_mod {A B C m r:Nat}(hr:r=A*B%m):(r+r)%m=A*(2*B)%m:=by
 rw[hr,←Nat.add_mod,←Nat.two_mul,Nat.mul_left_comm]
theorem times_it (a b:UInt64){m:UInt64}(hp:0<m.toNat)(hm:m.toNat≤4611686018427387904): ∀(j:Nat) (out:UInt64),j≤64→out.toNat=(a.toNat%m.toNat)*((b.toNat%m.toNat)/2^j)%m.toNat→
  ∃r,iter (Cq a b m) (j+1) (out,(j:Int)-1)=some r∧r.toNat=(a.toNat%m.toNat)*(b.toNat%m.toNat)%m.toNat:=by
 intro j;induction j with
 |zero=>
  intro out _ ho;refine⟨out,AL ?_,by rw[ho,Nat.pow_zero,Nat.div_one]⟩;unfold Cq;rw[if_neg (by simp)]
 |succ j ih=>
  intro out hj ho;have ham:(a%m).toNat=a.toNat%m.toNat:=UInt64.toNat_mod _ _;have hbm:(b%m).toNat=b.toNat%m.toNat:=UInt64.toNat_mod _ _;have hol:out.toNat<m.toNat:=by rw[ho]; exact Nat.mod_lt _ hp
  have hdl:(Aah m out out).toNat<m.toNat:=by rw[addM_nat' hp]; exact Nat.mod_lt _ hp
  have hd:(Aah m out out).toNat=(a.toNat%m.toNat)*(2*((b.toNat%m.toNat)/2^ (j+1)))%m.toNat:=by
   rw[addM_nat' hp]; exact times_mod (C:=0) ho
  have hw:(((j+1:Nat):Int)-1)=(j:Int):=by omega
  have hw2:w64 ((j:Int)-1)=(j:Int)-1:=Cm (by omega) (by omega);have hst: ∃o,Cq a b m (out,((j+1:Nat):Int)-1)=some (.inl (o,(j:Int)-1))∧o.toNat=(a.toNat%m.toNat)*((b.toNat%m.toNat)/2^j)%m.toNat:=by
   unfold Cq;dsimp only;rw[hw,if_pos (by simp),sum03_eq hm hol hol,Ab,bit1 _ (by omega),hbm,hw2];by_cases hb:(b.toNat%m.toNat)/2^j%2=1
   ·rw[if_pos (by simpa using hb),sum03_eq hm hdl (by rw[ham]; exact Nat.mod_lt _ hp),Ab,Ab];refine⟨_,rfl,?_⟩;rw[addM_nat' hp,hd,ham,Nat.mod_add_mod,div_two _ j,hb,Nat.mul_add,Nat.mul_one]
   ·rw[if_neg (by simpa using hb),Ab];refine⟨_,rfl,?_⟩;have hdt:=div_two (b.toNat%m.toNat) j;rw[show(b.toNat%m.toNat)/2^j%2=0 from by omega,Nat.add_zero]at hdt;rw[hd,hdt]
  obtain⟨o,e1,e2⟩:=hst;obtain⟨r,e3,e4⟩:=ih o (by omega) e2;exact⟨r,by rw[Av e1]; exact e3,e4⟩
theorem times_eq (a b:UInt64){m:UInt64}(hp:0<m.toNat)(hm:m.toNat≤4611686018427387904):Ec a b m=some (Ox m a b):=by
 have hne:m≠0:=fun e=>by rw[e]at hp; simp at hp
 have hbl:b.toNat%m.toNat<2^64:=Nat.lt_of_lt_of_le (Nat.mod_lt _ hp) (by omega);obtain⟨r,e1,e2⟩:=times_it a b hp hm 64 0 (by omega) (by rw[Nat.div_eq_of_lt hbl,Nat.mul_zero,Nat.zero_mod]; rfl);have e1':iter (Cq a b m) AR (0,63)=some r:=Dg _ e1 (by omega);unfold Ec;rw[if_pos hne,if_pos hne,e1',Ab,Ab];rw[←Nat.mul_mod]at e2;rw[of_nat e2]; rfl
theorem power_it (a n:UInt64){m:UInt64}(hp:0<m.toNat)(hm:m.toNat≤4611686018427387904): ∀(j:Nat) (out:UInt64),j≤64→out.toNat=a.toNat^ (n.toNat/2^j)%m.toNat→
  ∃r,iter (Cr a n m) (j+1) (out,(j:Int)-1)=some r∧r.toNat=a.toNat^n.toNat%m.toNat:=by
 intro j;induction j with
 |zero=>
  intro out _ ho;refine⟨out,AL ?_,by rw[ho,Nat.pow_zero,Nat.div_one]⟩;unfold Cr;rw[if_neg (by simp)]
 |succ j ih=>
  intro out hj ho;have hd:(Ox m out out).toNat=a.toNat^ (2*(n.toNat/2^ (j+1)))%m.toNat:=by
   have:(Ox m out out).toNat=(out.toNat*out.toNat)%m.toNat:=ofN_mod _ hp;rw[this,ho,←Nat.mul_mod,←Nat.pow_add,←Nat.two_mul]
  have hw:(((j+1:Nat):Int)-1)=(j:Int):=by omega
  have hw2:w64 ((j:Int)-1)=(j:Int)-1:=Cm (by omega) (by omega);have hst: ∃o,Cr a n m (out,((j+1:Nat):Int)-1)=some (.inl (o,(j:Int)-1))∧o.toNat=a.toNat^ (n.toNat/2^j)%m.toNat:=by
   unfold Cr;dsimp only;rw[hw,if_pos (by simp),times_eq _ _ hp hm,Ab,bit1 _ (by omega),hw2];by_cases hb:n.toNat/2^j%2=1
   ·rw[if_pos (by simpa using hb),times_eq _ _ hp hm,Ab,Ab];refine⟨_,rfl,?_⟩;have:(Ox m (Ox m out out) a).toNat=((Ox m out out).toNat*a.toNat)%m.toNat:=ofN_mod _ hp;have hdt:=div_two n.toNat j;rw[hb]at hdt;rw[this,hd,Nat.mod_mul_mod,←Nat.pow_succ,hdt]
   ·rw[if_neg (by simpa using hb),Ab];have hdt:=div_two n.toNat j;rw[show n.toNat/2^j%2=0 from by omega,Nat.add_zero]at hdt;refine⟨_,rfl,?_⟩;rw[hd,hdt]
  obtain⟨o,e1,e2⟩:=hst;obtain⟨r,e3,e4⟩:=ih o (by omega) e2;exact⟨r,by rw[Av e1]; exact e3,e4⟩
theorem power03_eq (a n:UInt64){m:UInt64}(hp:1<m.toNat)(hm:m.toNat≤4611686018427387904):Ed a n m=some (NB m a n):=by
 have hnl:n.toNat<2^64:=n.toNat_lt;obtain⟨r,e1,e2⟩:=power_it a n (by omega) hm 64 1 (by omega) (by rw[Nat.div_eq_of_lt hnl,Nat.pow_zero,Nat.mod_eq_of_lt hp]; rfl);have e1':iter (Cr a n m) AR (1,63)=some r:=Dg _ e1 (by omega);unfold Ed;rw[e1',Ab,Ab,of_nat e2]; rfl
theorem base03_eq (n:UInt64):E1 n=some (pubK n):=by
 unfold E1;rw[power03_eq _ _ (by decide) (by decide),Ab]; rfl
theorem num02_it (s:UInt64){m:UInt64}(hp:0<m.toNat)(hm:m.toNat≤4611686018427387904): ∀(k i:Nat) (x:UInt64),i+k=61→x.toNat=s.toNat*2^i%m.toNat→∃r,iter (DM m) (k+1) (x,(i:Int))=some r∧r.toNat=s.toNat*2^61%m.toNat:=by
 intro k;induction k with
 |zero=>
  intro i x hi hx;obtain rfl:i=61:=by omega
  exact⟨x,AL (by unfold DM; rw[if_neg (by simp)]),hx⟩
 |succ k ih=>
  intro i x hi hx;have hxl:x.toNat<m.toNat:=by rw[hx]; exact Nat.mod_lt _ hp
  have hn:(Aah m x x).toNat=s.toNat*2^ (i+1)%m.toNat:=by
   rw[addM_nat' hp,hx,←Nat.add_mod,←Nat.two_mul,Nat.mul_left_comm,Nat.pow_succ,Nat.mul_comm 2]
  obtain⟨r,e1,e2⟩:=ih (i+1) _ (by omega) hn;refine⟨r,?_,e2⟩;rw[Av (s':=(Aah m x x,((i+1:Nat):Int)))]
  ·exact e1
  ·unfold DM;dsimp only;rw[if_pos (by simp; omega),plus02_eq hm hxl hxl,Ab,w64_sucN (by omega)]
theorem num02_eq {y:UInt64}(h:Dv y)(hm:y.toNat≤4611686018427387904)(s:UInt64×UInt64):Il s y=some (numM s y):=by
 have hp:=h.pos;have hne:y≠0:=fun e=>by rw[e]at hp; simp at hp
 obtain⟨r,e1,e2⟩:=num02_it s.1 hp hm 61 0 (s.1%y) (by omega) (by rw[UInt64.toNat_mod,Nat.pow_zero,Nat.mul_one]);have e1':iter (DM y) AR (s.1%y,0)=some r:=Dg _ e1 (by omega);have hr:r.toNat<y.toNat:=by rw[e2]; exact Nat.mod_lt _ hp
 have h2:(s.2%y).toNat=s.2.toNat%y.toNat:=UInt64.toNat_mod _ _;unfold Il;rw[if_neg (by rw[beq_iff_eq]; omega),if_pos hne,e1',Ab,Ab,if_pos hne,plus02_eq hm hr (by rw[h2]; exact Nat.mod_lt _ hp),Ab];congr 1;refine of_nat ?_;rw[addM_nat' hp,h2,e2,←Nat.add_mod]
end Go.Proofs.YtbajlmaijjcbmaaGreatDoor
end
section
namespace Go.Proofs.YtbajlmaijjcbmaaGreatDoor
open Go Go.Gw Go.Ax
theorem toB_mod {a b:Int}(h:a%256=b%256):toB a=toB b:=by unfold toB; rw[h]
theorem div_256 (n:UInt64):(n/256).toNat=n.toNat/256:=by rw[UInt64.toNat_div]; rfl
theorem eight04_it (n:UInt64):iter Et 9 (n,7,List.replicate 8 (0:UInt8))=some [toB ((n/256/256/256/256/256/256/256%256).toNat:Int),toB ((n/256/256/256/256/256/256%256).toNat:Int),toB ((n/256/256/256/256/256%256).toNat:Int),toB ((n/256/256/256/256%256).toNat:Int),toB ((n/256/256/256%256).toNat:Int),toB ((n/256/256%256).toNat:Int),toB ((n/256%256).toNat:Int),toB ((n%256).toNat:Int)]:=by
 simp[iter,Et,idx,C0,w64,List.replicate]
theorem eight04_eq (n:UInt64):Eb n=some (MC 8 n):=by
 have h:=Dg _ (eight04_it n) (by omega);unfold Eb;rw[h,Ab,Ab];simp only[MC];congr 1;have key: ∀(k:Nat) (x:UInt64),k≤56→x.toNat=n.toNat/2^k→toB ((x%256).toNat:Int)=toB ((Dj n k).toNat:Int):=by
  intro k x hk hx;refine toB_mod ?_;rw[shrU_toNat _ _ (by omega),UInt64.toNat_mod,hx,show(256:UInt64).toNat=256 from rfl];omega
 rw[key 56 _ (by omega) (by simp only[div_256,Nat.div_div_eq_div_mul]),key 48 _ (by omega) (by simp only[div_256,Nat.div_div_eq_div_mul]),key 40 _ (by omega) (by simp only[div_256,Nat.div_div_eq_div_mul]),key 32 _ (by omega) (by simp only[div_256,Nat.div_div_eq_div_mul]),key 24 _ (by omega) (by simp only[div_256,Nat.div_div_eq_div_mul]),key 16 _ (by omega) (by simp only[div_256,Nat.div_div_eq_div_mul]),key 8 _ (by omega) (by simp only[div_256,Nat.div_div_eq_div_mul]),key 0 _ (by omega) (by simp)]
theorem challenge04_eq (c p:UInt64){msg:List UInt8}(h:msg.length≤600000):Cv c p msg=some (chal c p msg):=by
 unfold Cv;rw[eight04_eq,Ab,eight04_eq,Ab,tagged02_eq _ _ (by simp[XB,Fg]; omega) (by simp),Ab,num02_eq dvR (by decide),Ab]; rfl
end Go.Proofs.YtbajlmaijjcbmaaGreatDoor
end
section
namespace Go.Proofs.YtbajlmaijjcbmaaGreatDoor
open Go Go.Gw Go.Ax
theorem inv_uniq {z e f:Nat}(h1:z*e%GQ=1)(h2:e*f%GQ=1):z%GQ=f%GQ:=by
 have h3:z*(e*f%GQ)%GQ=z%GQ:=by rw[h2,Nat.mul_one]
 have h4:z*e%GQ*f%GQ=f%GQ:=by rw[h1,Nat.one_mul]
 rw[Nat.mul_mod_mod,←Nat.mul_assoc]at h3;rw[Nat.mod_mul_mod]at h4;rw[←h3,h4]
theorem refRest (p:UInt64){msg:List UInt8}(s:g_api_Sig)(hm:msg.length≤600000):
  (Ac (E1 s.S) fun x2=>Ac (Hc p (1152921504606845789-s.E)) fun x3=>Ac (Hd x2 x3) fun x4=>Ac (Cv x4 p msg) fun x5=>if((x5.toNat:Int) !=(s.E.toNat:Int))=true then some (40:Int)else some 0)
   =if(((chal (Ox 2305843009213691579 (pubK s.S) (NB 2305843009213691579 p (1152921504606845789-s.E))) p msg).toNat:Int) !=(s.E.toNat:Int))=true then some 40 else some 0:=by
 unfold Hc Hd;rw[base03_eq,Ab,power03_eq _ _ (by decide) (by decide),Ab,Ab,times_eq _ _ (by decide) (by decide),Ab,Ab,challenge04_eq _ _ hm,Ab]
theorem progRest (p z:UInt64){msg:List UInt8}(s:g_api_Sig)(hm:msg.length≤600000)(hz:DI (NB 2305843009213691579 p s.E)=some (z,0)):
  (Ac (C5 p s.E) fun x2=>Ac (DI x2) fun x3=>Ac (gu (!(x3.2 !=0)) (CX s.S)) fun x4=>Ac (gu (!(x3.2 !=0)) (F7 x4 x3.1)) fun x5=>Ac (gu (!(x3.2 !=0)) (Cn x5 p msg)) fun x6=>
   if((x3.2 !=0)||((x6.toNat:Int) !=(s.E.toNat:Int)))=true then some (40:Int)else some 0)
   =if(((chal (Ox 2305843009213691579 (pubK s.S) z) p msg).toNat:Int) !=(s.E.toNat:Int))=true then some 40 else some 0:=by
 have e1:((z,(0:Int)).2 !=0)=false:=rfl;unfold F7;rw[pow_eq,Ab,hz,Ab,e1,Bool.not_false,gu_tt,base_eq,Ab,gu_tt,ringMul_eq dvQ,Ab,Ab,gu_tt];dsimp only;rw[show NB 2305843009213691579 4 s.S=pubK s.S from rfl,chal_eq _ _ hm,Ab,Bool.false_or]
theorem mul_same {p z:UInt64}{e:Nat}(x:UInt64){E:UInt64}(hpow:p.toNat^gr%GQ=1)(hE:E.toNat≤gr)(hsub:(1152921504606845789-E:UInt64).toNat=gr-E.toNat)(hz:z.toNat*(NB 2305843009213691579 p E).toNat%GQ=1):
  Ox 2305843009213691579 x (NB 2305843009213691579 p (1152921504606845789-E))=Ox 2305843009213691579 x z:=by
 have hinv:(NB 2305843009213691579 p E).toNat*p.toNat^ (gr-E.toNat)%GQ=1:=by
  rw[powQ_nat]; exact inv_law (k:=0) hpow hE
 have hzf:=inv_uniq hz hinv;refine u_ext ?_;rw[mulM_nat dvQ,mulM_nat dvQ,show(2305843009213691579:UInt64).toNat=GQ from rfl,powQ_nat,hsub,Nat.mul_mod_mod,Nat.mul_mod,←hzf,←Nat.mul_mod]
theorem inv_of {p E:UInt64}(hpow:p.toNat^gr%GQ=1)(hE:E.toNat≤gr): ∃z:UInt64,DI (NB 2305843009213691579 p E)=some (z,0)∧z.toNat*(NB 2305843009213691579 p E).toNat%GQ=1:=by
 have hinv:(NB 2305843009213691579 p E).toNat*p.toNat^ (gr-E.toNat)%GQ=1:=by
  rw[powQ_nat]; exact inv_law (k:=0) hpow hE
 exact inv_eq hinv
theorem sub_gr {E:UInt64}(hE:E.toNat<1152921504606845789):(1152921504606845789-E:UInt64).toNat=gr-E.toNat:=by
 rw[UInt64.toNat_sub_of_le _ _ (UInt64.le_iff_toNat_le.2 (Nat.le_of_lt hE)),show(1152921504606845789:UInt64).toNat=gr from rfl]
theorem le_gr {E:UInt64}(hE:E.toNat<1152921504606845789):E.toNat≤gr:=Nat.le_of_lt hE
theorem max_ge {a b:UInt64}:decide (((Oz a b).toNat:Int)≥1152921504606845789)=(decide ((a.toNat:Int)≥1152921504606845789)||decide ((b.toNat:Int)≥1152921504606845789)):=by
 rw[Bool.eq_iff_iff,Bool.or_eq_true,decide_eq_true_eq,decide_eq_true_eq,decide_eq_true_eq];unfold Oz;split
 ·rename_i hlt;have:=UInt64.lt_iff_toNat_lt.1 hlt;omega
 ·rename_i hlt;have:=mt UInt64.lt_iff_toNat_lt.2 hlt;omega
theorem pow_one {p:UInt64}(h:((NB 2305843009213691579 p 1152921504606845789).toNat:Int)=1):p.toNat^gr%GQ=1:=by
 have h1:=powQ_nat p 1152921504606845789;rw[show(1152921504606845789:UInt64).toNat=gr from rfl]at h1;rw[←h1];exact Int.ofNat.inj h
theorem both_lt {a b:UInt64}(h:(decide ((a.toNat:Int)≥1152921504606845789)||decide ((b.toNat:Int)≥1152921504606845789))=false):a.toNat<1152921504606845789:=by
 rw[Bool.or_eq_false_iff,decide_eq_false_iff_not]at h;have:=h.1;omega
theorem rest_same {p:UInt64}{msg:List UInt8}(s:g_api_Sig)(hm:msg.length≤600000)(h1:((NB 2305843009213691579 p 1152921504606845789).toNat:Int)=1)(hE:s.E.toNat<1152921504606845789):
  (Ac (E1 s.S) fun x2=>Ac (Hc p (1152921504606845789-s.E)) fun x3=>Ac (Hd x2 x3) fun x4=>Ac (Cv x4 p msg) fun x5=>if((x5.toNat:Int) !=(s.E.toNat:Int))=true then some (40:Int)else some 0)
   =(Ac (C5 p s.E) fun x2=>Ac (DI x2) fun x3=>Ac (gu (!(x3.2 !=0)) (CX s.S)) fun x4=>Ac (gu (!(x3.2 !=0)) (F7 x4 x3.1)) fun x5=>Ac (gu (!(x3.2 !=0)) (Cn x5 p msg)) fun x6=>
   if((x3.2 !=0)||((x6.toNat:Int) !=(s.E.toNat:Int)))=true then some (40:Int)else some 0):=by
 obtain⟨z,z1,z2⟩:=inv_of (pow_one h1) (le_gr hE);rw[refRest p s hm,progRest p z s hm z1,mul_same (e:=0) _ (pow_one h1) (le_gr hE) (sub_gr hE) z2]
theorem inP_eq (p:UInt64):It p=some (((decide ((p.toNat:Int)>0))&&(decide ((p.toNat:Int)<2305843009213691579)))&&(((NB 2305843009213691579 p 1152921504606845789).toNat:Int)==1)):=by
 unfold It;cases (decide ((p.toNat:Int)>0))&&(decide ((p.toNat:Int)<2305843009213691579))
 ·simp only[gu,cond_false,Ab,C0,Bool.false_and]
 ·simp only[gu,cond_true,pow_eq,Ab,C0,Bool.true_and]
theorem in03_eq (p:UInt64):Jg p=some (((decide ((p.toNat:Int)>0))&&(decide ((p.toNat:Int)<2305843009213691579)))&&(((NB 2305843009213691579 p 1152921504606845789).toNat:Int)==1)):=by
 unfold Jg;cases (decide ((p.toNat:Int)>0))&&(decide ((p.toNat:Int)<2305843009213691579))
 ·simp only[gu,cond_false,Ab,C0,Bool.false_and]
 ·rw[power03_eq _ _ (by decide) (by decide)]; simp only[gu,cond_true,Ab,C0,Bool.true_and]
theorem in_one {p:UInt64}(h:(((decide ((p.toNat:Int)>0))&&(decide ((p.toNat:Int)<2305843009213691579)))&&(((NB 2305843009213691579 p 1152921504606845789).toNat:Int)==1))=true):((NB 2305843009213691579 p 1152921504606845789).toNat:Int)=1:=by
 rw[Bool.and_eq_true]at h;exact beq_iff_eq.1 h.2
theorem check04_eq (p:UInt64){msg:List UInt8}(s:g_api_Sig)(hm:msg.length≤600000):Gx p msg s=C1 p msg s:=by
 unfold Gx C1;rw[inP_eq,in03_eq,Ab,Ab,max_ge];cases h1:((decide ((p.toNat:Int)>0))&&(decide ((p.toNat:Int)<2305843009213691579)))&&(((NB 2305843009213691579 p 1152921504606845789).toNat:Int)==1)with
 |false=>rw[Bool.not_false,if_pos rfl,if_pos rfl]
 |true=>
  rw[Bool.not_true,if_neg Bool.false_ne_true,if_neg Bool.false_ne_true];cases h2:(decide ((s.E.toNat:Int)≥1152921504606845789)||decide ((s.S.toNat:Int)≥1152921504606845789))with
  |true=>rw[if_pos rfl,if_pos rfl]
  |false=>rw[if_neg Bool.false_ne_true,if_neg Bool.false_ne_true,rest_same s hm (in_one h1) (both_lt h2)]
theorem check_tot (p:UInt64){msg:List UInt8}(s:g_api_Sig)(hm:msg.length≤600000): ∃e,C1 p msg s=some e:=by
 unfold C1;rw[inP_eq,Ab,max_ge];cases h1:((decide ((p.toNat:Int)>0))&&(decide ((p.toNat:Int)<2305843009213691579)))&&(((NB 2305843009213691579 p 1152921504606845789).toNat:Int)==1)with
 |false=>rw[Bool.not_false,if_pos rfl]; exact⟨_,rfl⟩
 |true=>
  rw[Bool.not_true,if_neg Bool.false_ne_true];cases h2:(decide ((s.E.toNat:Int)≥1152921504606845789)||decide ((s.S.toNat:Int)≥1152921504606845789))with
  |true=>rw[if_pos rfl]; exact⟨_,rfl⟩
  |false=>
   rw[if_neg Bool.false_ne_true];obtain⟨z,z1,z2⟩:=inv_of (pow_one (in_one h1)) (le_gr (both_lt h2));rw[progRest p z s hm z1];split<;>exact⟨_,rfl⟩
end Go.Proofs.YtbajlmaijjcbmaaGreatDoor
end
section
namespace Go.Proofs.YtbajlmaijjcbmaaGreatDoor
open Go Go.Gw Go.Ax
theorem live19_true:IJ=some true:=by kernel_rfl
end Go.Proofs.YtbajlmaijjcbmaaGreatDoor
end
section
namespace Go.Proofs.YtbajlmaijjcbmaaGreatDoor
open Go Go.Gw Go.Ax
theorem few_loop {l:List g_api_Cert}{k:Nat}(hk:k≤1000): ∀(r:List g_api_Cert) (i n:Nat),l.drop i=r→i≤k→k-i<n→
  ∃t,iter (B6 l (k:Int)) n (i:Int)=some t∧((t= .inl ()∧∀c∈r.take (k-i),FewP c)∨t= .inr false)
 |r,i,0,_,_,h=>by omega
 | [],i,n+1,h,hi,hn=>by
  have hl:l.length≤i:=List.drop_eq_nil_iff.1 h;have e:B6 l (k:Int) (i:Int)=some (.inr (.inl ())):=by
   unfold B6; rw[decide_eq_false (by omega)]; rfl
  exact⟨.inl (),AL e,.inl ⟨rfl,by simp⟩⟩
 |c::r,i,n+1,h,hi,hn=>by
  obtain⟨hc,hr,hlt⟩:=CH h;by_cases hik:i=k
  ·have e:B6 l (k:Int) (i:Int)=some (.inr (.inl ())):=by
    unfold B6; rw[decide_eq_true (by omega),decide_eq_false (by omega)]; rfl
   exact⟨.inl (),AL e,.inl ⟨rfl,by rw[hik]; simp⟩⟩
  obtain⟨f,hf⟩:=Acz c;have e:B6 l (k:Int) (i:Int)=some (if f=true then .inl ((i+1:Nat):Int)else .inr (.inr false)):=by
   unfold B6;rw[decide_eq_true (by omega),decide_eq_true (by omega),Bool.and_self,if_pos rfl,AZ hc,Ab,hf,Ab,CC (by omega)];cases f<;>rfl
  cases f with
  |false=>exact⟨.inr false,AL e,.inr rfl⟩
  |true=>
   obtain⟨t,ht,hq⟩:=few_loop hk r (i+1) n hr (by omega) (by omega);refine⟨t,(Av e).trans ht,?_⟩;rcases hq with ⟨h1,h2⟩|h1
   ·refine .inl ⟨h1,?_⟩;have:k-i=(k-(i+1))+1:=by omega
    rw[this,List.take_succ_cons];intro x hx;rcases List.mem_cons.1 hx with rfl|hx
    ·exact few_ok hf
    ·exact h2 x hx
   ·exact .inr h1
theorem few19 (l:List g_api_Cert)(k:Nat)(hk:k≤1000): ∃b,EU l (k:Int)=some b∧(b=true→l.length≤k∧∀c∈l,FewP c):=by
 unfold EU;obtain⟨t,ht,hq⟩:=few_loop (l:=l) hk l 0 AR rfl (Nat.zero_le _) (by unfold AR; omega);have ht:iter (B6 l (k:Int)) AR 0=some t:=ht;rw[ht,Ab];rcases hq with ⟨rfl,h⟩|rfl
 ·refine⟨decide ((l.length:Int)≤(k:Int)),rfl,fun hb=> ?_⟩;have hb:=of_decide_eq_true hb;refine⟨by omega,fun c hc=>h c ?_⟩;rw[List.take_of_length_le (by omega)]; exact hc
 ·exact⟨false,rfl,fun h=>by cases h⟩
theorem few_law (l r:List g_api_Cert)(s:ByteArray): ∃b,Iq l r s=some b∧(b=true→l.length≤5∧(∀c∈l,FewP c)∧r.length≤6∧(∀c∈r,FewP c)∧s.size≤200):=by
 unfold Iq;obtain⟨a,ha,h1⟩:=few19 l 5 (by decide);obtain⟨b,hb,h2⟩:=few19 r 6 (by decide);have ha:EU l 5=some a:=ha;have hb:EU r 6=some b:=hb;rw[ha,Ab,hb,Ab];refine⟨(a&&b)&&decide ((s.size:Int)≤200),rfl,fun h=> ?_⟩;simp only[Bool.and_eq_true,decide_eq_true_eq]at h;obtain⟨⟨ha1,hb1⟩,hs⟩:=h;exact⟨(h1 ha1).1,(h1 ha1).2,(h2 hb1).1,(h2 hb1).2,by omega⟩
theorem eqS_sym (a b:ByteArray):eqS a b=eqS b a:=by rw[Bool.eq_iff_iff,IV,IV]; exact eq_comm
theorem body18_ok {c:g_api_Cert}(P:FewP c)(h0:checkV c=0):Ht c=some (JS c,0):=by
 have K:=okc h0;have hl:(putB 8 (Lk c)).length≤2048:=OX K;unfold Ht;rw[Te (Yr P K.form),Ab];unfold HN;rw[KK P,Ab,h0,if_neg (by decide),VA (Vk c 4) (WO P 5) (by omega),Ti (by omega),if_pos (AaL (by decide) (U7 K)),if_pos (by omega)];rfl
theorem link_eq {a0 a1:g_api_Cert}(h0:FewP a0)(h1:FewP a1): ∃e,CQ a0 a1=some e∧ET a0 a1=some e:=by
 unfold CQ ET;rw[KK h0,Ab,KK h1,Ab];simp only[Fe,DN,OV,Ab];by_cases z0:checkV a0=0
 ·rw[z0];by_cases z1:checkV a1=0
  ·rw[z1,eqS_sym a0.Issuer a1.Subject];have B:=Vt (okc z0);have B':=body18_ok h0 z0;obtain⟨e,he⟩:=check_tot a1.Key a0.Sig (show(JS a0).length≤600000 by have:=OX (okc z0); omega);have he':=(check04_eq a1.Key a0.Sig (show(JS a0).length≤600000 by have:=OX (okc z0); omega)).trans he;rw[B,B'];simp only[Ab,he,he'];simp;split
   ·exact⟨_,rfl⟩
   ·split<;>exact⟨_,rfl⟩
  ·simp[z1]
 ·simp[z0]
end Go.Proofs.YtbajlmaijjcbmaaGreatDoor
end
section
namespace Go.Proofs.YtbajlmaijjcbmaaGreatDoor
open Go Go.Gw Go.Ax
def Rn {α:Type}(f:Nat→α→Int):Nat→List α→Int
 |_,[]=>0
 |i,x::l=>if f i x=0 then Rn f (i+1) l else f i x
def fsO (e:Int):Unit⊕Int:=if e=0 then .inl ()else .inr e
theorem fsO_get {e:Int}:(match fsO e with| .inr r=>some r| .inl _=>some 0:Option Int)=some e:=by
 unfold fsO;by_cases h:e=0
 ·rw[if_pos h,h]
 ·rw[if_neg h]
theorem eachR_fst {α:Type}{body:Int→α→Unit→Option (Unit⊕Int)}(f:Nat→α→Int): ∀(l:List α) (i:Nat),(∀k x,l[k]? =some x→body ((i+k:Nat):Int) x ()=some (fsO (f (i+k) x)))→Fe body l (i:Int) ()=some (fsO (Rn f i l))
 | [],i,_=>rfl
 |x::l,i,h=>by
  have h0:=h 0 x rfl;show Ac (body (i:Int) x ()) _=_;rw[show body (i:Int) x ()=_ from h0];show _=some (fsO (if f i x=0 then _ else _));rw[Nat.add_zero,Ab];by_cases hz:f i x=0
  ·rw[if_pos hz,hz];refine eachR_fst f l (i+1) fun k y hy=> ?_;have:=h (k+1) y (by simpa using hy);rw[show i+1+k=i+(k+1)from by omega]; exact this
  ·rw[if_neg hz];unfold fsO;rw[if_neg hz]
theorem eachN_fst {α:Type}{body:Int→Unit→Option (Unit⊕Int)}(f:Nat→α→Int)(l:List α)(h: ∀(k:Nat) (x:α),l[k]? =some x→body (k:Int) ()=some (fsO (f k x))): ∀(r:List α) (i:Nat),l.drop i=r→Ep body r.length (i:Int) ()=some (fsO (Rn f i r))
 | [],i,_=>rfl
 |x::r,i,hd=>by
  obtain⟨hc,hr,hlt⟩:=CH hd;show Ac (body (i:Int) ()) _=_;rw[h i x hc];show _=some (fsO (if f i x=0 then _ else _));rw[Ab];by_cases hz:f i x=0
  ·rw[if_pos hz,hz];exact eachN_fst f l h r (i+1) hr
  ·rw[if_neg hz];unfold fsO;rw[if_neg hz]
theorem eachN_any {α σ τ:Type}{body:Int→σ→Option (σ⊕τ)}(l:List α)(p:α→Bool)(s:σ)(g:Nat→τ)(h: ∀(k:Nat) (x:α),l[k]? =some x→body (k:Int) s=some (if p x=true then .inr (g k)else .inl s)):
  ∀(r:List α) (i:Nat),l.drop i=r→∃j,Ep body r.length (i:Int) s=some (if r.any p=true then .inr (g j)else .inl s)
 | [],i,_=>⟨0,rfl⟩
 |x::r,i,hd=>by
  obtain⟨hc,hr,hlt⟩:=CH hd;show∃j,Ac (body (i:Int) s) _=_;rw[h i x hc,List.any_cons];cases hp:p x with
  |true=>exact⟨i,rfl⟩
  |false=>
   obtain⟨j,ih⟩:=eachN_any l p s g h r (i+1) hr;exact⟨j,ih⟩
theorem nn0 {e:Int}(h:e=0): ¬(e≠0):=fun k=>k h
theorem cCheck_eq (c:g_api_Cert):D7 c=some (checkV c):=OV c
theorem b3_eq (i:Int)(c:g_api_Cert):DN i c ()=some (fsO (checkV c)):=by
 unfold DN fsO;rw[cCheck_eq,Ab];by_cases h:checkV c=0
 ·rw[if_pos h,if_neg (by simpa using h)]
 ·rw[if_neg h,if_pos (by simpa using h)]
def Abw (p:UInt64)(m:List UInt8)(s:g_api_Sig):Int:=(C1 p m s).getD 1
theorem sig_eq (p:UInt64){m:List UInt8}(s:g_api_Sig)(h:m.length≤600000):C1 p m s=some (Abw p m s):=by
 obtain⟨e,he⟩:=check_tot p s h;unfold Abw;rw[he]; rfl
def JH (a b:g_api_Cert):Int:=if checkV a≠0 then checkV a else if checkV b≠0 then checkV b else if((!b.Ca)||(!eqS a.Issuer b.Subject))=true then 191 else if Abw b.Key (JS a) a.Sig≠0 then 40 else 0
theorem link_V (a b:g_api_Cert):CQ a b=some (JH a b):=by
 have e1:Fe DN ([a,b]:List g_api_Cert) 0 ()=some (fsO (Rn (fun _ c=>checkV c) 0 [a,b])):=eachR_fst (fun _ c=>checkV c) [a,b] 0 fun k x _=>b3_eq _ x;unfold CQ JH;rw[e1,Ab];show(match fsO (if checkV a=0 then(if checkV b=0 then 0 else checkV b)else checkV a)with| .inr r=>some r| .inl _=>_)=_;by_cases ha:checkV a=0
 ·rw[if_pos ha,if_neg (nn0 ha)];by_cases hb:checkV b=0
  ·rw[if_pos hb,if_neg (nn0 hb)];show(if((!b.Ca)||(!eqS a.Issuer b.Subject))=true then some 191 else _)=_;by_cases hc:((!b.Ca)||(!eqS a.Issuer b.Subject))=true
   ·rw[if_pos hc,if_pos hc]
   ·rw[if_neg hc,if_neg hc,Vt (okc ha),Ab];show Ac (C1 b.Key (JS a) a.Sig) _=_;rw[sig_eq _ _ (by have:=OX (okc ha); omega),Ab];by_cases hs:Abw b.Key (JS a) a.Sig=0
    ·rw[if_neg (show¬((Abw b.Key (JS a) a.Sig !=0)=true)from by simpa using hs),if_neg (nn0 hs)]
    ·rw[if_pos (show(Abw b.Key (JS a) a.Sig !=0)=true from by simpa using hs),if_pos hs]
  ·rw[if_neg hb,if_pos hb];unfold fsO; rw[if_neg hb]
 ·rw[if_neg ha,if_pos ha];unfold fsO; rw[if_neg ha]
theorem is_eqC (s:ByteArray):CO s=some (isB (toL s) 8 64):=by
 unfold CO;rw[show Bc s 8 64=some (isB (toL s) 8 64)from Ov s 8 64 (by decide)];rfl
theorem pattern_eq (s:ByteArray): ∃o st,Cj s=some (o,st,isB (toL s) 8 64||Mv (toL s))∧(isB (toL s) 8 64=true→o=s∧st=false)∧(isB (toL s) 8 64=false→Mv (toL s)=true→o=s.extract 2 s.size∧st=true):=by
 have hz:(toL s).length=s.size:=AA s;unfold Cj;rw[is_eqC,Ab];cases h1:isB (toL s) 8 64 with
 |true=>exact⟨s,false,rfl,fun _=>⟨rfl,rfl⟩,fun h=>(by cases h)⟩
 |false=>
  rw[if_neg (by decide),Bool.false_or];unfold By AK AJ;have e2:(((⟨#[42,46]⟩:ByteArray).size:Nat):Int)=2:=rfl;rw[e2];match hl:toL s with
  | []=>
   rw[hl,List.length_nil]at hz;rw[decide_eq_false (show¬(s.size:Int)≥2 from by omega)];exact⟨_,_,rfl,fun h=>(by cases h),fun _ h=>(by cases h)⟩
  | [a]=>
   rw[hl,List.length_cons,List.length_nil]at hz;rw[decide_eq_false (show¬(s.size:Int)≥2 from by omega)];exact⟨_,_,rfl,fun h=>(by cases h),fun _ h=>(by cases h)⟩
  |a::b::r=>
   rw[hl,List.length_cons,List.length_cons]at hz;have ec:KP s 0 2=some (s.extract 0 2):=CY (by omega) (by omega) (by omega);have el:(s.extract 0 2).data.toList=[a,b]:=by
    rw[Ho];show((toL s).take 2).drop 0=_;rw[hl]; rfl
   have ee:eqS (s.extract 0 2) (⟨#[42,46]⟩:ByteArray)=(a==42&&b==46):=by
    unfold eqS;rw[el,Bool.eq_iff_iff];simp
   rw[decide_eq_true (show(s.size:Int)≥2 from by omega),gu_tt,ec,Ab,BY,ee,Ab];show∃o st,_=some (o,st,(a==42&&b==46&&isB r 7 62))∧_∧(_→(a==42&&b==46&&isB r 7 62)=true→_);cases a==42&&b==46 with
   |false=>exact⟨_,_,rfl,fun h=>(by cases h),fun _ h=>(by cases h)⟩
   |true=>
    have ec2:KP s 2 (s.size:Int)=some (s.extract 2 s.size):=by
     rw[CY (by omega) (by omega) (by omega)]; rfl
    have el2:(s.extract 2 s.size).data.toList=r:=by
     rw[Ho];show((toL s).take s.size).drop 2=_;rw[List.take_of_length_le (by rw[hl,List.length_cons,List.length_cons]; omega),hl]; rfl
    rw[show(true&&true)=true from rfl,if_neg (by decide),ec2,Ab,Ab,Ab];have en:=Ov (s.extract 2 s.size) 7 62 (by decide);rw[el2]at en;have en:Bc (s.extract 2 s.size) 7 62=some (isB r 7 62):=en;show∃o st,Ac (gu true (Bc (s.extract 2 s.size) 7 62)) _=_∧_;rw[gu_tt,en,Ab];exact⟨_,_,rfl,fun h=>(by cases h),fun _ _=>⟨rfl,rfl⟩⟩
def upV (s:ByteArray):ByteArray:=(DY s).getD ⟨#[]⟩
theorem up_eq (s:ByteArray):DY s=some (upV s)∧(upV s=⟨#[]⟩∨(isB (toL s) 8 64=true∧∃p,toL s=p++46::toL (upV s)∧(46:UInt8)∉p)):=by
 have key: ∃u,DY s=some u∧(u=⟨#[]⟩∨(isB (toL s) 8 64=true∧∃p,toL s=p++46::toL u∧(46:UInt8)∉p)):=by
  unfold DY;rw[is_eqC,Ab];cases h1:isB (toL s) 8 64 with
  |false=>exact⟨_,rfl,.inl rfl⟩
  |true=>
   have hz:(toL s).length=s.size:=AA s;have hs:s.size≤64:=by
    unfold isB at h1;simp only[Bool.and_eq_true,decide_eq_true_eq]at h1;have:=h1.1.1; omega
   have hx:Ay s (⟨#[46]⟩:ByteArray)=some (Vb s 46):=by
    have h:=OK s (by omega);unfold Bi at h;cases q:Ay s (⟨#[46]⟩:ByteArray)with
    |none=>rw[q]at h; cases h
    |some v=>rw[q]at h; exact h
   rw[if_neg (by decide)];unfold Fi B1;rw[hx,Ab];rcases Ma s.data.toList 46 with ⟨h2,h3⟩|⟨p,r,h2,h3,h4⟩
   ·rw[show Vb s 46= -1 from h2,if_neg (by decide)];exact⟨_,rfl,.inl rfl⟩
   ·have hl:s.size=p.length+1+r.length:=by rw[←AA,h2,List.length_append,List.length_cons]; omega
    have e1:KP s 0 (p.length:Int)=some (s.extract 0 p.length):=by
     rw[CY (by omega) (by omega) (by omega)]; rfl
    have e2:KP s (w64 ((p.length:Int)+((⟨#[46]⟩:ByteArray).size:Int))) (s.size:Int)=some (s.extract (p.length+1) s.size):=by
     have:((⟨#[46]⟩:ByteArray).size:Int)=1:=rfl;rw[this,CW (by omega) (by omega),CY (by omega) (by omega) (by omega)];rfl
    rw[show Vb s 46=(p.length:Int)from h4,if_pos (by rw[decide_eq_true_eq]; omega),e1,Ab,e2,Ab,Ab,Ab];refine⟨_,rfl,.inr ⟨rfl,p,?_,h3⟩⟩;have l2:(s.extract (p.length+1) s.size).data.toList=r:=by
     rw[Ho,←AA,List.take_length,h2];rw[←List.drop_drop,List.drop_left]; rfl
    show s.data.toList=_;rw[show toL (s.extract (p.length+1) s.size)=r from l2]; exact h2
 obtain⟨u,h,h'⟩:=key;have e:upV s=u:=by unfold upV; rw[h]; rfl
 rw[e]; exact⟨h,h'⟩
theorem up_lt (s:ByteArray):upV s=⟨#[]⟩∨(upV s).size<s.size:=by
 rcases(up_eq s).2 with h|⟨_,p,h,_⟩
 ·exact .inl h
 ·refine .inr ?_;rw[←AA,←AA s];show(toL (upV s)).length<(toL s).length;rw[h,List.length_append,List.length_cons]; omega
theorem up_64 (s:ByteArray):(upV s).size≤64:=by
 rcases(up_eq s).2 with h|⟨h1,p,h,_⟩
 ·rw[h]; exact Nat.zero_le _
 ·unfold isB at h1;simp only[Bool.and_eq_true,decide_eq_true_eq]at h1;have:=h1.1.1;rw[h,List.length_append,List.length_cons]at this;rw[←AA];show(toL (upV s)).length≤64;omega
def YQ:Nat→ByteArray→ByteArray→Bool
 |0,_,_=>false
 |n+1,s,o=>if eqS s ⟨#[]⟩=true then false else if eqS s o=true then true else YQ n (upV s) o
def belV (s o:ByteArray):Bool:=YQ 100 (upV s) o
theorem eqS_empty (s:ByteArray)(h: ¬eqS s ⟨#[]⟩=true):1≤s.size:=by
 rcases Nat.eq_zero_or_pos s.size with q|q
 ·refine absurd (IV.2 ?_) h;exact ByteArray.ext (Array.eq_empty_of_size_eq_zero q)
 ·exact q
theorem above_loop (o:ByteArray): ∀(n:Nat) (s:ByteArray),s.size<n→
  ∃z,iter (CP (fun(s:(Bool)×Nat) (b0:ByteArray)=>if s.2=0 then Ac (Dr o b0 s) fun y=>some (y.2==0,y)else none)) n (s,(false,0))=some (z,if YQ n s o=true then(true,1)else(false,0))
 |0,s,h=>by omega
 |n+1,s,h=>by
  show∃z,Ac (CP _ (s,(false,0))) _=_;unfold CP YQ;by_cases h1:eqS s ⟨#[]⟩=true
  ·rw[h1];exact⟨s,rfl⟩
  ·have h1':eqS s ⟨#[]⟩=false:=by simpa using h1
   rw[h1'];unfold Dr;by_cases h2:eqS s o=true
   ·refine⟨s,?_⟩;simp only[h2];rfl
   ·have h2':eqS s o=false:=by simpa using h2
    have hlt:(upV s).size<n:=by
     have:=eqS_empty s h1;rcases up_lt s with q|q
     ·rw[q]; show 0<n; omega
     ·omega
    obtain⟨z,ih⟩:=above_loop o n (upV s) hlt;refine⟨z,?_⟩;simp only[h2',if_true,if_false,Bool.false_eq_true,Ab,(up_eq s).1];exact ih
theorem below_eq (s o:ByteArray):Ef s o=some (belV s o):=by
 obtain⟨z,h⟩:=above_loop o 100 (upV s) (by have:=up_64 s; omega);unfold Ef HP Gz;rw[Ab,(up_eq s).1,Ab,Dg 100 h (by decide),Ab,Ab];unfold belV;cases YQ 100 (upV s) o<;>rfl
def ZK (p s:ByteArray):Bool:=isB (toL s) 8 64&&(if isB (toL p) 8 64=true then eqS p s else Mv (toL p)&&belV s (p.extract 2 p.size))
theorem match_eq (p s:ByteArray):GA p s=some (ZK p s):=by
 obtain⟨o,st,h,h1,h2⟩:=pattern_eq p;unfold GA ZK;rw[h,Ab,is_eqC];cases q1:isB (toL p) 8 64 with
 |true=>
  obtain⟨rfl,rfl⟩:=h1 q1;rw[Bool.true_or];cases isB (toL s) 8 64<;>rfl
 |false=>
  rw[Bool.false_or];cases q2:Mv (toL p)with
  |false=>cases isB (toL s) 8 64<;>rfl
  |true=>
   obtain⟨rfl,rfl⟩:=h2 q1 q2;cases isB (toL s) 8 64 with
   |false=>rfl
   |true=>
    show Ac (Ef s _) _=_;rw[below_eq]; rfl
theorem last_idx {α:Type}{l:List α}(h:l≠[])(hs:l.length≤1000): ∃x,l.getLast? =some x∧idx l (w64 ((l.length:Int)-1))=some x:=by
 have h1:1≤l.length:=List.length_pos_iff.2 h;refine⟨l.getLast h,List.getLast?_eq_some_getLast h,?_⟩;rw[CW (by omega) (by omega)];have e:(l.length:Int)-1=((l.length-1:Nat):Int):=by omega
 rw[e];refine AZ ?_;rw[←List.getLast?_eq_getElem?,List.getLast?_eq_some_getLast h]
theorem cut_tail {α:Type}(a:α)(l:List α):cut (a::l) 1 ((a::l).length:Int)=some l:=by
 have h:=AcF [a] l;simpa using h
def timeB (c:g_api_Cert)(now:Int):Bool:=decide (c.From≤now)&&decide (c.Until>now)
theorem timely_eq (t:g_path_trip)(c:g_api_Cert):DC t c=some (timeB c t.now_):=rfl
def Q9 (c:g_api_Cert)(n:ByteArray):Bool:=c.Permit.any fun p=>ZK p n
theorem refused_eq (n:ByteArray)(c:g_api_Cert):Dq n c=some (!Q9 c n,c):=by
 obtain⟨j,h⟩:=eachN_any (body:=AG c.Permit) c.Permit (fun p=>ZK p n) n (fun k=>((k:Int),n)) (fun k x hx=>by
  unfold AG EI;rw[AZ hx,Ab,match_eq,Ab,Ab];cases ZK x n<;>rfl) c.Permit 0 rfl
 have h:Ep (AG c.Permit) c.Permit.length 0 n=_:=h;unfold Dq A5 Be Q9;rw[h,Ab];cases c.Permit.any fun p=>ZK p n with
 |true=>
  show some (!decide ((j:Int)≥0),c)=_;rw[decide_eq_true (by omega)]
 |false=>rfl
theorem contains_eq131 (l:List ByteArray)(c:g_api_Cert):AN l c=some (l.any fun n=> !Q9 c n,c):=by
 obtain⟨j,h⟩:=eachN_any (body:=AH l) l (fun n=> !Q9 c n) (c.Serial,c.Issuer,c.Subject,c.Key,c.Names,c.From,c.Until,c.Ca,c.Depth,c.Permit,c.Proms,c.Sig.E,c.Sig.S) (fun k=>((k:Int),c)) (fun k x hx=>by
  unfold AH;rw[AZ hx,Ab];show Ac (Dq x c) _=_;rw[refused_eq,Ab];cases Q9 c x<;>rfl) l 0 rfl
 have h:Ep (AH l) l.length 0 (c.Serial,c.Issuer,c.Subject,c.Key,c.Names,c.From,c.Until,c.Ca,c.Depth,c.Permit,c.Proms,c.Sig.E,c.Sig.S)=_:=h;unfold AN Bf;rw[h,Ab];cases l.any fun n=> !Q9 c n with
 |true=>
  show some (decide ((j:Int)≥0),c)=_;rw[decide_eq_true (by omega)]
 |false=>rfl
def Q2 (names:List ByteArray)(i:Nat)(c:g_api_Cert):Int:=if c.Depth<(i:Int)then 191 else if 0<c.Permit.length∧(names.any fun n=> !Q9 c n)=true then 110 else 0
def byV (chain:List g_api_Cert)(now:Int)(root:g_api_Cert):Int:=
 match chain with
 | []=>1
 |leaf::more=>
  let e:=JH ((leaf::more).getLast (by simp)) root
  if e≠0 then e else if timeB root now=false then 190 else Rn (Q2 leaf.Names) 0 (more++[root])
theorem by_eq (roots:List g_api_Cert)(leaf:g_api_Cert)(more:List g_api_Cert)(name:ByteArray)(now:Int)(root:g_api_Cert)(hn:more.length≤100):
  EA ⟨roots,leaf::more,name,now⟩ root=some (byV (leaf::more) now root):=by
 obtain⟨x,hx,hi⟩:=last_idx (l:=leaf::more) (by simp) (by simp; omega);have hx:(leaf::more).getLast (by simp)=x:=by rw[List.getLast?_eq_some_getLast (by simp)]at hx; exact Option.some.inj hx
 unfold EA byV;simp only[hx];show Ac (idx (leaf::more) (w64 (((leaf::more).length:Int)-1))) _=_;rw[hi,Ab,link_V,Ab];by_cases h1:JH x root=0
 ·rw[if_neg (show¬((JH x root !=0)=true)from by simpa using h1),if_neg (nn0 h1),timely_eq,Ab];show(if(!timeB root now)=true then some 190 else _)=_;cases timeB root now with
  |false=>rfl
  |true=>
   rw[if_neg (by decide),if_neg (by decide)];have ec:cut (leaf::more) 1 ((leaf::more).length:Int)=some more:=cut_tail leaf more;show Ac (cut (leaf::more) 1 ((leaf::more).length:Int)) _=_;rw[ec,Ab];unfold AX;rw[Kw 168 (by simp; omega) (by simp; omega),Ab,Ab,List.nil_append,Kw 168 (by simp; omega) (by simp; omega),Ab];have e:=eachN_fst (body:=Db ⟨roots,leaf::more,name,now⟩ (more++[root])) (Q2 leaf.Names) (more++[root]) (fun k c hc=>by
    unfold Db;rw[AZ hc,Ab,BY];unfold Q2;by_cases h2:c.Depth<(k:Int)
    ·rw[if_pos h2,if_pos (by simpa using h2)]; rfl
    ·rw[if_neg h2,if_neg (by simpa using h2)];by_cases h3:0<c.Permit.length
     ·rw[if_pos (by rw[decide_eq_true_eq]; omega)];show Ac (some leaf) _=_;rw[Ab,contains_eq131,Ab];cases leaf.Names.any fun n=> !Q9 c n with
      |true=>rw[if_pos rfl,if_pos ⟨h3,rfl⟩]; rfl
      |false=>rw[if_neg (by simp),if_neg (by simp)]; rfl
     ·rw[if_neg (by rw[decide_eq_true_eq]; omega),if_neg (by simp[h3])]; rfl) (more++[root]) 0 rfl
   have e:Ep (Db ⟨roots,leaf::more,name,now⟩ (more++[root])) (more++[root]).length 0 ()=_:=e;rw[e,Ab];exact fsO_get
 ·rw[if_pos (show(JH x root !=0)=true from by simpa using h1),if_pos h1]
def Nh (roots chain:List g_api_Cert)(name:ByteArray)(now:Int):Int:=if chain.length=0∨4<chain.length∨16<roots.length∨now<0∨now>1099511627776 then 1 else nameV name
def caB:Nat→List g_api_Cert→Bool
 |_,[]=>true
 |i,c::r=>(c.Ca==decide (0<i))&&caB (i+1) r
def OJ (chain:List g_api_Cert)(name:ByteArray)(now:Int):Int:=if caB 0 chain=false then 191 else match chain with| []=>1|leaf::_=>if(leaf.Names.any fun s=>eqS name s)=false then 110 else if(chain.any fun c=> !timeB c now)=true then 190 else 0
def linksV:List g_api_Cert→Int
 |a::b::r=>if JH a b≠0 then JH a b else linksV (b::r)
 |_=>0
def Py (chain:List g_api_Cert)(now:Int)(roots:List g_api_Cert):Int:=if(roots.any fun r=>byV chain now r==0)=true then 0 else match roots with| []=>191|r::_=>byV chain now r
def Nt (l:List g_api_Cert):Int:=Rn (fun _ c=>checkV c) 0 l
def Zy (roots chain:List g_api_Cert)(name:ByteArray)(now:Int):Int:=if Nh roots chain name now≠0 then Nh roots chain name now else if Nt (chain++roots)≠0 then Nt (chain++roots)else if OJ chain name now≠0 then OJ chain name now else if linksV chain≠0 then linksV chain else Py chain now roots
theorem bounds_iff (n r:Nat)(now:Int):((((((n:Int)==0)||(decide ((n:Int)>4)))||(decide ((r:Int)>16)))||(decide (now<0)))||(decide (now>1099511627776)))=decide (n=0∨4<n∨16<r∨now<0∨now>1099511627776):=by
 rw[Bool.eq_iff_iff];simp only[Bool.or_eq_true,decide_eq_true_eq,beq_iff_eq];have e1:(n:Int)=0↔n=0:=by omega
 have e2:(n:Int)>4↔4<n:=by omega
 have e3:(r:Int)>16↔16<r:=by omega
 rw[e1,e2,e3,or_assoc,or_assoc,or_assoc]
theorem bounds_eq (t:g_path_trip):DD t=some (Nh t.roots_ t.chain_ t.name_ t.now_):=by
 obtain⟨ro,ch,nm,nw⟩:=t;unfold DD Nh;dsimp only;rw[ND,Ab,bounds_iff];by_cases h:ch.length=0∨4<ch.length∨16<ro.length∨nw<0∨nw>1099511627776
 ·rw[if_pos h,if_pos (decide_eq_true h)]
 ·rw[if_neg h,if_neg (fun q=>h (of_decide_eq_true q))]
theorem grow_nil (n:Nat)(h:n≤10000):A1 (n:Int)=some []:=by
 unfold A1;rw[decide_eq_false (show¬((n:Int)<0)from by omega),if_neg (by decide),Ab,BY];have e0:w64 (0-((0:Nat):Int))=0:=CW (by decide) (by decide);have e1:w64 ((n:Int)-w64 (0-((0:Nat):Int)))=(n:Int):=by
  rw[e0,Int.sub_zero];exact CW (by omega) (by omega)
 rw[e1];by_cases h0:n=0
 ·rw[decide_eq_false (show¬((n:Int)>0)from by omega),if_neg (by decide),Ab]
 ·rw[decide_eq_true (show(n:Int)>0 from by omega),if_pos rfl,if_pos ⟨by omega,by omega,by omega⟩,Ab]
theorem sum_len (a b:List g_api_Cert)(ha:a.length≤1000)(hb:b.length≤1000):GM Aw ([a,b]:List (List g_api_Cert)) 0 0=some ((a.length+b.length:Nat):Int):=by
 have e: ∀(n:Nat) (i:Int) (x:List g_api_Cert),n+x.length≤10000→Aw i x (n:Int)=some ((n+x.length:Nat):Int):=by
  intro n i x h;have e1:w64 ((n:Int)+(x.length:Int))=((n+x.length:Nat):Int):=by
   rw[CW (by omega) (by omega)]; exact(Int.natCast_add _ _).symm
  unfold Aw;rw[BY,e1,decide_eq_false (show¬(((n+x.length:Nat):Int)<0)from by omega),if_neg (by decide),Ab]
 have e0:=e 0 0 a (by omega);have e1:=e a.length (0+1) b (by omega);rw[Nat.zero_add]at e0;show Ac (Aw 0 a ((0:Nat):Int)) (fun s=>Ac (Aw (0+1) b s) fun s=>some s)=_;rw[e0,Ab,e1,Ab]
theorem concat_eq (a b:List g_api_Cert)(ha:a.length≤1000)(hb:b.length≤1000):AQ ([a,b]:List (List g_api_Cert))=some (a++b):=by
 unfold AQ;rw[sum_len a b ha hb,Ab,Ab,grow_nil _ (by omega),Ab];have e:GM AE ([a,b]:List (List g_api_Cert)) 0 []=some (a++b):=by
  show Ac (AE 0 a []) (fun s=>Ac (AE (0+1) b s) fun s=>some s)=_;unfold AE;rw[Kw 168 (by simp; omega) (by simp; omega),Ab,Ab,List.nil_append,Kw 168 (by omega) (by omega),Ab,Ab]
 rw[e,Ab,Ab]
theorem path_each_eq (t:g_path_trip)(ha:t.chain_.length≤1000)(hb:t.roots_.length≤1000):Eu t=some (Nt (t.chain_++t.roots_)):=by
 unfold Eu;rw[concat_eq _ _ ha hb,Ab];have e:=eachR_fst (body:=Cw) (fun _ c=>checkV c) (t.chain_++t.roots_) 0 (fun k x _=>by
  unfold Cw;rw[cCheck_eq,Ab];unfold fsO;by_cases h:checkV x=0
  ·rw[if_pos h,if_neg (by simpa using h)]
  ·rw[if_neg h,if_pos (by simpa using h)])
 have e:Fe Cw (t.chain_++t.roots_) 0 ()=_:=e;rw[e,Ab];exact fsO_get
theorem kinds_loop (t:g_path_trip): ∀(r:List g_api_Cert) (i:Nat) (s:Bool),t.chain_.drop i=r→Ep (BI t) r.length (i:Int) s=some (if caB i r=true then .inl (s||r.any fun c=> !timeB c t.now_)else .inr 191)
 | [],i,s,_=>by show some (Sum.inl s)=_; simp[caB]
 |c::r,i,s,hd=>by
  obtain⟨hc,hr,hlt⟩:=CH hd;have ih:=kinds_loop t r (i+1) (s|| !timeB c t.now_) hr;show Ac (BI t (i:Int) s) _=_;have e:BI t (i:Int) s=some (if(c.Ca==decide (0<i))=true then .inl (s|| !timeB c t.now_)else .inr 191):=by
   unfold BI;rw[AZ hc,Ab,timely_eq];have ed:decide ((i:Int)>0)=decide (0<i):=by rw[decide_eq_decide]; omega
   rw[ed];cases s with
   |true=>
    show Ac (some default) _=_;rw[Ab];cases c.Ca==decide (0<i)<;>rfl
   |false=>
    show Ac (some (timeB c t.now_)) _=_;rw[Ab];cases c.Ca==decide (0<i)<;>rfl
  rw[e];unfold caB;cases c.Ca==decide (0<i)with
  |false=>rfl
  |true=>
   rw[if_pos rfl,Ab,Bool.true_and,List.any_cons,←Bool.or_assoc];exact ih
theorem has_eq (l:List ByteArray)(n:ByteArray):Bl l n=some (l.any fun s=>eqS n s):=by
 obtain⟨j,h⟩:=eachN_any (body:=A0 l n) l (fun s=>eqS n s) () (fun k=>(k:Int)) (fun k x hx=>by
  unfold A0;rw[AZ hx,Ab];cases eqS n x<;>rfl) l 0 rfl
 have h:Ep (A0 l n) l.length 0 ()=_:=h;unfold Bl Ce;rw[h,Ab];cases l.any fun s=>eqS n s with
 |true=>
  show some (decide ((j:Int)≥0))=_;rw[decide_eq_true (by omega)]
 |false=>rfl
theorem kinds_eq (t:g_path_trip)(h:t.chain_≠[]):DX t=some (OJ t.chain_ t.name_ t.now_):=by
 unfold DX OJ;rw[show Ep (BI t) t.chain_.length 0 false=_ from kinds_loop t t.chain_ 0 false rfl,Ab];cases caB 0 t.chain_ with
 |false=>rfl
 |true=>
  rw[if_pos rfl,if_neg (by decide)];cases hl:t.chain_ with
  |nil=>exact absurd hl h
  |cons leaf more=>
   show Ac (some leaf) _=_;rw[Ab,has_eq,Ab,Bool.false_or];show _=some (if(leaf.Names.any fun s=>eqS t.name_ s)=false then 110 else _);cases leaf.Names.any fun s=>eqS t.name_ s with
   |false=>rfl
   |true=>
    cases (leaf::more).any fun c=> !timeB c t.now_<;>rfl
theorem links_loop (t:g_path_trip)(hn:t.chain_.length≤1000): ∀(r:List g_api_Cert) (a:g_api_Cert) (i:Nat),t.chain_.drop i=a::r→Ep (BH t) r.length (i:Int) ()=some (fsO (linksV (a::r)))
 | [],a,i,_=>rfl
 |b::r,a,i,hd=>by
  obtain⟨ha,hr,hlt⟩:=CH hd;obtain⟨hb,hr2,hlt2⟩:=CH hr;have ih:=links_loop t hn r b (i+1) hr;show Ac (BH t (i:Int) ()) _=_;have e:BH t (i:Int) ()=some (fsO (JH a b)):=by
   unfold BH fsO;rw[AZ ha,Ab,CC (by omega),AZ hb,Ab,link_V,Ab];by_cases h:JH a b=0
   ·rw[if_pos h,if_neg (by simpa using h)]
   ·rw[if_neg h,if_pos (by simpa using h)]
  rw[e,Ab];unfold linksV;by_cases h:JH a b=0
  ·rw[if_neg (nn0 h),h];exact ih
  ·rw[if_pos h];unfold fsO;rw[if_neg h]
theorem links_eq (t:g_path_trip)(h:t.chain_≠[])(hn:t.chain_.length≤1000):DW t=some (linksV t.chain_):=by
 unfold DW;cases hl:t.chain_ with
 |nil=>exact absurd hl h
 |cons a r=>
  have e1:Int.toNat (w64 (((a::r).length:Int)-1))=r.length:=by
   rw[hl,List.length_cons]at hn;have e0:((a::r).length:Int)-1=(r.length:Int):=by simp
   rw[e0,CW (by omega) (by omega),Int.toNat_natCast]
  rw[e1,show Ep (BH t) r.length 0 ()=_ from links_loop t hn r a 0 hl,Ab];exact fsO_get
theorem trusted_loop (t:g_path_trip)(hc:t.chain_≠[])(hn:t.chain_.length≤100)(hr:t.roots_.length≤1000): ∀(i n:Nat) (e:Int),i≤t.roots_.length→i<n→
  iter (Bb t) n (e,(i:Int)-1)=some (if((t.roots_.take i).any fun r=>byV t.chain_ t.now_ r==0)=true then .inr 0 else .inl (match t.roots_.take i with| []=>e|r::_=>byV t.chain_ t.now_ r))
 |0,n,e,_,hn0=>by
  obtain⟨n,rfl⟩: ∃q,n=q+1:=⟨n-1,by omega⟩;rfl
 |i+1,n,e,hi,hn0=>by
  obtain⟨n,rfl⟩: ∃q,n=q+1:=⟨n-1,by omega⟩;have hlt:i<t.roots_.length:=by omega
  have hx:t.roots_[i]? =some t.roots_[i]:=List.getElem?_eq_getElem hlt;have eb:EA t t.roots_[i]=some (byV t.chain_ t.now_ t.roots_[i]):=by
   obtain⟨ro,ch,nm,nw⟩:=t;cases ch with
   |nil=>exact absurd rfl hc
   |cons a r=>exact by_eq _ a r _ _ _ (by simp only[List.length_cons]at hn; omega)
  have e1:((i+1:Nat):Int)-1=(i:Int):=by omega
  rw[e1];show Ac (Bb t (e,(i:Int))) _=_;have es:Bb t (e,(i:Int))=some (if(byV t.chain_ t.now_ t.roots_[i]==0)=true then .inr (.inr 0)else .inl (byV t.chain_ t.now_ t.roots_[i],(i:Int)-1)):=by
   unfold Bb;rw[if_pos (by rw[decide_eq_true_eq]; show(i:Int)≥0; omega)];show Ac (idx t.roots_ (i:Int)) _=_;rw[AZ hx,Ab,eb,Ab];cases byV t.chain_ t.now_ t.roots_[i]==0 with
   |true=>rfl
   |false=>
    rw[if_neg (by decide),if_neg (by decide)];show some (Sum.inl (_,w64 ((i:Int)-1)))=_;rw[CW (by omega) (by omega)]
  rw[es,Ab];have et:t.roots_.take (i+1)=t.roots_.take i++[t.roots_[i]]:=by rw[List.take_add_one,hx]; rfl
  rw[et,List.any_append];have ih:=trusted_loop t hc hn hr i n (byV t.chain_ t.now_ t.roots_[i]) (by omega) (by omega);cases hb:byV t.chain_ t.now_ t.roots_[i]==0 with
  |true=>
   rw[if_pos rfl];have:(([t.roots_[i]]:List g_api_Cert).any fun r=>byV t.chain_ t.now_ r==0)=true:=by simp[hb]
   rw[this,Bool.or_true,if_pos rfl]
  |false=>
   rw[if_neg (by decide)];show iter (Bb t) n (_,(i:Int)-1)=_;rw[ih];have:(([t.roots_[i]]:List g_api_Cert).any fun r=>byV t.chain_ t.now_ r==0)=false:=by simp[hb]
   rw[this,Bool.or_false];cases (t.roots_.take i).any fun r=>byV t.chain_ t.now_ r==0 with
   |true=>rfl
   |false=>cases t.roots_.take i<;>rfl
theorem trusted_eq (t:g_path_trip)(hc:t.chain_≠[])(hn:t.chain_.length≤100)(hr:t.roots_.length≤1000):Dc t=some (Py t.chain_ t.now_ t.roots_):=by
 unfold Dc Py;rw[BY,CW (by omega) (by omega),trusted_loop t hc hn hr t.roots_.length AR 191 (Nat.le_refl _) (by have:=BA; omega),Ab,List.take_length];cases t.roots_.any fun r=>byV t.chain_ t.now_ r==0 with
 |true=>rfl
 |false=>cases t.roots_<;>rfl
theorem row_b1 (x:FH)(i e:Int)(h:Hn x=some e):DE i x ()=some (fsO e):=by
 unfold DE fsO;rw[h,Ab];by_cases h:e=0
 ·rw[if_pos h,if_neg (by simpa using h)]
 ·rw[if_neg h,if_pos (by simpa using h)]
theorem row_cons (x:FH)(l:List FH)(i e:Int)(h:Hn x=some e):Fe DE (x::l) i ()=if e≠0 then some (.inr e)else Fe DE l (i+1) ():=by
 show Ac (DE i x ()) _=_;rw[row_b1 x i e h,Ab];unfold fsO;by_cases h:e=0
 ·rw[if_pos h,if_neg (by simpa using h)]
 ·rw[if_neg h,if_pos h]
theorem path_eq (roots chain:List g_api_Cert)(name:ByteArray)(now:Int):Cd roots chain name now=some (Zy roots chain name now):=by
 unfold Cd KE Zy;generalize ht:(⟨roots,chain,name,now⟩:g_path_trip)=t;have h1:t.roots_=roots:=by rw[←ht]
 have h2:t.chain_=chain:=by rw[←ht]
 have h3:t.name_=name:=by rw[←ht]
 have h4:t.now_=now:=by rw[←ht]
 have d1:Hn ⟨34,t⟩=some (Nh roots chain name now):=by rw[←h1,←h2,←h3,←h4]; exact bounds_eq t
 rw[row_cons _ _ _ _ d1];by_cases z1:Nh roots chain name now=0
 ·have hb: ¬(chain.length=0∨4<chain.length∨16<roots.length∨now<0∨now>1099511627776):=by
   intro h;unfold Nh at z1;rw[if_pos h]at z1;cases z1
  have hne:chain≠[]:=fun h=>hb (.inl (by rw[h]; rfl));have d2:Hn ⟨35,t⟩=some (Nt (chain++roots)):=by rw[←h1,←h2]; exact path_each_eq t (by rw[h2]; omega) (by rw[h1]; omega)
  have d3:Hn ⟨36,t⟩=some (OJ chain name now):=by rw[←h2,←h3,←h4]; exact kinds_eq t (by rw[h2]; exact hne)
  have d4:Hn ⟨37,t⟩=some (linksV chain):=by rw[←h2]; exact links_eq t (by rw[h2]; exact hne) (by rw[h2]; omega)
  have d5:Hn ⟨38,t⟩=some (Py chain now roots):=by rw[←h1,←h2,←h4]; exact trusted_eq t (by rw[h2]; exact hne) (by rw[h2]; omega) (by rw[h1]; omega)
  rw[if_neg (nn0 z1),if_neg (nn0 z1),row_cons _ _ _ _ d2];by_cases z2:Nt (chain++roots)=0
  ·rw[if_neg (nn0 z2),if_neg (nn0 z2),row_cons _ _ _ _ d3];by_cases z3:OJ chain name now=0
   ·rw[if_neg (nn0 z3),if_neg (nn0 z3),row_cons _ _ _ _ d4];by_cases z4:linksV chain=0
    ·rw[if_neg (nn0 z4),if_neg (nn0 z4),row_cons _ _ _ _ d5];by_cases z5:Py chain now roots=0
     ·rw[if_neg (nn0 z5),z5]; rfl
     ·rw[if_pos z5]; rfl
    ·rw[if_pos z4,if_pos z4]; rfl
   ·rw[if_pos z3,if_pos z3]; rfl
  ·rw[if_pos z2,if_pos z2]; rfl
 ·rw[if_pos z1,if_pos z1]; rfl
structure PathOk (roots:List g_api_Cert)(leaf:g_api_Cert)(more:List g_api_Cert)(name:ByteArray)(now:Int):Prop where
 len:more.length≤3
 rts:roots.length≤16
 now0:0≤now
 nowM:now≤1099511627776
 nam:nameV name=0
 all: ∀c∈leaf::more++roots,checkV c=0
 kin:caB 0 (leaf::more)=true
 has:(leaf.Names.any fun s=>eqS name s)=true
 tim: ∀c∈leaf::more,timeB c now=true
 lnk:linksV (leaf::more)=0
end Go.Proofs.YtbajlmaijjcbmaaGreatDoor
end
section
namespace Go.Proofs.YtbajlmaijjcbmaaGreatDoor
open Go Go.Gw Go.Ax
theorem iter_any {α:Type}{step:Bool×Int→Option ((Bool×Int)⊕Bool)}(l:List α)(p:α→Bool)(hs: ∀(i:Nat) (x:α) (b:Bool),l[i]? =some x→step (b,(i:Int))=some (.inl (b||p x,((i+1:Nat):Int))))
  (he: ∀b,step (b,(l.length:Int))=some (.inr b)): ∀(r:List α) (i n:Nat) (b:Bool),l.drop i=r→i≤l.length→r.length<n→iter step n (b,(i:Int))=some (b||r.any p)
 |r,i,0,b,_,_,h=>by omega
 | [],i,n+1,b,hd,hi,_=>by
  have:l.length≤i:=List.drop_eq_nil_iff.1 hd;have e:i=l.length:=by omega
  rw[e,AL (he b)]; simp
 |x::r,i,n+1,b,hd,hi,hn=>by
  obtain⟨hc,hr,hlt⟩:=CH hd;rw[Av (hs i x b hc),iter_any l p hs he r (i+1) n _ hr hlt (by simp only[List.length_cons]at hn; omega),List.any_cons,Bool.or_assoc]
theorem FUEL_mil:1000001≤AR:=Nat.le_of_ble_eq_true rfl
theorem iter_any0 {α:Type}{step:Bool×Int→Option ((Bool×Int)⊕Bool)}(l:List α)(p:α→Bool)(hl:l.length≤1000000)(hs: ∀(i:Nat) (x:α) (b:Bool),l[i]? =some x→step (b,(i:Int))=some (.inl (b||p x,((i+1:Nat):Int))))
  (he: ∀b,step (b,(l.length:Int))=some (.inr b)) (b:Bool):iter step AR (b,0)=some (b||l.any p):=
 iter_any l p hs he l 0 AR b rfl (Nat.zero_le _) (by have:=FUEL_mil; omega)
def Vg {α τ:Type}(f:Nat→α→Option τ):Nat→List α→Unit⊕τ
 |_,[]=> .inl ()
 |i,x::l=>match f i x with|some t=> .inr t|none=>Vg f (i+1) l
theorem iter_fnd {α τ:Type}{step:Int→Option (Int⊕(Unit⊕τ))}(l:List α)(f:Nat→α→Option τ)(hs: ∀(i:Nat) (x:α),l[i]? =some x→step (i:Int)=some (match f i x with|some t=> .inr (.inr t)|none=> .inl ((i+1:Nat):Int)))
  (he:step (l.length:Int)=some (.inr (.inl ()))): ∀(r:List α) (i n:Nat),l.drop i=r→i≤l.length→r.length<n→iter step n (i:Int)=some (Vg f i r)
 |r,i,0,_,_,h=>by omega
 | [],i,n+1,hd,hi,_=>by
  have:l.length≤i:=List.drop_eq_nil_iff.1 hd;have e:i=l.length:=by omega
  rw[e,AL he]; rfl
 |x::r,i,n+1,hd,hi,hn=>by
  obtain⟨hc,hr,hlt⟩:=CH hd;have h:=hs i x hc;unfold Vg;cases hf:f i x with
  |some t=>rw[hf]at h; rw[AL h]
  |none=>
   rw[hf]at h;rw[Av h];exact iter_fnd l f hs he r (i+1) n hr hlt (by simp only[List.length_cons]at hn; omega)
theorem iter_fnd0 {α τ:Type}{step:Int→Option (Int⊕(Unit⊕τ))}(l:List α)(f:Nat→α→Option τ)(hl:l.length≤1000000)(hs: ∀(i:Nat) (x:α),l[i]? =some x→step (i:Int)=some (match f i x with|some t=> .inr (.inr t)|none=> .inl ((i+1:Nat):Int)))
  (he:step (l.length:Int)=some (.inr (.inl ()))):iter step AR 0=some (Vg f 0 l):=
 iter_fnd l f hs he l 0 AR rfl (Nat.zero_le _) (by have:=FUEL_mil; omega)
theorem fndI_all {α:Type}(p:α→Bool): ∀(l:List α) (i:Nat),Vg (fun _ x=>if p x=true then none else some false) i l=if l.all p=true then .inl ()else .inr false
 | [],i=>rfl
 |x::l,i=>by
  unfold Vg;rw[List.all_cons];cases h:p x with
  |true=>exact fndI_all p l (i+1)
  |false=>rfl
theorem gu_ttN {α:Type} [Inhabited α](o:Option α):gu (!false) o=o:=rfl
def abvB (a b:g_api_Cert):Bool:=(b.Ca&&eqS b.Subject a.Issuer)&&(Abw b.Key (JS a) a.Sig==0)
def letB (c:g_api_Cert)(l:List ByteArray)(below now:Int):Bool:=if(l.all fun n=>((c.Permit.length:Int)==0)||Q9 c n)=true then((c.Ca&&(decide (c.Depth≥below)))&&(decide (c.From≤now)))&&(decide (now<c.Until))else false
end Go.Proofs.YtbajlmaijjcbmaaGreatDoor
end
section
namespace Go.Proofs.YtbajlmaijjcbmaaGreatDoor
open Go Go.Gw Go.Ax
theorem cut_one: ∀{p q r s:List UInt8},p++46::r=q++46::s→(46:UInt8)∉p→(46:UInt8)∉q→p=q
 | [],[],_,_,_,_,_=>rfl
 | [],b::q,_,_,h,_,hq=>by cases h; exact absurd List.mem_cons_self hq
 |a::p,[],_,_,h,hp,_=>by cases h; exact absurd List.mem_cons_self hp
 |a::p,b::q,r,s,h,hp,hq=>by
  simp only[List.cons_append,List.cons.injEq]at h;rw[h.1,cut_one h.2 (fun q=>hp (List.mem_cons_of_mem _ q)) (fun w=>hq (List.mem_cons_of_mem _ w))]
theorem nameV_or (s:ByteArray):nameV s=0∨nameV s=110:=by
 rw[U3];split
 ·exact .inl rfl
 ·exact .inr rfl
theorem up_is (s:ByteArray)(h1:isB (toL s) 8 64=true):((46:UInt8)∉toL s→upV s=⟨#[]⟩)∧∀p r,toL s=p++46::r→(46:UInt8)∉p→upV s=s.extract (p.length+1) s.size:=by
 have hz:(toL s).length=s.size:=AA s;have hs:s.size≤64:=by
  unfold isB at h1;simp only[Bool.and_eq_true,decide_eq_true_eq]at h1;have:=h1.1.1; omega
 have hx:Ay s (⟨#[46]⟩:ByteArray)=some (Vb s 46):=by
  have h:=OK s (by omega);unfold Bi at h;cases q:Ay s (⟨#[46]⟩:ByteArray)with
  |none=>rw[q]at h; cases h
  |some v=>rw[q]at h; exact h
 have key:DY s=Ac (Fi s (⟨#[46]⟩:ByteArray)) fun x2=>some x2.2.1:=by
  unfold DY;rw[is_eqC,Ab,h1,if_neg (by decide)]
 unfold Fi B1 at key;rw[hx,Ab]at key;rcases Ma s.data.toList 46 with ⟨h2,h3⟩|⟨p,r,h2,h3,h4⟩
 ·rw[show Vb s 46= -1 from h2,if_neg (by decide)]at key;have e:upV s=⟨#[]⟩:=by unfold upV; rw[key]; rfl
  refine⟨fun _=>e,fun p r hp hq=>absurd ?_ h3⟩;rw[show s.data.toList=p++46::r from hp]; simp
 ·have hl:s.size=p.length+1+r.length:=by rw[←AA,h2,List.length_append,List.length_cons]; omega
  have e1:KP s 0 (p.length:Int)=some (s.extract 0 p.length):=by
   rw[CY (by omega) (by omega) (by omega)]; rfl
  have e2:KP s (w64 ((p.length:Int)+((⟨#[46]⟩:ByteArray).size:Int))) (s.size:Int)=some (s.extract (p.length+1) s.size):=by
   have:((⟨#[46]⟩:ByteArray).size:Int)=1:=rfl;rw[this,CW (by omega) (by omega),CY (by omega) (by omega) (by omega)];rfl
  rw[show Vb s 46=(p.length:Int)from h4,if_pos (by rw[decide_eq_true_eq]; omega),e1,Ab,e2]at key;have e:upV s=s.extract (p.length+1) s.size:=by unfold upV; rw[key]; rfl
  refine⟨fun q=>absurd (show(46:UInt8)∈s.data.toList from by rw[h2]; simp) q,fun p' r' hp hq=> ?_⟩;have:p'=p:=cut_one (by rw[←h2]; exact hp.symm) hq h3;rw[this]; exact e
theorem Up11_eq {s:ByteArray}(hs:s.size≤100000):Jf s=some (upV s):=by
 unfold Jf;rw[Kx hs,Ab];cases h1:isB (toL s) 8 64 with
 |false=>
  rw[if_pos (by decide)];rcases(up_eq s).2 with h|⟨h,_⟩
  ·rw[h]
  ·rw[h1]at h; cases h
 |true=>
  rw[if_neg (by decide)];obtain⟨u1,u2⟩:=up_is s h1;have hz:=AA s;have key: ∀(r p:List UInt8) (n:Nat),toL s=p++r→(46:UInt8)∉p→r.length<n→iter (DB s) n (p.length:Int)=some (if(46:UInt8)∈r then .inr (upV s)else .inl ()):=by
   intro r;induction r with
   |nil=>
    intro p n hp hq hn;obtain⟨n,rfl⟩: ∃q,n=q+1:=⟨n-1,by omega⟩;have hl:p.length=s.size:=by rw[←hz]; show _=(toL s).length; rw[hp,List.append_nil]
    refine AL ?_;unfold DB;rw[if_neg (fun h=>by have:=of_decide_eq_true h; omega)];rfl
   |cons c r ih=>
    intro p n hp hq hn;obtain⟨n,rfl⟩: ∃q,n=q+1:=⟨n-1,by omega⟩;have hl:p.length+1+r.length=s.size:=by rw[←hz]; show _=(toL s).length; rw[hp,List.length_append,List.length_cons]; omega
    have hc:s.data.toList[p.length]? =some c:=by
     show(toL s)[p.length]? =_;rw[hp,List.getElem?_append_right (Nat.le_refl _),Nat.sub_self]; rfl
    have e46:(((c.toNat:Int)==46)=true)=(c=46):=by
     rw[beq_iff_eq,←UInt8.toNat_inj];show _=(c.toNat=46);exact propext ⟨fun h=>by omega,fun h=>by omega⟩
    have step:DB s (p.length:Int)=some (if c=46 then .inr (.inr (s.extract (p.length+1) s.size))else .inl ((p.length+1:Nat):Int)):=by
     unfold DB;rw[if_pos (decide_eq_true (show(p.length:Int)<(s.size:Int)from by omega)),AZ hc,Ab,CC (by omega)];by_cases h:c=46
     ·rw[if_pos (e46▸h),if_pos h,CY (by omega) (by omega) (by omega)];rfl
     ·rw[if_neg (e46▸h),if_neg h]
    by_cases h:c=46
    ·rw[if_pos h]at step;rw[AL step,h,if_pos List.mem_cons_self,u2 p r (by rw[hp,h]) hq]
    ·rw[if_neg h]at step;rw[Av step];have ih':=ih (p++[c]) n (by rw[hp]; simp) (by simp only[List.mem_append,List.mem_singleton]; rintro(q|q); exact hq q; exact h q.symm) (by simp only[List.length_cons]at hn; omega);rw[List.length_append]at ih';rw[show((p.length+1:Nat):Int)=((p.length+[c].length:Nat):Int)from rfl,ih'];have:(46:UInt8)∈c::r↔(46:UInt8)∈r:=by
      rw[List.mem_cons]; exact⟨fun q=>q.elim (fun e=>absurd e.symm h) id,.inr⟩
     simp only[this]
  rw[show iter (DB s) AR 0=_ from key (toL s) [] AR rfl (by simp) (by have:=BA; have:(toL s).length=s.size:=hz; omega),Ab];by_cases hm:(46:UInt8)∈toL s
  ·rw[if_pos hm]
  ·rw[if_neg hm,u1 hm]
theorem empty_iff {s:ByteArray}:eqS s ⟨#[]⟩=true↔s=⟨#[]⟩:=IV
theorem below11_loop {o:ByteArray}: ∀(n:Nat) (s:ByteArray),s.size<n→s.size≤100000→iter (Cp o) (n+1) s=some (if eqS s ⟨#[]⟩=false∧YQ n (upV s) o=true then .inr true else .inl ())
 |0,s,h,_=>by omega
 |n+1,s,h,hs=>by
  by_cases h1:eqS s ⟨#[]⟩=true
  ·rw[AL (t:= .inl ())]
   ·rw[if_neg]; rw[h1]; rintro⟨q,_⟩; cases q
   ·unfold Cp;rw[h1,if_neg (by decide)]
  ·have h1':eqS s ⟨#[]⟩=false:=by simpa using h1
   have hlt:(upV s).size<n:=by
    have:=eqS_empty s h1;rcases up_lt s with q|q
    ·rw[q]; show 0<n; omega
    ·omega
   have hb:YQ (n+1) (upV s) o=if eqS (upV s) ⟨#[]⟩=true then false else if eqS (upV s) o=true then true else YQ n (upV (upV s)) o:=rfl;have step:Cp o s=some (if(eqS (upV s) o&&(!eqS (upV s) ⟨#[]⟩))=true then .inr (.inr true)else .inl (upV s)):=by
    unfold Cp;rw[h1',if_pos (by decide),Up11_eq hs,Ab];cases (eqS (upV s) o&&(!eqS (upV s) ⟨#[]⟩))<;>rfl
   have hR: ∀X:Bool,(if eqS s ⟨#[]⟩=false∧X=true then(Sum.inr true:Unit⊕Bool)else .inl ())=if X=true then .inr true else .inl ():=by
    intro X; rw[h1']; simp
   rw[hR];cases q1:eqS (upV s) ⟨#[]⟩with
   |true=>
    rw[q1,Bool.not_true,Bool.and_false,if_neg (by decide)]at step;rw[q1,if_pos rfl]at hb;rw[hb,Av step,AL (t:= .inl ())]
    ·rfl
    ·unfold Cp;rw[q1,if_neg (by decide)]
   |false=>
    rw[q1,Bool.not_false,Bool.and_true]at step;rw[q1,if_neg (by decide)]at hb;cases q2:eqS (upV s) o with
    |true=>
     rw[q2,if_pos rfl]at step hb;rw[hb,AL step]; rfl
    |false=>
     rw[q2,if_neg (by decide)]at step hb;rw[hb,Av step,below11_loop n (upV s) hlt (by have:=up_64 s; omega),q1];simp only[true_and]
theorem bel_more {o:ByteArray}: ∀(n m:Nat) (s:ByteArray),s.size<n→s.size<m→YQ n s o=YQ m s o
 |0,_,_,h,_=>by omega
 |_,0,_,_,h=>by omega
 |n+1,m+1,s,h,h'=>by
  show(if _ then _ else _)=(if _ then _ else _);by_cases h1:eqS s ⟨#[]⟩=true
  ·rw[if_pos h1,if_pos h1]
  ·have:=eqS_empty s h1;have hu:(upV s).size<n∧(upV s).size<m:=by
    rcases up_lt s with q|q
    ·rw[q]; exact⟨by show 0<n; omega,by show 0<m; omega⟩
    ·omega
   rw[if_neg h1,if_neg h1,bel_more n m (upV s) hu.1 hu.2]
theorem below11_eq {s:ByteArray}(o:ByteArray)(hs:s.size≤100000):Gr s o=some (belV s o):=by
 unfold Gr;have h:=below11_loop (o:=o) 100001 s (by omega) hs;rw[Dg 100002 h (by decide),Ab];unfold belV;rw[bel_more 100 100001 (upV s) (by have:=up_64 s; omega) (by have:=up_64 s; omega)];by_cases h1:eqS s ⟨#[]⟩=true
 ·have e:=empty_iff.1 h1;have hu:upV s=⟨#[]⟩:=by
   rcases up_lt s with q|q
   ·exact q
   ·rw[e]at q; exact absurd q (Nat.not_lt_zero _)
  rw[hu,h1];rfl
 ·have h1':eqS s ⟨#[]⟩=false:=by simpa using h1
  rw[h1'];cases YQ 100001 (upV s) o<;>rfl
theorem star_not {l:List UInt8}(h:Mv l=true):isB l 8 64=false:=by
 match l,h with
 |a::b::r,h=>
  unfold Mv at h;simp only[Bool.and_eq_true,beq_iff_eq]at h;obtain⟨⟨rfl,rfl⟩,_⟩:=h;unfold isB Pn;have:BZ (42::46::r)=[42]::BZ r:=LL [42] r (by decide);rw[this,List.all_cons,show Ln [42]=false from by decide,Bool.false_and,Bool.and_false]
theorem Star_of {s t:ByteArray}(h:D5 s=some (t,true)):t=s.extract 2 s.size:=by
 unfold D5 at h;obtain⟨x1,_,h⟩:=Aa h;obtain⟨x2,_,h⟩:=Aa h;obtain⟨x3,_,h⟩:=Aa h;obtain⟨x4,_,h⟩:=Aa h;split at h
 ·cases h
 rename_i hc;have h3: ¬s.size<3:=fun q=>hc (by rw[decide_eq_true (show(s.size:Int)<3 from by omega)]; rfl);obtain⟨x5,_,h⟩:=Aa h;obtain⟨x6,_,h⟩:=Aa h;split at h
 ·cases h
 obtain⟨x7,e,h⟩:=Aa h;cases h;rw[CY (by omega) (by omega) (by omega)]at e;exact(Option.some.inj e).symm
theorem Match11_eq {p s:ByteArray}(hp:p.size≤100000)(hs:s.size≤100000):Gs p s=some (ZK p s):=by
 obtain⟨t,ht⟩:=YX hp;unfold Gs ZK;rw[Kx hs,Ab];cases q1:isB (toL s) 8 64 with
 |false=>rfl
 |true=>
  rw[if_neg (by decide),ht,Ab,Bool.true_and];cases q2:Mv (toL p)with
  |true=>
   rw[q2]at ht;rw[if_pos rfl,Star_of ht,below11_eq _ hs,star_not q2];rfl
  |false=>
   rw[if_neg (by simp),Bool.false_and];cases q3:isB (toL p) 8 64 with
   |true=>rfl
   |false=>
    rw[if_neg (by decide)];cases q4:eqS p s with
    |false=>rfl
    |true=>rw[IV.1 q4,q1]at q3; cases q3
theorem fndI_fst {α:Type}(f:Nat→α→Int): ∀(l:List α) (i:Nat),Vg (fun i x=>if f i x=0 then none else some (f i x)) i l=fsO (Rn f i l)
 | [],i=>rfl
 |x::l,i=>by
  unfold Vg Rn;by_cases h:f i x=0
  ·rw[if_pos h,if_pos h]; exact fndI_fst f l (i+1)
  ·rw[if_neg h,if_neg h]; unfold fsO; rw[if_neg h]
theorem iter_fst {α:Type}{step:Int→Option (Int⊕(Unit⊕Int))}(l:List α)(f:Nat→α→Int)(hl:l.length≤1000000)(hs: ∀(i:Nat) (x:α),l[i]? =some x→step (i:Int)=some (if f i x=0 then .inl ((i+1:Nat):Int)else .inr (.inr (f i x))))
  (he:step (l.length:Int)=some (.inr (.inl ()))):iter step AR 0=some (fsO (Rn f 0 l)):=by
 rw[iter_fnd0 l (fun i x=>if f i x=0 then none else some (f i x)) hl (fun i x hx=>by
  rw[hs i x hx];by_cases h:f i x=0
  ·rw[if_pos h,if_pos h]
  ·rw[if_neg h,if_neg h]) he,fndI_fst]
theorem checked_eq {l:List g_api_Cert}(hl:l.length≤1000000)(hP: ∀c∈l,FewP c):DV l=some (Nt l):=by
 unfold DV;rw[iter_fst l (fun _ c=>checkV c) hl (fun i c hc=>by
  have hi:=(List.getElem?_eq_some_iff.1 hc).1;unfold Dy;rw[if_pos (decide_eq_true (show(i:Int)<(l.length:Int)from by omega)),AZ hc,Ab,KK (hP c (List.mem_of_getElem? hc)),Ab,CC (by omega)];by_cases h:checkV c=0
  ·rw[if_neg (by simpa using h),if_pos h]
  ·rw[if_pos (by simpa using h),if_neg h]) (by
  unfold Dy;rw[if_neg (fun h=>by have:=of_decide_eq_true h; omega)]),Ab]
 exact fsO_get
theorem each_app: ∀(a b:List g_api_Cert),Nt (a++b)=if Nt a=0 then Nt b else Nt a:=by
 have key: ∀(a b:List g_api_Cert) (i j k:Nat),Rn (fun _ c=>checkV c) i (a++b)=if Rn (fun _ c=>checkV c) j a=0 then Rn (fun _ c=>checkV c) k b else Rn (fun _ c=>checkV c) j a:=by
  have idx: ∀(b:List g_api_Cert) (i k:Nat),Rn (fun _ c=>checkV c) i b=Rn (fun _ c=>checkV c) k b:=by
   intro b;induction b with
   |nil=>intros; rfl
   |cons c b ih=>intro i k; unfold Rn; rw[ih (i+1) (k+1)]
  intro a;induction a with
  |nil=>intro b i j k; exact idx b i k
  |cons c a ih=>
   intro b i j k;show(if checkV c=0 then Rn _ (i+1) (a++b)else checkV c)=if(if checkV c=0 then Rn _ (j+1) a else checkV c)=0 then _ else(if checkV c=0 then Rn _ (j+1) a else checkV c);by_cases h:checkV c=0
   ·rw[if_pos h,if_pos h]; exact ih b (i+1) (j+1) k
   ·rw[if_neg h,if_neg h,if_neg h]
 exact fun a b=>key a b 0 0 0
theorem link19_eq {a b:g_api_Cert}(ha:FewP a)(hb:FewP b):ET a b=some (JH a b):=by
 obtain⟨e,h1,h2⟩:=link_eq ha hb;rw[link_V]at h1;rw[h2,←h1]
theorem permits_eq {c:g_api_Cert}{names:List ByteArray}(hc:FewP c)(hn:names.length≤100000)(hs: ∀s∈names,s.size≤100000):ES c names=some (!(decide (0<c.Permit.length)&&names.any fun n=> !Q9 c n)):=by
 have hp:=hc.npermit;unfold ES;by_cases h0:c.Permit.length=0
 ·rw[if_pos (by rw[beq_iff_eq]; omega),decide_eq_false (by omega)]; rfl
 ·rw[if_neg (by rw[beq_iff_eq]; omega),decide_eq_true (by omega),Bool.true_and];have e:=iter_fnd0 (step:=CN c names) names (fun _ n=>if Q9 c n=true then none else some false) (by omega) (fun i n hx=>by
   have hi:=(List.getElem?_eq_some_iff.1 hx).1;have e3:iter (CM c names (i:Int)) AR (false,0)=some (Q9 c n):=by
    rw[iter_any0 c.Permit (fun p=>ZK p n) (by omega) (fun j p b hj=> ?_) (fun b=> ?_) false,Bool.false_or]
    ·rfl
    ·unfold CM;dsimp only;have hj2:=(List.getElem?_eq_some_iff.1 hj).1;rw[if_pos (decide_eq_true (show(j:Int)<(c.Permit.length:Int)from by omega)),CC (by omega),AZ hj,AZ hx];cases b with
     |true=>rfl
     |false=>rw[gu_ttN,Ab,gu_ttN,Ab,Match11_eq (hc.permit p (List.mem_of_getElem? hj)) (hs n (List.mem_of_getElem? hx)),gu_ttN,Ab]
    ·unfold CM;dsimp only;rw[if_neg (fun h=>by have:=of_decide_eq_true h; omega)]
   unfold CN;rw[if_pos (decide_eq_true (show(i:Int)<(names.length:Int)from by omega)),e3,Ab,Ab,CC (by omega)];cases Q9 c n<;>rfl) (by
   unfold CN;rw[if_neg (fun h=>by have:=of_decide_eq_true h; omega)])
  rw[e,Ab,fndI_all (Q9 c)];have:(names.all (Q9 c))= !(names.any fun n=> !Q9 c n):=by
   rw[List.not_any_eq_all_not]; simp
  rw[←this];cases names.all (Q9 c)<;>rfl
theorem tells_eq {root leaf:g_api_Cert}{more:List g_api_Cert}(now:Int)(hr:FewP root)(hF: ∀c∈leaf::more,FewP c)(hn:more.length≤100):Gl root (leaf::more) now=some (byV (leaf::more) now root):=by
 obtain⟨x,hx,hi⟩:=last_idx (l:=leaf::more) (by simp) (by simp; omega);have hxm:FewP x:=hF x (List.mem_of_getLast? hx);have hx:(leaf::more).getLast (by simp)=x:=by rw[List.getLast?_eq_some_getLast (by simp)]at hx; exact Option.some.inj hx
 unfold Gl byV;simp only[hx];rw[hi,Ab,link19_eq hxm hr,Ab];by_cases h1:JH x root=0
 ·rw[if_neg (show¬((JH x root !=0)=true)from by simpa using h1),if_neg (nn0 h1)];show Ac (some (timeB root now)) _=_;rw[Ab];cases timeB root now with
  |false=>rfl
  |true=>
   rw[if_neg (by decide),if_neg (by decide),cut_tail,Ab,Kw 168 (by simp; omega) (by simp; omega),Ab,List.nil_append,Kw 168 (by simp; omega) (by simp; omega),Ab];rw[iter_fst (step:=Dk (leaf::more) (more++[root])) (more++[root]) (Q2 leaf.Names) (by simp; omega) (fun i c hc=>by
    have hi:=(List.getElem?_eq_some_iff.1 hc).1;have hcF:FewP c:=by
     rcases List.mem_append.1 (List.mem_of_getElem? hc)with q|q
     ·exact hF c (List.mem_cons_of_mem _ q)
     ·rw[List.mem_singleton.1 q]; exact hr
    have hil:i≤1000:=by rw[List.length_append]at hi; simp at hi; omega
    have hlF:=hF leaf List.mem_cons_self;unfold Dk;rw[if_pos (decide_eq_true (show(i:Int)<((more++[root]).length:Int)from by omega)),AZ hc,Ab];by_cases h2:c.Depth<(i:Int)
    ·have ov:Q2 leaf.Names i c=191:=if_pos h2;rw[ov,if_pos (decide_eq_true h2)]; rfl
    ·rw[if_neg (fun q=>h2 (of_decide_eq_true q)),Ab];show Ac (some leaf) _=_;rw[Ab,permits_eq hcF hlF.nnames hlF.names,Ab,CC (by omega)];by_cases h3:0<c.Permit.length∧(leaf.Names.any fun n=> !Q9 c n)=true
     ·have ov:Q2 leaf.Names i c=110:=by unfold Q2; rw[if_neg h2,if_pos h3]
      rw[ov,decide_eq_true h3.1,h3.2]; rfl
     ·have ov:Q2 leaf.Names i c=0:=by unfold Q2; rw[if_neg h2,if_neg h3]
      have:(decide (0<c.Permit.length)&&leaf.Names.any fun n=> !Q9 c n)=false:=by
       rw[Bool.eq_false_iff];intro q;rw[Bool.and_eq_true,decide_eq_true_eq]at q;exact h3 q
      rw[ov,this]; rfl) (by
    unfold Dk;rw[if_neg (fun h=>by have:=of_decide_eq_true h; omega)]),Ab]
   exact fsO_get
 ·rw[if_pos (show(JH x root !=0)=true from by simpa using h1),if_pos h1]
theorem kin_loop (l:List g_api_Cert)(hl:l.length≤1000):iter (Dm l) AR 0=some (if caB 0 l=true then .inl ()else .inr 191):=by
 rw[iter_fnd0 l (fun i c=>if(c.Ca==decide (0<i))=true then none else some 191) (by omega) (fun i c hc=>by
  have hi:=(List.getElem?_eq_some_iff.1 hc).1;unfold Dm;have ed:decide ((i:Int)>0)=decide (0<i):=by rw[decide_eq_decide]; omega
  rw[if_pos (decide_eq_true (show(i:Int)<(l.length:Int)from by omega)),AZ hc,Ab,CC (by omega),ed];cases c.Ca<;>cases decide (0<i)<;>rfl) (by
  unfold Dm;rw[if_neg (fun h=>by have:=of_decide_eq_true h; omega)])]
 congr 1;have: ∀(r:List g_api_Cert) (i:Nat),Vg (fun i c=>if(c.Ca==decide (0<i))=true then none else some (191:Int)) i r=if caB i r=true then .inl ()else .inr 191:=by
  intro r;induction r with
  |nil=>intro i; rfl
  |cons c r ih=>
   intro i;unfold Vg caB;cases c.Ca==decide (0<i)with
   |true=>rw[if_pos rfl,Bool.true_and]; exact ih (i+1)
   |false=>rfl
 exact this l 0
theorem tim_loop (l:List g_api_Cert)(now:Int)(hl:l.length≤1000):iter (Dl l now) AR 0=some (if(l.any fun c=> !timeB c now)=true then .inr 190 else .inl ()):=by
 rw[iter_fnd0 l (fun _ c=>if timeB c now=true then none else some 190) (by omega) (fun i c hc=>by
  have hi:=(List.getElem?_eq_some_iff.1 hc).1;unfold Dl;rw[if_pos (decide_eq_true (show(i:Int)<(l.length:Int)from by omega)),AZ hc,Ab,CC (by omega)];show Ac (some (timeB c now)) _=_;rw[Ab];cases timeB c now<;>rfl) (by
  unfold Dl;rw[if_neg (fun h=>by have:=of_decide_eq_true h; omega)])]
 congr 1;have: ∀(r:List g_api_Cert) (i:Nat),Vg (fun _ c=>if timeB c now=true then none else some (190:Int)) i r=if(r.any fun c=> !timeB c now)=true then .inr 190 else .inl ():=by
  intro r;induction r with
  |nil=>intro i; rfl
  |cons c r ih=>
   intro i;unfold Vg;rw[List.any_cons];cases timeB c now with
   |true=>exact ih (i+1)
   |false=>rfl
 exact this l 0
theorem lnk_loop {l:List g_api_Cert}(hl:l.length≤1000)(hF: ∀c∈l,FewP c): ∀(r:List g_api_Cert) (a:g_api_Cert) (i n:Nat),l.drop i=a::r→r.length<n→iter (Co l) n (i:Int)=some (fsO (linksV (a::r)))
 |r,a,i,0,_,h=>by omega
 | [],a,i,n+1,hd,_=>by
  obtain⟨ha,hr,hlt⟩:=CH hd;have:=List.drop_eq_nil_iff.1 hr;refine AL ?_;unfold Co;rw[CC (by omega),if_neg (fun h=>by have:=of_decide_eq_true h; omega)];rfl
 |b::r,a,i,n+1,hd,hn=>by
  obtain⟨ha,hr,hlt⟩:=CH hd;obtain⟨hb,hr2,hlt2⟩:=CH hr;have ih:=lnk_loop hl hF r b (i+1) n hr (by simp only[List.length_cons]at hn; omega);have e:Co l (i:Int)=some (if JH a b=0 then .inl ((i+1:Nat):Int)else .inr (.inr (JH a b))):=by
   unfold Co;rw[CC (by omega),if_pos (decide_eq_true (show((i+1:Nat):Int)<(l.length:Int)from by omega)),AZ ha,Ab,AZ hb,Ab,link19_eq (hF a (List.mem_of_getElem? ha)) (hF b (List.mem_of_getElem? hb)),Ab];by_cases h:JH a b=0
   ·rw[if_neg (by simpa using h),if_pos h]
   ·rw[if_pos (by simpa using h),if_neg h]
  unfold linksV;by_cases h:JH a b=0
  ·rw[if_pos h]at e;rw[Av e,if_neg (nn0 h)]; exact ih
  ·rw[if_neg h]at e;rw[AL e,if_pos h];unfold fsO;rw[if_neg h]
theorem root_loop {roots:List g_api_Cert}{leaf:g_api_Cert}{more:List g_api_Cert}(now:Int)(hR: ∀c∈roots,FewP c)(hF: ∀c∈leaf::more,FewP c)(hm:more.length≤100)(hl:roots.length≤1000):
  ∀(r:List g_api_Cert) (i n:Nat) (e:Int),roots.drop i=r→i≤roots.length→r.length<n→iter (B9 roots (leaf::more) now) n (e,(i:Int))=some (if(r.any fun c=>byV (leaf::more) now c==0)=true then .inr 0 else .inl (match r with| []=>e|c::_=>if i=0 then byV (leaf::more) now c else e))
 |r,i,0,e,_,_,h=>by omega
 | [],i,n+1,e,hd,hi,_=>by
  have:roots.length≤i:=List.drop_eq_nil_iff.1 hd;refine AL ?_;unfold B9;dsimp only;rw[if_neg (fun h=>by have:=of_decide_eq_true h; omega)];rfl
 |c::r,i,n+1,e,hd,hi,hn=>by
  obtain⟨hc,hr,hlt⟩:=CH hd;have st:B9 roots (leaf::more) now (e,(i:Int))=some (if(byV (leaf::more) now c==0)=true then .inr (.inr 0)else .inl (if i=0 then byV (leaf::more) now c else e,((i+1:Nat):Int))):=by
   unfold B9;dsimp only;rw[if_pos (decide_eq_true (show(i:Int)<(roots.length:Int)from by omega)),AZ hc,Ab,tells_eq now (hR c (List.mem_of_getElem? hc)) hF hm,Ab,CC (by omega)];cases hb:byV (leaf::more) now c==0 with
   |true=>rw[if_pos rfl,if_pos rfl,show byV (leaf::more) now c=0 from by simpa using hb]
   |false=>
    rw[if_neg (show¬(false=true)from by decide),if_neg (show¬(false=true)from by decide)];by_cases h0:i=0
    ·rw[if_pos (by rw[beq_iff_eq]; omega),if_pos h0]
    ·rw[if_neg (by rw[beq_iff_eq]; omega),if_neg h0]
  rw[List.any_cons];cases hb:byV (leaf::more) now c==0 with
  |true=>
   rw[hb,if_pos rfl]at st;rw[AL st]; rfl
  |false=>
   rw[hb,if_neg (by decide)]at st;rw[Av st,root_loop now hR hF hm hl r (i+1) n _ hr hlt (by simp only[List.length_cons]at hn; omega),Bool.false_or];cases r.any fun c=>byV (leaf::more) now c==0 with
   |true=>rfl
   |false=>
    cases r with
    |nil=>rfl
    |cons d r=>
     show some (Sum.inl (if i+1=0 then _ else _))=_;rw[if_neg (Nat.succ_ne_zero i)]; rfl
theorem check19_eq (roots chain:List g_api_Cert)(name:ByteArray)(now:Int)(hrl:roots.length≤5)(hR: ∀c∈roots,FewP c)(hcl:chain.length≤6)(hF: ∀c∈chain,FewP c)(hn:name.size≤200):
  Gn roots chain name now=some (Zy roots chain name now):=by
 have e0:(((((decide ((chain.length:Int)<1))||(decide ((chain.length:Int)>4)))||(decide ((roots.length:Int)>16)))||(decide (now<0)))||(decide (now>1099511627776)))=decide (chain.length=0∨4<chain.length∨16<roots.length∨now<0∨now>1099511627776):=by
  rw[←bounds_iff];have:decide ((chain.length:Int)<1)=((chain.length:Int)==0):=by rw[Bool.eq_iff_iff,decide_eq_true_eq,beq_iff_eq]; omega
  rw[this]
 unfold Gn Zy Nh;rw[e0];by_cases hb:chain.length=0∨4<chain.length∨16<roots.length∨now<0∨now>1099511627776
 ·rw[if_pos (decide_eq_true hb),if_pos hb,if_pos (by decide)]
 ·rw[if_neg (fun q=>hb (of_decide_eq_true q)),if_neg hb];have e1:Gt name=some (nameV name):=by
   unfold Gt;rw[VB (by omega),Ab];rcases nameV_or name with h|h
   ·rw[h]; rfl
   ·rw[h]; rfl
  rw[e1,Ab,checked_eq (by omega) hF,checked_eq (by omega) hR];by_cases z1:nameV name=0
  ·rw[if_neg (nn0 z1),z1,if_pos (by decide),Ab,Ab];rw[each_app];by_cases z2:Nt chain=0
   ·rw[if_pos z2,z2,if_pos (by decide),Ab,Ab];by_cases z3:Nt roots=0
    ·rw[if_neg (nn0 z3),z3,if_neg (by decide),kin_loop chain (by omega),Ab];unfold OJ;cases hk:caB 0 chain with
     |false=>rfl
     |true=>
      rw[if_pos rfl,if_neg (show¬(true=false)from by decide)];cases chain with
      |nil=>exact absurd (.inl rfl) hb
      |cons leaf more=>
       have hlF:=hF leaf List.mem_cons_self;have hm:more.length≤100:=by simp only[List.length_cons]at hcl; omega
       have eh:Ic leaf.Names name=some (leaf.Names.any fun s=>eqS name s):=by
        unfold Ic;have hln:=hlF.nnames;rw[iter_fnd0 leaf.Names (fun _ s=>if eqS s name=true then some true else none) (by omega) (fun i s hs=>by
         have hi:=(List.getElem?_eq_some_iff.1 hs).1;unfold FB;rw[if_pos (decide_eq_true (show(i:Int)<(leaf.Names.length:Int)from by omega)),AZ hs,Ab,CC (by omega)];cases eqS s name<;>rfl) (by
         unfold FB;rw[if_neg (fun h=>by have:=of_decide_eq_true h; omega)]),Ab]
        have: ∀(r:List ByteArray) (i:Nat),Vg (fun _ s=>if eqS s name=true then some true else none) i r=if(r.any fun s=>eqS name s)=true then .inr true else .inl ():=by
         intro r;induction r with
         |nil=>intro i; rfl
         |cons s r ih=>
          intro i;unfold Vg;rw[List.any_cons,eqS_sym name s];cases eqS s name with
          |true=>rfl
          |false=>exact ih (i+1)
        rw[this];cases leaf.Names.any fun s=>eqS name s<;>rfl
       show Ac (some leaf) _=_;rw[Ab,eh,Ab];show(if(!(leaf.Names.any fun s=>eqS name s))=true then some 110 else _)=some (if(if(leaf.Names.any fun s=>eqS name s)=false then(110:Int)else if((leaf::more).any fun c=> !timeB c now)=true then 190 else 0)≠0 then(if(leaf.Names.any fun s=>eqS name s)=false then(110:Int)else if((leaf::more).any fun c=> !timeB c now)=true then 190 else 0)else _);cases leaf.Names.any fun s=>eqS name s with
       |false=>rfl
       |true=>
        rw[if_neg (by decide),if_neg (show¬(true=false)from by decide),tim_loop (leaf::more) now (by omega),Ab];cases (leaf::more).any fun c=> !timeB c now with
        |true=>rfl
        |false=>
         rw[if_neg (by decide),if_neg (show¬(false=true)from by decide),if_neg (nn0 rfl)];dsimp only;rw[show iter (Co (leaf::more)) AR 0=_ from lnk_loop (by omega) hF more leaf 0 AR rfl (by have:=FUEL_mil; omega),Ab];by_cases z4:linksV (leaf::more)=0
         ·rw[z4,if_neg (nn0 rfl)];show Ac (iter (B9 roots (leaf::more) now) AR (191,0)) _=_;rw[show iter (B9 roots (leaf::more) now) AR (191,0)=_ from root_loop now hR hF hm (by omega) roots 0 AR 191 rfl (Nat.zero_le _) (by have:=FUEL_mil; omega),Ab];unfold Py;cases roots.any fun c=>byV (leaf::more) now c==0 with
          |true=>rfl
          |false=>cases roots<;>rfl
         ·rw[if_pos z4];unfold fsO;rw[if_neg z4]
    ·rw[if_pos z3,if_pos (by simpa using z3)]
   ·rw[if_neg z2,if_pos z2,if_neg (by simpa using z2),Ab,if_pos (by simpa using z2)]
  ·rw[if_pos z1,if_neg (by simpa using z1),Ab,if_neg (by simpa using z1),Ab,if_pos (by simpa using z1)]
theorem checks_true (a0 a1:List g_api_Cert)(a2:ByteArray)(a3:Int):DG a0 a1 a2 a3=some true:=by
 unfold DG;rw[live19_true,Ab,if_neg (by decide)];obtain⟨b,hb,h⟩:=few_law a0 a1 a2;rw[hb,Ab];cases b with
 |false=>rfl
 |true=>
  obtain⟨hr,hR,hc,hF,hs⟩:=h rfl;rw[if_neg (by decide),gu_tt,gu_tt,path_eq,check19_eq a0 a1 a2 a3 hr hR hc hF hs,Ab,Ab];simp
end Go.Proofs.YtbajlmaijjcbmaaGreatDoor
end
section
namespace Go.Proofs.YtbajlmaijjcbmaaGreatDoor.lawPathChecks
open Go Go.Gw Go.ChangeShapes Go.WideShapes Go.ChangeAt Go.RowKit
theorem own:ownKnob Tryz.prog.godebug=none:=by kernel_rfl
theorem tab_ir:Ir Tryz.prog 180 (.agg [.agg [.lit (.int .i64 1),.held [103,114,101,97,116,115,101,97,108,47,100,101,114,46,107,105,110,100,115,36,49]],.agg [.lit (.int .i64 2),.held [103,114,101,97,116,115,101,97,108,47,100,101,114,46,108,101,97,115,116]],.agg [.lit (.int .i64 4),.held [103,114,101,97,116,115,101,97,108,47,100,101,114,46,107,105,110,100,115,36,50]],.agg [.lit (.int .i64 12),.held [103,114,101,97,116,115,101,97,108,47,100,101,114,46,107,105,110,100,115,36,51]],.agg [.lit (.int .i64 48),.held [103,114,101,97,116,115,101,97,108,47,100,101,114,46,107,105,110,100,115,36,52]]]) [[.int .i64 1,.func (.func 252) #[] #[]],[.int .i64 2,.func (.func 157) #[] #[]],[.int .i64 4,.func (.func 253) #[] #[]],[.int .i64 12,.func (.func 254) #[] #[]],[.int .i64 48,.func (.func 257) #[] #[]]].flatten:=
 Ir.arr (n:=5) (k:=2) Tryz.underlying180 (by kernel_rfl) (by kernel_rfl) rfl rfl fun i d c h1 h2=>by
  match i,h1,h2 with
  |0,h1,h2=>cases h1; cases h2; exact Ir.pair Tryz.underlying146 rfl rfl rfl (by kernel_rfl) rfl rfl (by kernel_rfl) (by kernel_rfl) (Ir.int Tryz.underlying3) (Ir.fn Tryz.underlying144 Tryz.func252 (by kernel_rfl) (by kernel_rfl))
  |1,h1,h2=>cases h1; cases h2; exact Ir.pair Tryz.underlying146 rfl rfl rfl (by kernel_rfl) rfl rfl (by kernel_rfl) (by kernel_rfl) (Ir.int Tryz.underlying3) (Ir.fn Tryz.underlying144 Tryz.func157 (by kernel_rfl) (by kernel_rfl))
  |2,h1,h2=>cases h1; cases h2; exact Ir.pair Tryz.underlying146 rfl rfl rfl (by kernel_rfl) rfl rfl (by kernel_rfl) (by kernel_rfl) (Ir.int Tryz.underlying3) (Ir.fn Tryz.underlying144 Tryz.func253 (by kernel_rfl) (by kernel_rfl))
  |3,h1,h2=>cases h1; cases h2; exact Ir.pair Tryz.underlying146 rfl rfl rfl (by kernel_rfl) rfl rfl (by kernel_rfl) (by kernel_rfl) (Ir.int Tryz.underlying3) (Ir.fn Tryz.underlying144 Tryz.func254 (by kernel_rfl) (by kernel_rfl))
  |4,h1,h2=>cases h1; cases h2; exact Ir.pair Tryz.underlying146 rfl rfl rfl (by kernel_rfl) rfl rfl (by kernel_rfl) (by kernel_rfl) (Ir.int Tryz.underlying3) (Ir.fn Tryz.underlying144 Tryz.func257 (by kernel_rfl) (by kernel_rfl))
  |n+5,h1,h2=>cases h1
theorem gB {W:World}(h:laidMetH Tryz.prog Rows.pathChecksRow.laid W):GB (memOf W):=fun p hp=>by
 obtain rfl:=List.mem_singleton.1 hp;exact gb_of (name:= "greatseal/der.kinds") (by kernel_rfl) (by kernel_rfl) (laidMetH.funcs h (d:= .agg [.agg [.lit (.int .i64 1),.iface "func" (.lit (.string [103,114,101,97,116,115,101,97,108,47,100,101,114,46,107,105,110,100,115,36,49]))],.agg [.lit (.int .i64 2),.iface "func" (.lit (.string [103,114,101,97,116,115,101,97,108,47,100,101,114,46,108,101,97,115,116]))],.agg [.lit (.int .i64 4),.iface "func" (.lit (.string [103,114,101,97,116,115,101,97,108,47,100,101,114,46,107,105,110,100,115,36,50]))],.agg [.lit (.int .i64 12),.iface "func" (.lit (.string [103,114,101,97,116,115,101,97,108,47,100,101,114,46,107,105,110,100,115,36,51]))],.agg [.lit (.int .i64 48),.iface "func" (.lit (.string [103,114,101,97,116,115,101,97,108,47,100,101,114,46,107,105,110,100,115,36,52]))]]) (List.Mem.tail _ (List.Mem.head _))) tab_ir
theorem rd3:Rd Tryz.prog 3 (Int):=Rd.int Tryz.underlying3
theorem rd9:Rd Tryz.prog 9 (ByteArray):=Rd.str Tryz.underlying9
theorem rd22:Rd Tryz.prog 22 (UInt64):=Rd.u64 Tryz.underlying22
theorem rd23:Rd Tryz.prog 23 (List ByteArray):=Rd.slice Tryz.underlying23 rd9 (by kernel_rfl) (by decide)
theorem rd4:Rd Tryz.prog 4 (Bool):=Rd.bool Tryz.underlying4
theorem rd84:Rd Tryz.prog 84 (UInt64×UInt64):=Rd.arr2 Tryz.underlying84 rd22 (by kernel_rfl) (by kernel_rfl)
theorem rd26:Rd Tryz.prog 26 (g_api_Sig):=Rd.struct Tryz.underlying26 (NJ.more rfl rd22 (by kernel_rfl) (NJ.last rfl rd22 (by kernel_rfl))) (by kernel_rfl) (fun b=>⟨b.1,b.2⟩) (fun h=>h)
theorem rd86:Rd Tryz.prog 86 (g_api_Promise):=Rd.struct Tryz.underlying86 (NJ.more rfl rd3 (by kernel_rfl) (NJ.more rfl rd3 (by kernel_rfl) (NJ.more rfl rd84 (by kernel_rfl) (NJ.last rfl rd26 (by kernel_rfl))))) (by kernel_rfl) (fun b=>⟨b.1,b.2.1,b.2.2.1,b.2.2.2⟩) (fun h=>h)
theorem rd24:Rd Tryz.prog 24 (List g_api_Promise):=Rd.slice Tryz.underlying24 rd86 (by kernel_rfl) (by decide)
theorem rd28:Rd Tryz.prog 28 (g_api_Cert):=Rd.struct Tryz.underlying28 (NJ.more rfl rd3 (by kernel_rfl) (NJ.more rfl rd9 (by kernel_rfl) (NJ.more rfl rd9 (by kernel_rfl) (NJ.more rfl rd22 (by kernel_rfl) (NJ.more rfl rd23 (by kernel_rfl) (NJ.more rfl rd3 (by kernel_rfl) (NJ.more rfl rd3 (by kernel_rfl) (NJ.more rfl rd4 (by kernel_rfl) (NJ.more rfl rd3 (by kernel_rfl) (NJ.more rfl rd23 (by kernel_rfl) (NJ.more rfl rd24 (by kernel_rfl) (NJ.last rfl rd26 (by kernel_rfl))))))))))))) (by kernel_rfl) (fun b=>⟨b.1,b.2.1,b.2.2.1,b.2.2.2.1,b.2.2.2.2.1,b.2.2.2.2.2.1,b.2.2.2.2.2.2.1,b.2.2.2.2.2.2.2.1,b.2.2.2.2.2.2.2.2.1,b.2.2.2.2.2.2.2.2.2.1,b.2.2.2.2.2.2.2.2.2.2.1,b.2.2.2.2.2.2.2.2.2.2.2⟩) (fun h=>h)
theorem rd31:Rd Tryz.prog 31 (List g_api_Cert):=Rd.slice Tryz.underlying31 rd28 (by kernel_rfl) (by decide)
theorem contract (H:Type)(enc:TypeId×Value→H)(W:World)(base:Nat)(args:Array Value)(ds gs:List (DataW H))(before:List MemPlace)
  (hval: ∀(j:Nat) t v,Tryz.f4.params[j]? =some t→args[j]? =some v→Value.okWide Tryz.prog W .any base t v)
  (hW:DataW.Whole enc Tryz.prog Tryz.f4.params.toList Rows.pathChecksSpec.vars false W args.toList ds gs before) (hL:laidMetH Tryz.prog Rows.pathChecksRow.laid W):
  Calls Tryz.prog 4 args W fun e W'=> ∃v,e= .returned v∧Rows.pathChecksSpec.post enc Tryz.prog Tryz.f4 false true false false W args v W':=by
 have hW':=hW;obtain⟨p,q,hA0,hV,rfl,hfz,hnd⟩:=hW;obtain⟨rfl,rfl⟩:=trodVars_none hV;rw[List.append_nil]at hW';have hA:DataW.TrodAll enc Tryz.prog W 0 (fun _=>true) true Tryz.f4.params.toList args.toList ds p:=hA0;have hA1:=hA;have hpl:Tryz.f4.params.toList=[31,31,9,3]:=by rw[Tryz.params4]
 rw[hpl]at hA1;obtain⟨v0,w0,d0,e0,p0,q0,ha0,he0,hp0,h0,r0⟩:=trodAll_cons hA1;obtain⟨v1,w1,d1,e1,p1,q1,ha1,he1,hp1,h1,r1⟩:=trodAll_cons r0;obtain⟨v2,w2,d2,e2,p2,q2,ha2,he2,hp2,h2,r2⟩:=trodAll_cons r1;obtain⟨v3,w3,d3,e3,p3,q3,ha3,he3,hp3,h3,r3⟩:=trodAll_cons r2;obtain⟨z1,z2,z3⟩:=trodAll_nil r3;obtain rfl:args= #[v0,v1,v2,v3]:=by
  apply Array.ext'; rw[ha0,ha1,ha2,ha3,z1]
 obtain rfl:ds=[d0,d1,d2,d3]:=by rw[he0,he1,he2,he3,z2]
 rw[Tryz.params4]at hval;obtain⟨x0,l0,c0,rfl⟩:=okWide_slice Tryz.underlying31 (hval 0 31 v0 rfl rfl);obtain⟨a0,s0⟩:=rd31.openS h0;obtain⟨x1,l1,c1,rfl⟩:=okWide_slice Tryz.underlying31 (hval 1 31 v1 rfl rfl);obtain⟨a1,s1⟩:=rd31.openS h1;obtain⟨a2,rfl⟩:=okWide_string Tryz.underlying9 (hval 2 9 v2 rfl rfl);obtain⟨a3,rfl,_,_,_⟩:=open_int Tryz.underlying3 (hval 3 3 v3 rfl rfl) h3;have hc:=LG (St.of W (gB hL)) s0 s1 (checks_true a0 a1 a2 a3);refine Calls.mono hc ?_;rintro e W' ⟨v,rfl,hk,M,hle,S,rfl⟩;refine⟨.bool true,rfl,Xz (tb:=4) (by kernel_rfl) (by kernel_rfl) rfl (by kernel_rfl) Tryz.underlying4 hW' hA rfl rfl rfl hle S hk⟩
noncomputable def OH (os:Os):World:=
 {World.holding Tryz.prog os ⟨#[], #[],[]⟩with heap:=((((World.holding Tryz.prog os ⟨#[], #[],[]⟩).heap.modify 5 fun| .cells _ t fr=> .cells #[.int .u8 128,.int .u8 191,.int .u8 160,.int .u8 191,.int .u8 128,.int .u8 159,.int .u8 144,.int .u8 191,.int .u8 128,.int .u8 143,.int .u8 0,.int .u8 0,.int .u8 0,.int .u8 0,.int .u8 0,.int .u8 0,.int .u8 0,.int .u8 0,.int .u8 0,.int .u8 0,.int .u8 0,.int .u8 0,.int .u8 0,.int .u8 0,.int .u8 0,.int .u8 0,.int .u8 0,.int .u8 0,.int .u8 0,.int .u8 0,.int .u8 0,.int .u8 0] t fr|o=>o).modify 0 fun| .cells _ t fr=> .cells [[.int .i64 1,.func (.func 252) #[] #[]],[.int .i64 2,.func (.func 157) #[] #[]],[.int .i64 4,.func (.func 253) #[] #[]],[.int .i64 12,.func (.func 254) #[] #[]],[.int .i64 48,.func (.func 257) #[] #[]]].flatten.toArray t fr|o=>o).modify 4 fun| .cells _ t fr=> .cells ((List.replicate 128 240++List.replicate 66 241++List.replicate 30 2++[19]++List.replicate 12 3++[35,3,3,52,4,4,4,68]++List.replicate 11 241:List Int).map fun n=>Value.int .u8 n).toArray t fr|o=>o)}
theorem laid_met (os:Os):laidMetH Tryz.prog Rows.pathChecksRow.laid ((OH os).forCall (fun _ _=>0) ⟨#[], #[(.slice none 0 0:Value),(.slice none 0 0:Value),(.string ⟨#[]⟩:Value),(.int .i64 0:Value)],[]⟩).memory:=
 laidMetH_of_parts3 (fuel:=8) (laidMet_of_run' 8 (by kernel_rfl) (by kernel_rfl)) (by kernel_rfl) (by kernel_rfl)
theorem reads (os:Os){H:Type}(enc:TypeId×Value→H): ∃places,DataW.whole enc Tryz.prog ((OH os).forCall (fun _ _=>0) ⟨#[], #[(.slice none 0 0:Value),(.slice none 0 0:Value),(.string ⟨#[]⟩:Value),(.int .i64 0:Value)],[]⟩).memory Tryz.f4.params.toList Rows.pathChecksSpec.vars false #[(.slice none 0 0:Value),(.slice none 0 0:Value),(.string ⟨#[]⟩:Value),(.int .i64 0:Value)].toList 8=some ([.nil,.nil,.lit (.string []),.lit (.int .i64 0)],[],places):=
 ⟨[],by kernel_rfl⟩
theorem lifted (os:Os)(started:os.Started)(H:Type)(enc:TypeId×Value→H)(F:Stop.Interp):
  ReturnsInHanded {} Tryz.checked os 4 .any ((OpenSpec.ofChange Rows.pathChecksSpec).preRow enc Tryz.prog Tryz.f4 Rows.pathChecksRow.domain false Rows.pathChecksRow.laid) (((OpenSpec.ofChange Rows.pathChecksSpec).at F).post enc Tryz.prog Tryz.f4 false true false false):=by
 obtain⟨places,hx⟩:=reads os enc;refine returnsInHanded_of_row (C:=Tryz.checked) (s:=OpenSpec.ofChange Rows.pathChecksSpec) own started (by kernel_rfl) Tryz.func4
  (witness_row_at (enc:=enc) (C:=Tryz.checked) false (OH os) #[(.slice none 0 0:Value),(.slice none 0 0:Value),(.string ⟨#[]⟩:Value),(.int .i64 0:Value)] rfl (by kernel_rfl) (by kernel_rfl) (by kernel_rfl)
   (OpenSpec.preRow_of_cond 8 hx (by kernel_rfl) (fun k hk=>by cases hk) (by kernel_rfl) (laid_met os))) ?_
 intro W base args ds gs before hval hW _ _ _ hL _ _;exact contract H enc W base args ds gs before hval hW hL
theorem j0:laidOutB Tryz.prog=true:=by kernel_rfl
theorem j1:mapsRowed Tryz.prog=true:=by kernel_rfl
theorem j2:(Rows.pathChecksRow.inPlace==Tryz.prog.inPlace 4)=true:=by kernel_rfl
theorem j3:(Rows.pathChecksRow.unfollowed==Tryz.prog.unfollowed 4)=true:=by kernel_rfl
theorem j4:(Rows.pathChecksRow.recurses==Tryz.prog.recurses 4)=true:=by kernel_rfl
theorem j5:(Rows.pathChecksRow.named==Tryz.prog.varsNamed 4)=true:=by kernel_rfl
theorem joined:joinedFacts Tryz.prog 4 Tryz.f4 (OpenSpec.ofChange Rows.pathChecksSpec).bare Rows.pathChecksRow=true:=by
 unfold joinedFacts;rw[j0,j1,j2,j3,j4,j5];kernel_rfl
theorem s1:Tryz.pinned.checked.prog.funcNamed Rows.pathChecksRow.func=some 4:=by kernel_rfl
theorem s2:Tryz.f4.isInstance Tryz.pinned.checked.prog Rows.pathChecksRow.origin Rows.pathChecksRow.targs:=of_decide_eq_true (by kernel_rfl)
theorem s3:Tryz.f4.isWrapper Tryz.pinned.checked.prog Rows.pathChecksRow.wrapper Rows.pathChecksRow.mainSum:=by unfold Func.isWrapper; first|(rw[if_pos (by decide+kernel)]; kernel_rfl)|(rw[if_neg (by decide+kernel)]; exact⟨rfl,rfl⟩)
theorem s4:joinedFacts Tryz.pinned.checked.prog 4 Tryz.f4 (OpenSpec.ofChange Rows.pathChecksSpec).bare Rows.pathChecksRow=true:=joined
theorem s5 (os:Os)(started:os.Started)(H:Type)(enc:TypeId×Value→H)(F:Stop.Interp):ReturnsInHanded Rows.pathChecksRow.assume Tryz.pinned.checked os 4 .any (Rows.pathChecksRow.pre enc Tryz.pinned.checked.prog Tryz.f4 (OpenSpec.ofChange Rows.pathChecksSpec)) (((OpenSpec.ofChange Rows.pathChecksSpec).at F).post enc Tryz.pinned.checked.prog Tryz.f4 Rows.pathChecksRow.apart Rows.pathChecksRow.fresh Rows.pathChecksRow.handsOn Rows.pathChecksRow.again):=by rw[OpenClaim.pre_eq_preRow]; exact lifted os started H enc F
theorem said:Rows.PathChecksSaid:=
 OpenClaim.holds_of_cond 4 Tryz.f4 rfl rfl rfl rfl rfl rfl rfl ⟨rfl,rfl,rfl,rfl,rfl⟩ rfl rfl rfl rfl rfl s1 Tryz.func4 s4 s2 s3 (fun os started H enc _ F=>s5 os started H enc F)
theorem plain (f:FuncId)(fn:Func)(hf:Tryz.pinned.checked.prog.funcNamed "greatseal/greatseallaw19.PathChecks" =some f)(hfn:Tryz.pinned.checked.prog.funcs[f]? =some fn):
  false=Tryz.pinned.checked.prog.looks []∧∀(j:Nat) t,fn.params[j]? =some t→Tryz.pinned.checked.prog.wantsStandIn t=false:=by
 obtain rfl:f=4:=Option.some.inj ((show Tryz.prog.funcNamed "greatseal/greatseallaw19.PathChecks" =some 4 by kernel_rfl).symm.trans hf)|>.symm;obtain rfl:fn=Tryz.f4:=(Option.some.inj (Tryz.func4.symm.trans hfn)).symm;refine⟨by kernel_rfl,fun j t ht=> ?_⟩;rw[Tryz.params4]at ht;have hm:t∈[31,31,9,3]:=by simpa using Array.mem_of_getElem? ht
 have hall:([31,31,9,3].all fun u=> !Tryz.prog.wantsStandIn u)=true:=by kernel_rfl
 exact(show Tryz.prog.wantsStandIn t=false by simpa using List.all_eq_true.1 hall t hm)
theorem card:Rows.PathChecksCardSaid:=
 Claim7.holds_tied_plain_at .later [] _ _ _ _ said (fun _ h=>by cases h) (by kernel_rfl) (fun _ h=>by cases h) pathChecks_row_tie rfl ⟨rfl,rfl⟩ (by kernel_rfl) rfl plain (by kernel_rfl)
end Go.Proofs.YtbajlmaijjcbmaaGreatDoor.lawPathChecks
end
