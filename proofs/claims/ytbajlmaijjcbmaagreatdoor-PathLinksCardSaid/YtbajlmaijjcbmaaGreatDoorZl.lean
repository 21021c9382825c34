/- Several texts, one behind the other. Conditions: none. -/
import Derived.Test.YtbajlmaijjcbmaaGreatDoorZk
import Derived.KernelRfl
import Derived.Test.YtbajlmaijjcbmaaGreatDoorZg
import Derived.Test.YtbajlmaijjcbmaaGreatDoorZh
import Derived.Test.YtbajlmaijjcbmaaGreatDoorZi
import Derived.Test.YtbajlmaijjcbmaaGreatDoorZb
import Derived.Test.YtbajlmaijjcbmaaGreatDoorZj
import Derived.Test.YtbajlmaijjcbmaaGreatDoorCards
import Derived.Test.YtbajlmaijjcbmaaGreatDoorTie
import Derived.WalkKit
import Derived.ProofKit
import Derived.OpenShut
import Derived.Deep.DeepHandedRow
import Derived.Lib.LaidTab
import Derived.SevenTiedAt
import Derived.Stop.LaidErr
set_option linter.unusedSimpArgs false
set_option linter.unusedVariables false
set_option maxHeartbeats 20000000
set_option maxRecDepth 100000
section
namespace Go.Proofs.YtbajlmaijjcbmaaGreatDoor
open Go Go.Gw Go.Ax
abbrev FP:Nat:=2305843009213693951
theorem litP:(2305843009213693951:UInt64).toNat=FP:=rfl
theorem and_P (n:Nat):n&&&2305843009213693951=n%2305843009213693952:=Nat.and_two_pow_sub_one_eq_mod n 61
theorem toU_toNat {n:Nat}(h:n<18446744073709551616):(toU (n:Int)).toNat=n:=by
 unfold toU;rw[UInt64.toNat_ofNat'];omega
theorem shlU3 {h:UInt64}(hh:h.toNat<288230376151711744):(Gb h 3).toNat=8*h.toNat:=by
 unfold Gb;rw[show(h.toNat:Int)*2^ (min 3 64)=((8*h.toNat:Nat):Int)from by
  rw[show min 3 64=3 from rfl]; omega]
 exact toU_toNat (by omega)
theorem shrU_toNat (x:UInt64)(k:Nat)(hk:k≤64):(CZ x k).toNat=x.toNat/2^k:=by
 unfold CZ;rw[UInt64.toNat_ofNat',Nat.min_eq_left hk];exact Nat.mod_eq_of_lt (Nat.lt_of_le_of_lt (Nat.div_le_self _ _) x.toNat_lt)
theorem or_add {a b:Nat}(h:b<8):8*a|||b=8*a+b:=(Nat.two_pow_add_eq_or_of_lt (i:=3) h a).symm
theorem pfold_nat {h l:UInt64}(hh:h.toNat<288230376151711744):(Vi h l).toNat=(h.toNat*18446744073709551616+l.toNat)%FP:=by
 have hl:=l.toNat_lt;have e1:(l&&&2305843009213693951).toNat=l.toNat%2305843009213693952:=by rw[UInt64.toNat_and,litP]; exact and_P _
 have e2:(CZ l 61).toNat=l.toNat/2305843009213693952:=shrU_toNat l 61 (by omega);have e3:((Gb h 3)|||(CZ l 61)).toNat=8*h.toNat+l.toNat/2305843009213693952:=by
  rw[UInt64.toNat_or,shlU3 hh,e2]; exact or_add (by omega)
 have e4:((l&&&2305843009213693951)+((Gb h 3)|||(CZ l 61))).toNat=l.toNat%2305843009213693952+(8*h.toNat+l.toNat/2305843009213693952):=by
  rw[UInt64.toNat_add,e1,e3]; omega
 unfold Vi;generalize hn:(l&&&2305843009213693951)+((Gb h 3)|||(CZ l 61))=n at*;have e5:(n&&&2305843009213693951).toNat=n.toNat%2305843009213693952:=by rw[UInt64.toNat_and,litP]; exact and_P _
 have e6:(CZ n 61).toNat=n.toNat/2305843009213693952:=shrU_toNat n 61 (by omega);have e7:((n&&&2305843009213693951)+CZ n 61).toNat=n.toNat%2305843009213693952+n.toNat/2305843009213693952:=by rw[UInt64.toNat_add,e5,e6]; omega
 dsimp only;generalize (n&&&2305843009213693951)+CZ n 61=k at*;split
 ·rename_i hk;rw[UInt64.toNat_sub_of_le _ _ (by rw[UInt64.le_iff_toNat_le]; exact hk),litP];simp only[FP]at*;omega
 ·simp only[FP]at*;omega
theorem pone_nat (a:UInt64):(Om a).toNat=a.toNat%FP:=by
 unfold Om;rw[pfold_nat (by decide)];simp
theorem padd_nat (a b:UInt64):(Cw a b).toNat=(a.toNat%FP+b.toNat%FP)%FP:=by
 unfold Cw;rw[pone_nat,UInt64.toNat_add,pone_nat,pone_nat];simp only[FP];omega
theorem mul_high {p q r s:Nat}(hp:p<4294967296)(hq:q<4294967296)(hr:r<4294967296)(hs:s<4294967296):
  (p*r+((p*s+q*s/4294967296)/4294967296)+(((p*s+q*s/4294967296)%4294967296+q*r)/4294967296))=((p*4294967296+q)*(r*4294967296+s))/18446744073709551616:=by
 have h1:(p*4294967296+q)*(r*4294967296+s)=(p*r)*18446744073709551616+(p*s+q*r)*4294967296+q*s:=by
  rw[Nat.add_mul,Nat.mul_add,Nat.mul_add,Nat.add_mul];have a1:p*4294967296*(r*4294967296)=p*r*18446744073709551616:=by rw[Nat.mul_assoc,Nat.mul_left_comm 4294967296,←Nat.mul_assoc p]
  have a2:p*4294967296*s=p*s*4294967296:=Nat.mul_right_comm _ _ _;have a3:q*(r*4294967296)=q*r*4294967296:=(Nat.mul_assoc _ _ _).symm;rw[a1,a2,a3]; omega
 rw[h1];generalize p*r=A;generalize p*s=B;generalize q*r=C;generalize q*s=D;omega
theorem phi_nat (a b:UInt64):(phi a b).toNat=(a.toNat*b.toNat)/18446744073709551616:=by
 have ha:=a.toNat_lt;have hb:=b.toNat_lt;have m32: ∀x:UInt64,(x&&&4294967295).toNat=x.toNat%4294967296:=fun x=>by
  rw[UInt64.toNat_and]; exact Nat.and_two_pow_sub_one_eq_mod _ 32
 have s32: ∀x:UInt64,(CZ x 32).toNat=x.toNat/4294967296:=fun x=>shrU_toNat x 32 (by omega);have hp:a.toNat/4294967296<4294967296:=by omega
 have hq:a.toNat%4294967296<4294967296:=by omega
 have hr:b.toNat/4294967296<4294967296:=by omega
 have hs:b.toNat%4294967296<4294967296:=by omega
 have ea:a.toNat/4294967296*4294967296+a.toNat%4294967296=a.toNat:=Nat.div_add_mod' _ _;have eb:b.toNat/4294967296*4294967296+b.toNat%4294967296=b.toNat:=Nat.div_add_mod' _ _;have key:=mul_high hp hq hr hs;rw[ea,eb]at key;have bd: ∀x y:Nat,x<4294967296→y<4294967296→x*y≤18446744065119617025:=fun x y hx hy=>Nat.mul_le_mul (show x≤4294967295 by omega) (show y≤4294967295 by omega);have b1:=bd _ _ hp hr;have b2:=bd _ _ hp hs;have b3:=bd _ _ hq hr;have b4:=bd _ _ hq hs;have ab:a.toNat*b.toNat/18446744073709551616<18446744073709551616:=by
  rw[Nat.div_lt_iff_lt_mul (by omega)];exact Nat.lt_of_le_of_lt (Nat.mul_le_mul (show a.toNat≤18446744073709551615 by omega) (show b.toNat≤18446744073709551615 by omega)) (by omega)
 unfold phi;dsimp only;rw[←key]at ab⊢;simp only[UInt64.toNat_add,UInt64.toNat_mul,s32,m32];generalize a.toNat/4294967296*(b.toNat/4294967296)=A at*;generalize a.toNat/4294967296*(b.toNat%4294967296)=B at*;generalize a.toNat%4294967296*(b.toNat/4294967296)=C at*;generalize a.toNat%4294967296*(b.toNat%4294967296)=D at*;omega
theorem pmul_nat (a b:UInt64):(Vy a b).toNat=(a.toNat*b.toNat)%FP:=by
 have h1:(Om a).toNat<FP:=by rw[pone_nat]; exact Nat.mod_lt _ (by decide)
 have h2:(Om b).toNat<FP:=by rw[pone_nat]; exact Nat.mod_lt _ (by decide)
 simp only[FP]at h1 h2;have hm:(Om a).toNat*(Om b).toNat<5316911983139663491615228241121378304:=Nat.lt_of_le_of_lt (Nat.mul_le_mul (show(Om a).toNat≤2305843009213693950 by omega) (show(Om b).toNat≤2305843009213693950 by omega)) (by omega);unfold Vy;rw[pfold_nat (by rw[phi_nat]; omega),phi_nat,UInt64.toNat_mul];have:(Om a).toNat*(Om b).toNat/18446744073709551616*18446744073709551616+(Om a).toNat*(Om b).toNat%2^64=(Om a).toNat*(Om b).toNat:=by omega
 rw[this,pone_nat,pone_nat,←Nat.mul_mod]
theorem psev_nat (a:UInt64):(KG a).toNat=a.toNat^17%FP:=by
 unfold KG;dsimp only;simp only[pmul_nat,Nat.mul_mod_mod,Nat.mod_mul_mod];congr 1;rw[show(17:Nat)=1+16 from rfl,Nat.pow_add,Nat.pow_one];congr 1;generalize a.toNat=x;rw[show(16:Nat)=2*2*2*2 from rfl,Nat.pow_mul,Nat.pow_mul,Nat.pow_mul];simp only[Nat.pow_two]
theorem u_ext {a b:UInt64}(h:a.toNat=b.toNat):a=b:=UInt64.toNat_inj.1 h
end Go.Proofs.YtbajlmaijjcbmaaGreatDoor
end
section
namespace Go.Proofs.YtbajlmaijjcbmaaGreatDoor
open Go Go.Gw Go.Ax
section
variable {x4 x5 x7 y u:UInt64}
theorem dq_lt (hd:x7.toNat<4294967296)(hu:u.toNat<y.toNat):(u.toNat*4294967296+x7.toNat)/y.toNat<4294967296:=by
 rw[Nat.div_lt_iff_lt_mul (by omega)];have:(u.toNat+1)*4294967296≤y.toNat*4294967296:=Nat.mul_le_mul_right _ hu;omega
theorem dcond {q r:UInt64}(h1:2147483648≤x4.toNat∧x4.toNat<4294967296)(h0:x5.toNat<4294967296)(hd:x7.toNat<4294967296)(hy:y.toNat=x4.toNat*4294967296+x5.toNat)(hu:u.toNat<y.toNat)
  (hq:q.toNat*x4.toNat+r.toNat=u.toNat) (hr:r.toNat<4294967296):
  (((decide ((q.toNat:Int)≥4294967296))||(decide (((q*x5).toNat:Int)>(((4294967296*r)+x7).toNat:Int))))=true↔(u.toNat*4294967296+x7.toNat)/y.toNat<q.toNat):=by
 have hlt:=dq_lt hd hu;have e1:((4294967296*r)+x7).toNat=4294967296*r.toNat+x7.toNat:=by
  rw[UInt64.toNat_add,UInt64.toNat_mul,show(4294967296:UInt64).toNat=4294967296 from rfl]; omega
 rw[Bool.or_eq_true,decide_eq_true_eq,decide_eq_true_eq,e1];by_cases hb:4294967296≤q.toNat
 ·constructor
  ·intro _; omega
  ·intro _; left; omega
 ·have hB:q.toNat*x5.toNat≤4294967295*4294967295:=Nat.mul_le_mul (by omega) (by omega);have e2:(q*x5).toNat=q.toNat*x5.toNat:=by rw[UInt64.toNat_mul]; omega
  have e3:q.toNat*y.toNat=q.toNat*x4.toNat*4294967296+q.toNat*x5.toNat:=by rw[hy,Nat.mul_add,Nat.mul_assoc]
  rw[e2,Nat.div_lt_iff_lt_mul (by omega),e3];generalize q.toNat*x4.toNat=A at*;generalize q.toNat*x5.toNat=B at*;omega
theorem dstep {q r:UInt64}(h1:2147483648≤x4.toNat∧x4.toNat<4294967296)(h0:x5.toNat<4294967296)(hd:x7.toNat<4294967296)(hy:y.toNat=x4.toNat*4294967296+x5.toNat)(hu:u.toNat<y.toNat)
  (hq:q.toNat*x4.toNat+r.toNat=u.toNat) (hr:r.toNat<4294967296) (hq2:q.toNat≤4294967297) (hc:(u.toNat*4294967296+x7.toNat)/y.toNat<q.toNat):
  (q-1).toNat=q.toNat-1∧(r+x4).toNat=r.toNat+x4.toNat∧(q-1).toNat*x4.toNat+(r+x4).toNat=u.toNat∧(u.toNat*4294967296+x7.toNat)/y.toNat≤(q-1).toNat∧
  (4294967296≤(r+x4).toNat→(q-1).toNat=(u.toNat*4294967296+x7.toNat)/y.toNat):=by
 have q1:1≤q.toNat:=Nat.lt_of_le_of_lt (Nat.zero_le _) hc;have e1:(q-1).toNat=q.toNat-1:=by rw[UInt64.toNat_sub_of_le _ _ (by rw[UInt64.le_iff_toNat_le]; exact q1)]; rfl
 have e2:(r+x4).toNat=r.toNat+x4.toNat:=by rw[UInt64.toNat_add]; omega
 have e3:(q.toNat-1)*x4.toNat+x4.toNat=q.toNat*x4.toNat:=by
  rw[←Nat.succ_mul]; congr 1; omega
 refine⟨e1,e2,by rw[e1,e2,Nat.add_comm r.toNat,←Nat.add_assoc,e3,hq],by rw[e1]; exact Nat.le_sub_one_of_lt hc,fun hb=> ?_⟩;rw[e2]at hb;refine Nat.le_antisymm ?_ (by rw[e1]; exact Nat.le_sub_one_of_lt hc);rw[e1,Nat.le_div_iff_mul_le (Nat.lt_of_le_of_lt (Nat.zero_le _) hu)];clear hc e1 e2;have hB:(q.toNat-1)*x5.toNat≤4294967296*4294967295:=Nat.mul_le_mul (by omega) (by omega);have e4:(q.toNat-1)*y.toNat=(q.toNat-1)*x4.toNat*4294967296+(q.toNat-1)*x5.toNat:=by rw[hy,Nat.mul_add,Nat.mul_assoc]
 rw[e4];generalize (q.toNat-1)*x4.toNat=A at*;generalize (q.toNat-1)*x5.toNat=B at*;generalize q.toNat*x4.toNat=C at*;omega
theorem dloop1 (h1:2147483648≤x4.toNat∧x4.toNat<4294967296)(h0:x5.toNat<4294967296)(hd:x7.toNat<4294967296)(hy:y.toNat=x4.toNat*4294967296+x5.toNat)(hu:u.toNat<y.toNat):
  ∀(n:Nat) (q r:UInt64),q.toNat*x4.toNat+r.toNat=u.toNat→r.toNat<4294967296→q.toNat≤4294967297→(u.toNat*4294967296+x7.toNat)/y.toNat≤q.toNat→4294967296≤r.toNat+n*2147483648→
   ∃p,iter (CV x4 x5 x7) (n+1) (q,r)=some p∧p.toNat=(u.toNat*4294967296+x7.toNat)/y.toNat:=by
 intro n;induction n with
 |zero=>intro q r _ hr _ _ hn; omega
 |succ n ih=>
  intro q r hq hr hq2 hle hn;have hc:=dcond h1 h0 hd hy hu hq hr;by_cases hcc:(u.toNat*4294967296+x7.toNat)/y.toNat<q.toNat
  ·obtain⟨s1,s2,s3,s4,s5⟩:=dstep h1 h0 hd hy hu hq hr hq2 hcc;by_cases hb:4294967296≤(r+x4).toNat
   ·refine⟨q-1,A2 ?_,s5 hb⟩;unfold CV;rw[if_pos (hc.2 hcc),if_pos (by rw[decide_eq_true_eq]; dsimp only; omega)]
   ·obtain⟨p,p1,p2⟩:=ih (q-1) (r+x4) s3 (by omega) (by omega) s4 (by omega);refine⟨p,?_,p2⟩;rw[AB (s':=(q-1,r+x4)),p1];unfold CV;rw[if_pos (hc.2 hcc),if_neg (by rw[decide_eq_true_eq]; dsimp only; omega)]
  ·refine⟨q,A2 ?_,by omega⟩;unfold CV;rw[if_neg (fun h=>hcc (hc.1 h))]
theorem dloop2 (h1:2147483648≤x4.toNat∧x4.toNat<4294967296)(h0:x5.toNat<4294967296)(hd:x7.toNat<4294967296)(hy:y.toNat=x4.toNat*4294967296+x5.toNat)(hu:u.toNat<y.toNat):
  ∀(n:Nat) (q r:UInt64),q.toNat*x4.toNat+r.toNat=u.toNat→r.toNat<4294967296→q.toNat≤4294967297→(u.toNat*4294967296+x7.toNat)/y.toNat≤q.toNat→4294967296≤r.toNat+n*2147483648→
   ∃p,iter (CU x4 x5 x7) (n+1) (r,q)=some p∧p.toNat=(u.toNat*4294967296+x7.toNat)/y.toNat:=by
 intro n;induction n with
 |zero=>intro q r _ hr _ _ hn; omega
 |succ n ih=>
  intro q r hq hr hq2 hle hn;have hc:=dcond h1 h0 hd hy hu hq hr;by_cases hcc:(u.toNat*4294967296+x7.toNat)/y.toNat<q.toNat
  ·obtain⟨s1,s2,s3,s4,s5⟩:=dstep h1 h0 hd hy hu hq hr hq2 hcc;by_cases hb:4294967296≤(r+x4).toNat
   ·refine⟨q-1,A2 ?_,s5 hb⟩;unfold CU;rw[if_pos (hc.2 hcc),if_pos (by rw[decide_eq_true_eq]; dsimp only; omega)]
   ·obtain⟨p,p1,p2⟩:=ih (q-1) (r+x4) s3 (by omega) (by omega) s4 (by omega);refine⟨p,?_,p2⟩;rw[AB (s':=(r+x4,q-1)),p1];unfold CU;rw[if_pos (hc.2 hcc),if_neg (by rw[decide_eq_true_eq]; dsimp only; omega)]
  ·refine⟨q,A2 ?_,by omega⟩;unfold CU;rw[if_neg (fun h=>hcc (hc.1 h))]
theorem dstart (h1:2147483648≤x4.toNat∧x4.toNat<4294967296)(h0:x5.toNat<4294967296)(hd:x7.toNat<4294967296)(hy:y.toNat=x4.toNat*4294967296+x5.toNat)(hu:u.toNat<y.toNat):
  (u/x4).toNat*x4.toNat+(u-(u/x4)*x4).toNat=u.toNat∧(u-(u/x4)*x4).toNat<4294967296∧(u/x4).toNat≤4294967297∧(u.toNat*4294967296+x7.toNat)/y.toNat≤(u/x4).toNat:=by
 have e1:(u/x4).toNat=u.toNat/x4.toNat:=UInt64.toNat_div _ _;have hmul:u.toNat/x4.toNat*x4.toNat≤u.toNat:=Nat.div_mul_le_self _ _;have hul:=u.toNat_lt;have e2:((u/x4)*x4).toNat=u.toNat/x4.toNat*x4.toNat:=by rw[UInt64.toNat_mul,e1]; omega
 have e3:(u-(u/x4)*x4).toNat=u.toNat-u.toNat/x4.toNat*x4.toNat:=by
  rw[UInt64.toNat_sub_of_le _ _ (by rw[UInt64.le_iff_toNat_le,e2]; exact hmul),e2]
 have e4:u.toNat-u.toNat/x4.toNat*x4.toNat=u.toNat%x4.toNat:=by
  have:=Nat.div_add_mod' u.toNat x4.toNat; omega
 have e5:=Nat.mod_lt u.toNat (show 0<x4.toNat by omega);refine⟨by rw[e1,e3]; omega,by rw[e3,e4]; omega,?_,?_⟩
 ·rw[e1];have:u.toNat/x4.toNat<4294967298:=by
   rw[Nat.div_lt_iff_lt_mul (by omega)];omega
  omega
 ·rw[e1,Nat.le_div_iff_mul_le (by omega)];have h2:(u.toNat*4294967296+x7.toNat)/y.toNat*y.toNat≤u.toNat*4294967296+x7.toNat:=Nat.div_mul_le_self _ _;generalize (u.toNat*4294967296+x7.toNat)/y.toNat=Q at*;have h3:Q*y.toNat=Q*x4.toNat*4294967296+Q*x5.toNat:=by rw[hy,Nat.mul_add,Nat.mul_assoc]
  rw[h3]at h2;generalize Q*x4.toNat=A at*;generalize Q*x5.toNat=B at*;omega
theorem drest {q:UInt64}(hu:u.toNat<y.toNat)(hq:q.toNat=(u.toNat*4294967296+x7.toNat)/y.toNat):(((u*4294967296)+x7)-(q*y)).toNat=(u.toNat*4294967296+x7.toNat)%y.toNat:=by
 have hyl:=y.toNat_lt;have hm:=Nat.mod_lt (u.toNat*4294967296+x7.toNat) (show 0<y.toNat by omega);have hdm:=Nat.div_add_mod' (u.toNat*4294967296+x7.toNat) y.toNat;rw[UInt64.toNat_sub,UInt64.toNat_add,UInt64.toNat_mul,UInt64.toNat_mul,hq,show(4294967296:UInt64).toNat=4294967296 from rfl];generalize (u.toNat*4294967296+x7.toNat)/y.toNat*y.toNat=Z at*;omega
end
theorem shlU_nat {x:UInt64}{k:Nat}(hk:k≤63):(Gb x k).toNat=(x.toNat*2^k)%18446744073709551616:=by
 unfold Gb;rw[Nat.min_eq_left (by omega),show(x.toNat:Int)*2^k=((x.toNat*2^k:Nat):Int)from by simp];unfold toU;rw[UInt64.toNat_ofNat'];generalize x.toNat*2^k=z;omega
theorem or_nat {a b k:Nat}(h:b<2^k):a*2^k|||b=a*2^k+b:=by
 rw[Nat.mul_comm]; exact(Nat.two_pow_add_eq_or_of_lt h a).symm
theorem div64_eq {hi lo y0:UInt64}{s:Nat}(hs:s≤63)(hlz:Cv y0=some (s:Int))(hn1:9223372036854775808≤y0.toNat*2^s)(hn2:y0.toNat*2^s<18446744073709551616)(hh:hi.toNat<y0.toNat):
  ∃q r,Fu hi lo y0=some (q,r)∧r.toNat=(hi.toNat*18446744073709551616+lo.toNat)%y0.toNat:=by
 have hyne:y0≠0:=fun e=>by rw[e]at hh; simp at hh
 unfold Fu;rw[if_neg (by rw[beq_iff_eq]; omega),Ab,if_neg (by rw[decide_eq_true_eq]; omega),Ab];by_cases hz:hi.toNat=0
 ·rw[if_pos (by rw[beq_iff_eq]; omega),if_pos hyne,if_pos hyne];refine⟨_,_,rfl,?_⟩;rw[UInt64.toNat_mod,hz]; simp
 ·have hts:(toU (s:Int)).toNat=s:=toU_toNat (by omega);have h64:(64-toU (s:Int)).toNat=64-s:=by
   rw[UInt64.toNat_sub_of_le _ _ (by rw[UInt64.le_iff_toNat_le,hts]; show s≤64; omega),hts]; rfl
  rw[if_neg (by rw[beq_iff_eq]; omega),hlz,Ab,hts,h64];simp only[CI];have hps:0<2^s:=Nat.two_pow_pos s;have hpp:2^s*2^ (64-s)=18446744073709551616:=by rw[←Nat.pow_add,show s+(64-s)=64 from by omega]
  have hY:(Gb y0 s).toNat=y0.toNat*2^s:=by rw[shlU_nat (by omega)]; exact Nat.mod_eq_of_lt hn2
  have hlo:=lo.toNat_lt;have hlod:lo.toNat/2^ (64-s)<2^s:=by rw[Nat.div_lt_iff_lt_mul (Nat.two_pow_pos _),hpp]; omega
  have hhs:hi.toNat*2^s+2^s≤y0.toNat*2^s:=by rw[←Nat.succ_mul]; exact Nat.mul_le_mul_right _ hh
  have hU:((Gb hi s)|||(CZ lo (64-s))).toNat=hi.toNat*2^s+lo.toNat/2^ (64-s):=by
   rw[UInt64.toNat_or,shlU_nat (by omega),shrU_toNat _ _ (by omega),Nat.mod_eq_of_lt (by omega),or_nat hlod]
  have hL:(Gb lo s).toNat=(lo.toNat*2^s)%18446744073709551616:=shlU_nat (by omega);have m32: ∀x:UInt64,(x&&&4294967295).toNat=x.toNat%4294967296:=fun x=>by
   rw[UInt64.toNat_and]; exact Nat.and_two_pow_sub_one_eq_mod _ 32
  have s32: ∀x:UInt64,(CZ x 32).toNat=x.toNat/4294967296:=fun x=>shrU_toNat x 32 (by omega);have hlos:lo.toNat*2^s=lo.toNat/2^ (64-s)*18446744073709551616+(lo.toNat*2^s)%18446744073709551616:=by
   have e1:lo.toNat*2^s/18446744073709551616=lo.toNat/2^ (64-s):=by
    rw[←hpp,Nat.mul_comm,Nat.mul_div_mul_left _ _ hps]
   rw[←e1]; exact(Nat.div_add_mod' _ _).symm
  have hN:(hi.toNat*18446744073709551616+lo.toNat)*2^s=(hi.toNat*2^s+lo.toNat/2^ (64-s))*18446744073709551616+(lo.toNat*2^s)%18446744073709551616:=by
   rw[Nat.add_mul,hlos,Nat.add_mul,Nat.mul_right_comm];omega
  generalize hgy:Gb y0 s=y at*;generalize hgu:(Gb hi s)|||(CZ lo (64-s))=u at*;generalize hgl:Gb lo s=l at*;have hyl:=y.toNat_lt;have a1:2147483648≤(CZ y 32).toNat∧(CZ y 32).toNat<4294967296:=by rw[s32]; omega
  have a0:(y&&&4294967295).toNat<4294967296:=by rw[m32]; omega
  have ay:y.toNat=(CZ y 32).toNat*4294967296+(y&&&4294967295).toNat:=by rw[s32,m32]; omega
  have ad:(CZ l 32).toNat<4294967296:=by rw[s32]; have:=l.toNat_lt; omega
  have ae:(l&&&4294967295).toNat<4294967296:=by rw[m32]; omega
  have au:u.toNat<y.toNat:=by rw[hU,hY]; omega
  have hx4:CZ y 32≠0:=fun e=>by rw[e]at a1; simp at a1
  obtain⟨b1,b2,b3,b4⟩:=dstart a1 a0 ad ay au;obtain⟨q1,c1,c2⟩:=dloop1 a1 a0 ad ay au 2 _ _ b1 b2 b3 b4 (by omega);have hr1:=drest au c2;have hr1l:=Nat.mod_lt (u.toNat*4294967296+(CZ l 32).toNat) (show 0<y.toNat by omega);rw[if_pos hx4,Dg _ c1 (by omega),Ab,Ab,if_pos hx4];generalize hgv:((u*4294967296)+(CZ l 32))-(q1*y)=v at*;have av:v.toNat<y.toNat:=by omega
  obtain⟨d1,d2,d3,d4⟩:=dstart a1 a0 ae ay av;obtain⟨q0,e1,e2⟩:=dloop2 a1 a0 ae ay av 2 _ _ d1 d2 d3 d4 (by omega);have hr0:=drest av e2;rw[Dg _ e1 (by omega),Ab,Ab];refine⟨_,_,rfl,?_⟩;rw[shrU_toNat _ _ (by omega),hr0,hr1];have f1:(((u.toNat*4294967296+(CZ l 32).toNat)%y.toNat)*4294967296+(l&&&4294967295).toNat)%y.toNat=((hi.toNat*18446744073709551616+lo.toNat)*2^s)%y.toNat:=by
   rw[Nat.add_mod,Nat.mod_mul_mod,←Nat.add_mod,hN,←hU,←hL,s32,m32];have e9:(u.toNat*4294967296+l.toNat/4294967296)*4294967296+l.toNat%4294967296=u.toNat*18446744073709551616+l.toNat:=by omega
   rw[e9]
  rw[f1,hY,Nat.mul_mod_mul_right,Nat.mul_div_cancel _ hps]
end Go.Proofs.YtbajlmaijjcbmaaGreatDoor
end
section
namespace Go.Proofs.YtbajlmaijjcbmaaGreatDoor
open Go Go.Gw Go.Ax
abbrev GQ:Nat:=2305843009213691579
abbrev GR:Nat:=1152921504606845789
def Dv (y:UInt64):Prop:= ∃s:Nat,s≤63∧Cv y=some (s:Int)∧9223372036854775808≤y.toNat*2^s∧y.toNat*2^s<18446744073709551616
theorem dvQ:Dv 2305843009213691579:=⟨3,by omega,by kernel_rfl,by decide,by decide⟩
theorem dvR:Dv 1152921504606845789:=⟨4,by omega,by kernel_rfl,by decide,by decide⟩
theorem Dv.pos {y:UInt64}(h:Dv y):0<y.toNat:=by
 obtain⟨s,_,_,h1,_⟩:=h;by_cases e:y.toNat=0
 ·rw[e]at h1; simp at h1
 ·omega
theorem rem_eq {y:UInt64}(h:Dv y)(hi lo:UInt64): ∃z,Ez hi lo y=some z∧z.toNat=(hi.toNat*18446744073709551616+lo.toNat)%y.toNat:=by
 have hpos:=h.pos;obtain⟨s,h1,h2,h3,h4⟩:=h;have hyne:y≠0:=fun e=>by rw[e]at hpos; simp at hpos
 have hm:(hi%y).toNat=hi.toNat%y.toNat:=UInt64.toNat_mod _ _;obtain⟨q,r,e1,e2⟩:=div64_eq (hi:=hi%y) (lo:=lo) h1 h2 h3 h4 (by rw[hm]; exact Nat.mod_lt _ hpos);refine⟨r,?_,?_⟩
 ·unfold Ez;rw[if_pos hyne,e1,Ab]
 ·rw[e2,hm,Nat.add_mod,Nat.mod_mul_mod,←Nat.add_mod]
def ofN (n:Nat):UInt64:=UInt64.ofNat n
theorem ofN_nat {n:Nat}(h:n<18446744073709551616):(ofN n).toNat=n:=by
 unfold ofN; rw[UInt64.toNat_ofNat']; exact Nat.mod_eq_of_lt h
theorem ofN_mod (n:Nat){y:UInt64}(h:0<y.toNat):(ofN (n%y.toNat)).toNat=n%y.toNat:=ofN_nat (Nat.lt_of_lt_of_le (Nat.mod_lt _ h) (Nat.le_of_lt y.toNat_lt))
theorem of_nat {z:UInt64}{n:Nat}(h:z.toNat=n):z=ofN n:=by
 rw[←h]; exact u_ext (ofN_nat z.toNat_lt).symm
def NU (y a b:UInt64):UInt64:=ofN ((a.toNat*b.toNat)%y.toNat)
theorem mulM_nat {y:UInt64}(h:Dv y)(a b:UInt64):(NU y a b).toNat=(a.toNat*b.toNat)%y.toNat:=ofN_mod _ h.pos
theorem ringMul_eq {y:UInt64}(h:Dv y)(a b:UInt64):A8 y a b=some (NU y a b):=by
 obtain⟨z,e1,e2⟩:=rem_eq h (phi a b) (a*b);unfold A8;rw[Qq,Ab,e1,Ab];rw[phi_nat,UInt64.toNat_mul,Nat.div_add_mod']at e2;rw[of_nat e2]; rfl
def ZN (y a b:UInt64):UInt64:=ofN ((a.toNat+b.toNat)%y.toNat)
theorem carry_nat (a b:UInt64):(H3 a b).toNat*18446744073709551616+(a+b).toNat=a.toNat+b.toNat:=by
 have:=a.toNat_lt;have:=b.toNat_lt;unfold H3;rw[UInt64.toNat_ofNat',UInt64.toNat_add];omega
theorem num_aux {P d r c sm t:Nat}(hP:d*18446744073709551616+r=P)(hr:r<18446744073709551616)(hd:d<2305843009213693952)(hc:c*18446744073709551616+sm=r+t)(ht:t<18446744073709551616):
  ((d+c)%18446744073709551616)*18446744073709551616+sm=P+t:=by
 have h1:c≤1:=by omega
 rw[Nat.mod_eq_of_lt (show d+c<18446744073709551616 by omega),Nat.add_mul,←hP,Nat.add_assoc,hc,Nat.add_assoc]
def numM (s:UInt64×UInt64)(y:UInt64):UInt64:=ofN ((s.1.toNat*2305843009213693952+s.2.toNat)%y.toNat)
theorem num_eq {y:UInt64}(h:Dv y)(s:UInt64×UInt64):Ht s y=some (numM s y):=by
 have hpos:=h.pos;have hyne:y≠0:=fun e=>by rw[e]at hpos; simp at hpos
 obtain⟨t,h1,h2,h3,h4⟩:=h;have hp:(phi s.1 2305843009213693952).toNat=s.1.toNat*2305843009213693952/18446744073709551616:=phi_nat _ _;have hl:(s.1*2305843009213693952).toNat=s.1.toNat*2305843009213693952%18446744073709551616:=UInt64.toNat_mul _ _;have hs1:=s.1.toNat_lt;have hs2:=s.2.toNat_lt;have hc:=carry_nat (s.1*2305843009213693952) s.2;have AbN:(phi s.1 2305843009213693952+H3 (s.1*2305843009213693952) s.2).toNat*18446744073709551616+(s.1*2305843009213693952+s.2).toNat=s.1.toNat*2305843009213693952+s.2.toNat:=by
  rw[UInt64.toNat_add,hp];rw[hl]at hc;have hdl:s.1.toNat*2305843009213693952/18446744073709551616<2305843009213693952:=by
   rw[Nat.div_lt_iff_lt_mul (by decide),Nat.mul_comm (2305843009213693952)];exact Nat.mul_lt_mul_of_pos_right hs1 (by decide)
  exact num_aux (Nat.div_add_mod' _ _) (Nat.mod_lt _ (by decide)) hdl hc hs2
 have hm:((phi s.1 2305843009213693952+H3 (s.1*2305843009213693952) s.2)%y).toNat=(phi s.1 2305843009213693952+H3 (s.1*2305843009213693952) s.2).toNat%y.toNat:=UInt64.toNat_mod _ _;obtain⟨q,r,e1,e2⟩:=div64_eq (hi:=(phi s.1 2305843009213693952+H3 (s.1*2305843009213693952) s.2)%y) (lo:=s.1*2305843009213693952+s.2) h1 h2 h3 h4 (by rw[hm]; exact Nat.mod_lt _ hpos);unfold Ht;rw[if_neg (by rw[beq_iff_eq]; omega),Qq,Ab,if_pos hyne];dsimp only;rw[e1,Ab];rw[hm,Nat.add_mod,Nat.mod_mul_mod,←Nat.add_mod,AbN]at e2;rw[of_nat e2]; rfl
theorem tabL_all:((List.range 256).all fun n=>decide (n<2^ (str_0.data.toList.getD n 0).toNat)&&decide ((str_0.data.toList.getD n 0).toNat≤8))=true:=by kernel_rfl
theorem tabL_len:str_0.data.toList.length=256:=by kernel_rfl
theorem tabL (x:UInt64)(hx:x.toNat<256): ∃b,idx str_0.data.toList ((toB (x.toNat:Int)).toNat:Int)=some b∧x.toNat<2^b.toNat∧b.toNat≤8:=by
 have hb:(toB (x.toNat:Int)).toNat=x.toNat:=by unfold toB; rw[UInt8.toNat_ofNat']; omega
 have h:=List.all_eq_true.1 tabL_all x.toNat (List.mem_range.2 hx);rw[Bool.and_eq_true,decide_eq_true_eq,decide_eq_true_eq]at h;have hlt:x.toNat<str_0.data.toList.length:=by rw[tabL_len]; exact hx
 rw[List.getD_eq_getElem?_getD,List.getElem?_eq_getElem hlt,Option.getD_some]at h;rw[hb];exact⟨str_0.data.toList[x.toNat],JY (by simp),h.1,h.2⟩
theorem len64_eq (a:UInt64): ∃L:Nat,EB a=some (L:Int)∧a.toNat<2^L∧L≤64:=by
 have ha:=a.toNat_lt;have h1: ∃(x:UInt64) (n:Nat),(if(decide ((a.toNat:Int)≥4294967296))=true then some ((CZ a 32),(32:Int))else some (a,0))=some (x,(n:Int))∧n≤32∧x.toNat<4294967296∧a.toNat<(x.toNat+1)*2^n:=by
  split
  ·refine⟨CZ a 32,32,rfl,by omega,?_,?_⟩<;>rw[shrU_toNat a 32 (by omega)]<;>omega
  ·rename_i h; rw[decide_eq_true_eq]at h; exact⟨a,0,rfl,by omega,by omega,by omega⟩
 obtain⟨x,n,e1,n1,hx,hn⟩:=h1;have h2: ∃(y:UInt64) (k:Nat),(if(decide ((x.toNat:Int)≥65536))=true then some ((CZ x 16),(w64 ((n:Int)+16)))else some (x,(n:Int)))=some (y,(k:Int))∧k≤48∧y.toNat<65536∧a.toNat<(y.toNat+1)*2^k:=by
  split
  ·refine⟨CZ x 16,n+16,by rw[Cc (by omega) (by omega)]; rfl,by omega,?_,?_⟩
   ·rw[shrU_toNat x 16 (by omega)]; omega
   ·rw[shrU_toNat x 16 (by omega),Nat.pow_add];refine Nat.lt_of_lt_of_le hn ?_;have:x.toNat+1≤(x.toNat/2^16+1)*2^16:=by omega
    calc (x.toNat+1)*2^n≤((x.toNat/2^16+1)*2^16)*2^n:=Nat.mul_le_mul_right _ this
     _=(x.toNat/2^16+1)*(2^n*2^16):=by rw[Nat.mul_assoc,Nat.mul_comm (2^16)]
  ·rename_i h; rw[decide_eq_true_eq]at h; exact⟨x,n,rfl,by omega,by omega,hn⟩
 obtain⟨y,k,e2,k1,hy,hk⟩:=h2;have h3: ∃(z:UInt64) (j:Nat),(if(decide ((y.toNat:Int)≥256))=true then some ((CZ y 8),(w64 ((k:Int)+8)))else some (y,(k:Int)))=some (z,(j:Int))∧j≤56∧z.toNat<256∧a.toNat<(z.toNat+1)*2^j:=by
  split
  ·refine⟨CZ y 8,k+8,by rw[Cc (by omega) (by omega)]; rfl,by omega,?_,?_⟩
   ·rw[shrU_toNat y 8 (by omega)]; omega
   ·rw[shrU_toNat y 8 (by omega),Nat.pow_add];refine Nat.lt_of_lt_of_le hk ?_;have:y.toNat+1≤(y.toNat/2^8+1)*2^8:=by omega
    calc (y.toNat+1)*2^k≤((y.toNat/2^8+1)*2^8)*2^k:=Nat.mul_le_mul_right _ this
     _=(y.toNat/2^8+1)*(2^k*2^8):=by rw[Nat.mul_assoc,Nat.mul_comm (2^8)]
  ·rename_i h; rw[decide_eq_true_eq]at h; exact⟨y,k,rfl,by omega,by omega,hk⟩
 obtain⟨z,j,e3,j1,hz,hj⟩:=h3;obtain⟨b,e4,b1,b2⟩:=tabL z hz;refine⟨j+b.toNat,?_,?_,by omega⟩
 ·unfold EB;rw[e1,Ab];dsimp only;rw[e2,Ab];dsimp only;rw[e3,Ab,e4,Ab,CI,Cc (n:=(b.toNat:Int)) (by omega) (by omega),Cc (by omega) (by omega)]; rfl
 ·refine Nat.lt_of_lt_of_le hj ?_;rw[Nat.add_comm j,Nat.pow_add];exact Nat.mul_le_mul_right _ b1
def MX (y a n:UInt64):UInt64:=ofN (a.toNat^n.toNat%y.toNat)
theorem powN_nat {y:UInt64}(h:Dv y)(a n:UInt64):(MX y a n).toNat=a.toNat^n.toNat%y.toNat:=ofN_mod _ h.pos
theorem and_pow (n j:Nat):n&&&2^j=(n.testBit j).toNat*2^j:=by
 apply Nat.eq_of_testBit_eq;intro i;rw[Nat.testBit_and,Nat.testBit_two_pow];by_cases h:j=i
 ·subst h;cases hb:n.testBit j<;>simp[hb,Nat.testBit_two_pow_self]
 ·cases hb:n.testBit j<;>simp[h,Nat.testBit_two_pow]
theorem bit_eq (n:UInt64){j:Nat}(hj:j≤63):(((n&&&(Gb 1 j)).toNat:Int) !=0)=decide (n.toNat/2^j%2=1):=by
 have h1:(Gb 1 j).toNat=2^j:=by
  rw[shlU_nat hj,show(1:UInt64).toNat=1 from rfl,Nat.one_mul];exact Nat.mod_eq_of_lt (Nat.lt_of_le_of_lt (Nat.pow_le_pow_right (by omega) hj) (by decide))
 have h2:(n&&&(Gb 1 j)).toNat=(n.toNat.testBit j).toNat*2^j:=by rw[UInt64.toNat_and,h1,and_pow]
 rw[h2];have hp:=Nat.two_pow_pos j;rw[Nat.testBit_eq_decide_div_mod_eq];by_cases hb:n.toNat/2^j%2=1
 ·simp only[hb,decide_true,Bool.toNat_true,Nat.one_mul];rw[bne_iff_ne]; omega
 ·simp only[hb,decide_false,Bool.toNat_false,Nat.zero_mul]; rfl
def mulF (y:UInt64):Unit→UInt64→UInt64→Option (UInt64×Unit):=fun(s1:Unit) (b1:UInt64) (b2:UInt64)=>Ac (A8 y b1 b2) fun x1=>some (x1,())
theorem pow_it {y:UInt64}(h:Dv y)(a n:UInt64): ∀(j:Nat) (out:UInt64),j≤64→out.toNat=a.toNat^ (n.toNat/2^j)%y.toNat→
  ∃r,iter (BQ (fun(s:UInt64×Unit) (b0:Bool)=>Ac (Cp (mulF y) a b0 s) fun z=>some (true,z)) n) (j+1) ((j:Int)-1,(out,()))=some (.inl (r,()))∧r.toNat=a.toNat^n.toNat%y.toNat:=by
 intro j;induction j with
 |zero=>
  intro out _ ho;refine⟨out,A2 ?_,by rw[ho]; simp⟩;unfold BQ;rw[if_neg (by simp)]
 |succ j ih=>
  intro out hj ho;have hw:w64 ((((j+1:Nat):Int)-1)-1)=(j:Int)-1:=by rw[Cc (by omega) (by omega)]; omega
  have hk:(((j+1:Nat):Int)-1).toNat=j:=by omega
  have hbit:=bit_eq n (j:=j) (by omega);have hdiv:n.toNat/2^ (j+1)=n.toNat/2^j/2:=by rw[Nat.pow_succ,Nat.div_div_eq_div_mul]
  have hsq:(NU y out out).toNat=a.toNat^ (2*(n.toNat/2^ (j+1)))%y.toNat:=by
   rw[mulM_nat h,ho,←Nat.mul_mod,←Nat.pow_add,←Nat.two_mul]
  by_cases hb:n.toNat/2^j%2=1
  ·have hn:(NU y (NU y out out) a).toNat=a.toNat^ (n.toNat/2^j)%y.toNat:=by
    rw[mulM_nat h,hsq,Nat.mod_mul_mod,←Nat.pow_succ];congr 2; omega
   obtain⟨r,r1,r2⟩:=ih (NU y (NU y out out) a) (by omega) hn;refine⟨r,?_,r2⟩;rw[AB (s':=((j:Int)-1,(NU y (NU y out out) a,()))),r1];unfold BQ;dsimp only;rw[if_pos (by rw[decide_eq_true_eq]; omega),if_pos (by omega),hk,hbit];simp only[Cp,mulF,ringMul_eq h,Ab,hb,decide_true,if_true,Bool.not_true,Bool.false_eq_true,if_false,hw]
  ·have hn:(NU y out out).toNat=a.toNat^ (n.toNat/2^j)%y.toNat:=by
    rw[hsq]; congr 2; omega
   obtain⟨r,r1,r2⟩:=ih (NU y out out) (by omega) hn;refine⟨r,?_,r2⟩;rw[AB (s':=((j:Int)-1,(NU y out out,()))),r1];unfold BQ;dsimp only;rw[if_pos (by rw[decide_eq_true_eq]; omega),if_pos (by omega),hk,hbit];simp only[Cp,mulF,ringMul_eq h,Ab,hb,decide_false,Bool.not_true,Bool.false_eq_true,if_false,hw]
theorem power_eq {y:UInt64}(h:Dv y)(a n:UInt64)(h1:1<y.toNat):E1 (mulF y) a n ()=some (MX y a n,()):=by
 obtain⟨L,e1,e2,e3⟩:=len64_eq n;have hw:w64 ((L:Int)-1)=(L:Int)-1:=Cc (by omega) (by omega);obtain⟨r,r1,r2⟩:=pow_it h a n L 1 e3 (by rw[Nat.div_eq_of_lt e2]; simp; exact(Nat.mod_eq_of_lt h1).symm);have r1':=Dg _ r1 (by omega);unfold E1 EL;rw[show F3 n=some n from rfl,Ab,e1,Ab,hw,r1',Ab];simp only[Ab];rw[of_nat r2]; rfl
theorem pow_eq (a n:UInt64):CN a n=some (MX 2305843009213691579 a n):=by
 unfold CN;have:=power_eq dvQ a n (by decide);unfold mulF at this;rw[this,Ab]
theorem base_eq (n:UInt64):CF n=some (MX 2305843009213691579 4 n):=by
 unfold CF;rw[pow_eq,Ab]
end Go.Proofs.YtbajlmaijjcbmaaGreatDoor
end
section
namespace Go.Proofs.YtbajlmaijjcbmaaGreatDoor
open Go Go.Gw Go.Ax
theorem inv_abs {u v:Int}{q:Nat}(hs:0≤u∧v≤0∨u≤0∧0≤v):(u-(q:Int)*v).natAbs=u.natAbs+q*v.natAbs∧((q:Int)*v).natAbs=q*v.natAbs∧(0≤v∧u-(q:Int)*v≤0∨v≤0∧0≤u-(q:Int)*v):=by
 have hqv:((q:Int)*v).natAbs=q*v.natAbs:=by rw[Int.natAbs_mul,Int.natAbs_natCast]
 have h1:0≤v→0≤(q:Int)*v:=fun h=>Int.mul_nonneg (Int.natCast_nonneg q) h;have h2:v≤0→(q:Int)*v≤0:=fun h=>Int.mul_nonpos_of_nonneg_of_nonpos (Int.natCast_nonneg q) h;refine⟨?_,hqv,?_⟩
 ·rw[←hqv];generalize (q:Int)*v=z at*;omega
 ·generalize (q:Int)*v=z at*;omega
theorem inv_it (m:Nat)(a:Int)(hm2:m<2305843009213693952): ∀(n:Nat) (x y:UInt64) (u v:Int),y.toNat≤n→(∃k,u*a=x.toNat+k*m)→(∃k,v*a=y.toNat+k*m)→u.natAbs*y.toNat+v.natAbs*x.toNat=m→
  (0≤u∧v≤0∨u≤0∧0≤v)→x.toNat≤m→u.natAbs≤m→v.natAbs≤m→y.toNat≤m→
  ∃r:Int,iter A9 (n+1) (x,y,u,v)=some r∧(∃k,r*a=Nat.gcd x.toNat y.toNat+k*m)∧r.natAbs≤m:=by
 intro n;induction n with
 |zero=>
  intro x y u v hy hu hv hb hs hx hul hvl hyl;have hy0:y.toNat=0:=by omega
  refine⟨u,A2 ?_,by rw[hy0,Nat.gcd_zero_right]; exact hu,hul⟩;unfold A9;rw[if_neg (by simp[hy0])]
 |succ n ih=>
  intro x y u v hy hu hv hb hs hx hul hvl hyl;by_cases hy0:y.toNat=0
  ·refine⟨u,A2 ?_,by rw[hy0,Nat.gcd_zero_right]; exact hu,hul⟩;unfold A9;rw[if_neg (by simp[hy0])]
  ·have hyne:y≠0:=fun e=>hy0 (by rw[e]; rfl);have hdm:=Nat.div_add_mod' x.toNat y.toNat;have hmod:=Nat.mod_lt x.toNat (show 0<y.toNat by omega);have hql:x.toNat/y.toNat≤x.toNat:=Nat.div_le_self _ _;have hmul:x.toNat/y.toNat*y.toNat≤x.toNat:=Nat.div_mul_le_self _ _;have hxl:=x.toNat_lt;have hgcd:Nat.gcd x.toNat y.toNat=Nat.gcd y.toNat (x.toNat%y.toNat):=by rw[Nat.gcd_comm,Nat.gcd_rec,Nat.gcd_comm]
   have eq1:(x/y).toNat=x.toNat/y.toNat:=UInt64.toNat_div _ _;have eq2:((x/y)*y).toNat=x.toNat/y.toNat*y.toNat:=by rw[UInt64.toNat_mul,eq1]; exact Nat.mod_eq_of_lt (Nat.lt_of_le_of_lt hmul hxl)
   have eq3:(x-(x/y)*y).toNat=x.toNat%y.toNat:=by
    rw[UInt64.toNat_sub_of_le _ _ (by rw[UInt64.le_iff_toNat_le,eq2]; exact hmul),eq2];omega
   generalize hq:x.toNat/y.toNat=q at*;generalize hr:x.toNat%y.toNat=r at*;obtain⟨habs,hqv,hs'⟩:=inv_abs (q:=q) hs;have hbal:v.natAbs*r+(u-(q:Int)*v).natAbs*y.toNat=m:=by
    rw[habs,←hb,←hdm]; grind
   have hvm:(u-(q:Int)*v).natAbs≤m:=by
    have:(u-(q:Int)*v).natAbs*1≤(u-(q:Int)*v).natAbs*y.toNat:=Nat.mul_le_mul_left _ (by omega);omega
   have hqb:((q:Int)*v).natAbs≤m:=by omega
   have w1:w64 (q:Int)=(q:Int):=Cc (by omega) (by omega);have w2:w64 ((q:Int)*v)=(q:Int)*v:=by
    generalize (q:Int)*v=z at*;exact Cc (by omega) (by omega)
   have w3:w64 (u-(q:Int)*v)=u-(q:Int)*v:=by
    generalize u-(q:Int)*v=z at*;exact Cc (by omega) (by omega)
   have hdmI:(q:Int)*(y.toNat:Int)+(r:Int)=(x.toNat:Int):=by exact_mod_cast hdm
   obtain⟨t,t1,t2,t3⟩:=ih y (x-(x/y)*y) v (u-(q:Int)*v) (by rw[eq3]; omega) hv (by
    obtain⟨k,hk⟩:=hu;obtain⟨l,hl⟩:=hv;refine⟨k-q*l,?_⟩;rw[eq3];grind) (by rw[eq3]; exact hbal) (by omega) hyl hvl hvm (by rw[eq3]; omega)
   rw[eq3,←hgcd]at t2;refine⟨t,?_,t2,t3⟩;rw[AB (s':=(y,x-(x/y)*y,v,u-(q:Int)*v)),t1];unfold A9;dsimp only;rw[if_pos (by simp; omega),if_pos hyne,eq1,CI,w1,w2,w3,CI]
theorem inv_eq {a:UInt64}{b:Nat}(h:a.toNat*b%GQ=1): ∃z:UInt64,Db a=some (z,0)∧z.toNat*a.toNat%GQ=1:=by
 have hm:(a%2305843009213691579).toNat=a.toNat%GQ:=UInt64.toNat_mod _ _;have hml:=Nat.mod_lt a.toNat (show 0<GQ by decide);have hne:a.toNat%GQ≠0:=fun e=>by
  rw[Nat.mul_mod,e,Nat.zero_mul,Nat.zero_mod]at h; cases h
 have hg:Nat.gcd (a.toNat%GQ) GQ=1:=by
  have d1:=Nat.gcd_dvd_left (a.toNat%GQ) GQ;have d2:=Nat.gcd_dvd_right (a.toNat%GQ) GQ;have h':a.toNat%GQ*b%GQ=1:=by rw[Nat.mod_mul_mod]; exact h
  have h2:=Nat.div_add_mod (a.toNat%GQ*b) GQ;rw[h']at h2;have d3:Nat.gcd (a.toNat%GQ) GQ ∣ GQ*(a.toNat%GQ*b/GQ)+1:=by rw[h2]; exact Nat.dvd_trans d1 (Nat.dvd_mul_right _ _)
  have d4:=(Nat.dvd_add_right (Nat.dvd_trans d2 (Nat.dvd_mul_right GQ (a.toNat%GQ*b/GQ)))).1 d3;exact Nat.dvd_one.1 d4
 obtain⟨r,r1,⟨k,r2⟩,r3⟩:=inv_it GQ (a.toNat%GQ:Nat) (by decide) GQ (a%2305843009213691579) 2305843009213691579 1 0 (by decide) ⟨0,by rw[hm]; simp⟩ ⟨-1,by
  rw[show(2305843009213691579:UInt64).toNat=GQ from rfl]; simp⟩ (by rw[show(2305843009213691579:UInt64).toNat=GQ from rfl]; simp) (by omega) (by rw[hm]; omega) (by decide) (by decide) (by decide)
 rw[hm,show(2305843009213691579:UInt64).toNat=GQ from rfl,hg]at r2;have r1':=Dg _ r1 (by decide);have hw:w64 (((2305843009213691579:UInt64).toNat:Int))=(GQ:Int):=Cc (by decide) (by decide);have hz: ∃z:Nat,(if(decide (r<0))=true then bnd ((w64 (r+(w64 (((2305843009213691579:UInt64).toNat:Int)))))) fun x7=>some x7 else some r)=some (z:Int)∧z≤GQ∧∃l:Int,(z:Int)*(a.toNat%GQ:Nat)=1+l*GQ:=by
  simp only[GQ]at*;by_cases hneg:r<0
  ·rw[if_pos (by simpa using hneg),hw,CI,Cc (by omega) (by omega)];obtain⟨z,hz⟩:=Int.eq_ofNat_of_zero_le (show 0≤r+2305843009213691579 by omega);refine⟨z,by rw[←hz]; rfl,by omega,k+(a.toNat%2305843009213691579:Nat),?_⟩;rw[←hz,Int.add_mul,r2];grind
  ·rw[if_neg (by simpa using hneg)];obtain⟨z,hz⟩:=Int.eq_ofNat_of_zero_le (show 0≤r by omega);exact⟨z,by rw[hz],by omega,k,by rw[←hz]; exact r2⟩
 obtain⟨z,z1,z2,l,z3⟩:=hz;have hzn:(toU (z:Int)).toNat=z:=toU_toNat (by simp only[GQ]at z2; omega);refine⟨toU (z:Int),?_,?_⟩
 ·unfold Db Da;rw[if_pos (by decide),if_neg (by rw[beq_iff_eq,hm]; omega),r1',Ab,Ab,z1,Ab,Ab]
 ·rw[hzn,←Nat.mul_mod_mod];have:((z*(a.toNat%GQ):Nat):Int)=1+l*GQ:=by rw[Int.natCast_mul]; exact z3
  generalize z*(a.toNat%GQ)=w at*;simp only[GQ]at*;omega
end Go.Proofs.YtbajlmaijjcbmaaGreatDoor
end
section
namespace Go.Proofs.YtbajlmaijjcbmaaGreatDoor
open Go Go.Gw Go.Ax
theorem bytes8_eq (n:UInt64):Dx n=some (LY 8 n):=by
 unfold Dx;simp[CW,FI,idx,w64,CI,LY]
def pubK (k:UInt64):UInt64:=MX 2305843009213691579 4 k
def chal (c p:UInt64)(msg:List UInt8):UInt64:=numM (ptag ⟨#[115,105,103,110]⟩ [LY 8 c,LY 8 p,msg]) 1152921504606845789
theorem chal_eq (c p:UInt64){msg:List UInt8}(h:msg.length≤600000):Cd c p msg=some (chal c p msg):=by
 unfold Cd;rw[bytes8_eq,Ab,bytes8_eq,Ab,VY _ _ (by simp[WT,EE]; omega),Ab,num_eq dvR,Ab]; rfl
def Aag (k:UInt64)(msg:List UInt8):UInt64:=numM (ptag ⟨#[110,111,110,99,101]⟩ [LY 8 k,msg]) 1152921504606845788+1
def signE (k:UInt64)(msg:List UInt8):UInt64:=chal (pubK (Aag k msg)) (pubK k) msg
def signS (k:UInt64)(msg:List UInt8):g_api_Sig:=⟨signE k msg,ZN 1152921504606845789 (NU 1152921504606845789 (signE k msg) k) (Aag k msg)⟩
def gr:Nat:=GR
theorem powQ_nat (a n:UInt64):(MX 2305843009213691579 a n).toNat=a.toNat^n.toNat%GQ:=powN_nat dvQ a n
theorem inv_law {p e k:Nat}(hp:p^gr%GQ=1)(he:e≤gr):p^e%GQ*p^ (gr-e)%GQ=1:=by
 rw[Nat.mod_mul_mod,←Nat.pow_add,Nat.add_sub_cancel' he]; exact hp
theorem gu_tt {α:Type} [Inhabited α](o:Option α):gu true o=o:=rfl
end Go.Proofs.YtbajlmaijjcbmaaGreatDoor
end
section
namespace Go.Proofs.YtbajlmaijjcbmaaGreatDoor
open Go Go.Gw Go.Ax
def radd (a b:UInt64):UInt64:=((a%2305843009213693951)+(b%2305843009213693951))%2305843009213693951
theorem radd_nat (a b:UInt64):(radd a b).toNat=(a.toNat%FP+b.toNat%FP)%FP:=by
 unfold radd;rw[UInt64.toNat_mod,UInt64.toNat_add,UInt64.toNat_mod,UInt64.toNat_mod,litP];simp only[FP];omega
theorem radd_eq (a b:UInt64):radd a b=Cw a b:=u_ext (by rw[radd_nat,padd_nat])
theorem add01_eq (a b:UInt64):B7 a b=some (Cw a b):=by rw[←radd_eq]; rfl
theorem mul01_it: ∀(n:Nat) (a b o:UInt64),b.toNat<2^n→o.toNat<FP→∃r,iter CK (n+1) (a,b,o)=some r∧r.toNat=(o.toNat+a.toNat*b.toNat)%FP:=by
 intro n;induction n with
 |zero=>
  intro a b o h ho;have hb:b.toNat=0:=by simp at h; omega
  refine⟨o,A2 ?_,by rw[hb]; simp; exact(Nat.mod_eq_of_lt ho).symm⟩;unfold CK;rw[if_neg (by simp[hb])]
 |succ n ih=>
  intro a b o h ho;by_cases hb:b.toNat=0
  ·refine⟨o,A2 ?_,by rw[hb]; simp; exact(Nat.mod_eq_of_lt ho).symm⟩;unfold CK;rw[if_neg (by simp[hb])]
  ·have e1:2^ (n+1)=2*2^n:=by rw[Nat.pow_succ]; omega
   have hb2:(b/2).toNat=b.toNat/2:=by rw[UInt64.toNat_div]; rfl
   have hbm:((b%2).toNat:Int)=((b.toNat%2:Nat):Int):=by rw[UInt64.toNat_mod]; rfl
   have hp0: ∀x y,(Cw x y).toNat<FP:=fun x y=>by rw[padd_nat]; exact Nat.mod_lt _ (by decide)
   by_cases ho1:b.toNat%2=1
   ·obtain⟨r,h1,h2⟩:=ih (Cw a a) (b/2) (Cw o a) (by rw[hb2]; omega) (hp0 _ _);refine⟨r,?_,?_⟩
    ·rw[AB (s':=(Cw a a,b/2,Cw o a)),h1];unfold CK;rw[if_pos (by simp; omega),if_pos (by rw[hbm,ho1]; rfl),add01_eq,Ab,Ab,add01_eq,Ab]
    ·rw[h2,padd_nat,padd_nat,hb2];simp only[Nat.mod_add_mod,Nat.add_mod_mod];rw[Nat.add_mod,Nat.mod_mul_mod,←Nat.add_mod,←Nat.two_mul];congr 1;have:b.toNat=2*(b.toNat/2)+1:=by omega
     conv=>rhs; rw[this]
     rw[Nat.mul_add,Nat.mul_one,←Nat.mul_assoc,Nat.mul_comm a.toNat 2]; omega
   ·obtain⟨r,h1,h2⟩:=ih (Cw a a) (b/2) o (by rw[hb2]; omega) ho;refine⟨r,?_,?_⟩
    ·rw[AB (s':=(Cw a a,b/2,o)),h1];unfold CK;rw[if_pos (by simp; omega),if_neg (by rw[hbm]; simp; omega),Ab,add01_eq,Ab]
    ·rw[h2,padd_nat,hb2];simp only[Nat.mod_add_mod,Nat.add_mod_mod];rw[Nat.add_mod,Nat.mod_mul_mod,←Nat.add_mod,←Nat.two_mul];congr 1;have:b.toNat=2*(b.toNat/2):=by omega
     conv=>rhs; rw[this]
     rw[←Nat.mul_assoc,Nat.mul_comm a.toNat 2]
theorem mul01_eq (a b:UInt64):HS a b=some (Vy a b):=by
 have hb:(b%2305843009213693951).toNat<2^64:=(b%2305843009213693951).toNat_lt;obtain⟨r,h1,h2⟩:=mul01_it 64 (a%2305843009213693951) (b%2305843009213693951) 0 hb (by decide);have hr:r=Vy a b:=u_ext (by
  rw[h2,pmul_nat,UInt64.toNat_mod,UInt64.toNat_mod,litP];simp only[UInt64.toNat_zero,Nat.zero_add];rw[←Nat.mul_mod])
 unfold HS;rw[Dg _ h1 (by omega),Ab,Ab,hr]
theorem raised_it (a:UInt64)(n:Nat)(hn:n≤1000): ∀(k i:Nat) (x:UInt64),i+k=n→x.toNat=a.toNat^i%FP→∃y,iter (CQ a (n:Int)) (k+1) (x,(i:Int))=some y∧y.toNat=a.toNat^n%FP:=by
 intro k;induction k with
 |zero=>
  intro i x h hx;refine⟨x,A2 ?_,by rw[hx,show i=n from by omega]⟩;unfold CQ;rw[if_neg (by simp; omega)]
 |succ k ih=>
  intro i x h hx;have hw:w64 ((i:Int)+1)=((i+1:Nat):Int):=by rw[Cc (by omega) (by omega)]; omega
  obtain⟨y,h1,h2⟩:=ih (i+1) (Vy x a) (by omega) (by rw[pmul_nat,hx,Nat.mod_mul_mod,Nat.pow_succ]);refine⟨y,?_,h2⟩;rw[AB (s':=(Vy x a,((i+1:Nat):Int)))]
  ·exact h1
  ·unfold CQ;rw[if_pos (by simp; omega),mul01_eq,Ab];simp only[hw]
theorem raised_gen (a:UInt64)(n:Nat)(hn:n≤1000): ∃y,B5 a (n:Int)=some y∧y.toNat=a.toNat^n%FP:=by
 obtain⟨y,h1,h2⟩:=raised_it a n hn n 0 1 (by omega) (by simp);have h1':=Dg _ h1 (by omega);refine⟨y,?_,h2⟩;unfold B5;rw[show((0:Int))=((0:Nat):Int)from rfl,h1',Ab,Ab]
theorem raised_eq {a:UInt64}:B5 a 17=some (KG a):=by
 obtain⟨y,h1,h2⟩:=raised_gen a 17 (by omega);have:y=KG a:=u_ext (by rw[h2,psev_nat]);rw[←this]; exact h1
theorem con_eq {r i:Nat}(hr:r<8)(hi:i<3):(Ac (B5 (toU (w64 ((w64 ((w64 (3*(r:Int)))+(i:Int)))+1))) 3) fun x4=>B7 x4 7)=some (LG (r:Int) (i:Int)):=by
 have hw:w64 ((w64 ((w64 (3*(r:Int)))+(i:Int)))+1)=((3*r+i+1:Nat):Int):=by
  rw[Cc (n:=3*(r:Int)) (by omega) (by omega),Cc (n:=3*(r:Int)+(i:Int)) (by omega) (by omega),Cc (by omega) (by omega)]; omega
 have hN:(toU ((3*r+i+1:Nat):Int)).toNat=3*r+i+1:=toU_toNat (by omega);unfold LG;rw[hw];generalize toU ((3*r+i+1:Nat):Int)=N at*;obtain⟨y,h1,h2⟩:=raised_gen N 3 (by omega);have h1':B5 N 3=some y:=h1;rw[h1',Ab,add01_eq];refine congrArg some (u_ext ?_);have hle:N.toNat≤24:=by omega
 have h2':N.toNat*N.toNat≤24*24:=Nat.mul_le_mul hle hle;have h3':N.toNat*N.toNat*N.toNat≤24*24*24:=Nat.mul_le_mul h2' hle;have e3:N.toNat^3=N.toNat*N.toNat*N.toNat:=by rw[Nat.pow_succ,Nat.pow_two]
 dsimp only;rw[padd_nat,h2,e3,UInt64.toNat_add,UInt64.toNat_mul,UInt64.toNat_mul,show(7:UInt64).toNat=7 from rfl];have e4:N.toNat*N.toNat%2^64=N.toNat*N.toNat:=Nat.mod_eq_of_lt (by omega);rw[e4];clear e4 e3 h2 h1 h1' hw hN;generalize N.toNat*N.toNat*N.toNat=z at*;rw[Nat.mod_eq_of_lt (show z<2^64 by omega),Nat.mod_eq_of_lt (show z<FP by simp only[FP]; omega),Nat.mod_eq_of_lt (show z<FP by simp only[FP]; omega),Nat.mod_eq_of_lt (show 7<FP by decide),Nat.mod_eq_of_lt (show z+7<FP by simp only[FP]; omega),Nat.mod_eq_of_lt (show z+7<2^64 by omega)]
theorem obind_obind {α β γ:Type}(x:Option α)(f:α→Option β)(g:β→Option γ):Ac x (fun a=>Ac (f a) g)=Ac (Ac x f) g:=by cases x<;>rfl
theorem round_b4 {s:UInt64×UInt64×UInt64}{r:Nat}(hr:r<8)(a b c:UInt64):
  BK s (r:Int) (0,a,b,c)=some (.inl (1,KG (Cw s.1 (LG r 0)),b,c))∧
  BK s (r:Int) (1,a,b,c)=some (.inl (2,a,KG (Cw s.2.1 (LG r 1)),c))∧
  BK s (r:Int) (2,a,b,c)=some (.inl (3,a,b,KG (Cw s.2.2 (LG r 2)))):=by
 have c0:=con_eq hr (i:=0) (by omega);have c1:=con_eq hr (i:=1) (by omega);have c2:=con_eq hr (i:=2) (by omega);refine⟨?_,?_,?_⟩
 ·unfold BK;dsimp only;rw[if_pos (by simp),obind_obind,show((0:Nat):Int)=0 from rfl]at*;rw[c0,Ab,show idx [s.1,s.2.1,s.2.2] 0=some s.1 from rfl,Ab,add01_eq,Ab,raised_eq,Ab,show idx [a,b,c] 0=some a from rfl,Ab];simp[CI,w64]
 ·unfold BK;dsimp only;rw[if_pos (by simp),obind_obind,show((1:Nat):Int)=1 from rfl]at*;rw[c1,Ab,show idx [s.1,s.2.1,s.2.2] 1=some s.2.1 from rfl,Ab,add01_eq,Ab,raised_eq,Ab,show idx [a,b,c] 1=some b from rfl,Ab];simp[CI,w64]
 ·unfold BK;dsimp only;rw[if_pos (by simp),obind_obind,show((2:Nat):Int)=2 from rfl]at*;rw[c2,Ab,show idx [s.1,s.2.1,s.2.2] 2=some s.2.2 from rfl,Ab,add01_eq,Ab,raised_eq,Ab,show idx [a,b,c] 2=some c from rfl,Ab];simp[CI,w64]
theorem padd3 (x y z:UInt64):Cw (Cw (Cw 0 x) y) z=Cw (Cw x y) z:=u_ext (by
 simp only[padd_nat,UInt64.toNat_zero];simp only[FP];omega)
theorem round_b5 (x:UInt64)(a b c:UInt64):
  BJ x (0,a,b,c)=some (.inl (1,Cw a x,b,c))∧BJ x (1,a,b,c)=some (.inl (2,a,Cw b x,c))∧BJ x (2,a,b,c)=some (.inl (3,a,b,Cw c x)):=by
 refine⟨?_,?_,?_⟩
 ·unfold BJ;dsimp only;rw[if_pos (by simp),show idx [a,b,c] 0=some a from rfl,Ab,add01_eq,Ab,Ab]; simp[CI,w64]
 ·unfold BJ;dsimp only;rw[if_pos (by simp),show idx [a,b,c] 1=some b from rfl,Ab,add01_eq,Ab,Ab]; simp[CI,w64]
 ·unfold BJ;dsimp only;rw[if_pos (by simp),show idx [a,b,c] 2=some c from rfl,Ab,add01_eq,Ab,Ab]; simp[CI,w64]
theorem round_eq {r:Nat}(hr:r<8)(s:UInt64×UInt64×UInt64):EH s (r:Int)=some (Ic (r:Int) s):=by
 have h4:iter (BK s (r:Int)) 4 (0,0,0,0)=some (KG (Cw s.1 (LG r 0)),KG (Cw s.2.1 (LG r 1)),KG (Cw s.2.2 (LG r 2))):=by
  rw[AB (round_b4 hr 0 0 0).1,AB (round_b4 hr _ 0 0).2.1,AB (round_b4 hr _ _ 0).2.2];exact A2 rfl
 have h5: ∀x a b c:UInt64,iter (BJ x) 4 (0,a,b,c)=some (Cw a x,Cw b x,Cw c x):=fun x a b c=>by
  rw[AB (round_b5 x a b c).1,AB (round_b5 x _ b c).2.1,AB (round_b5 x _ _ c).2.2];exact A2 rfl
 unfold EH;rw[Dg _ h4 (by omega),Ab,Ab,add01_eq,Ab,add01_eq,Ab,Dg _ (h5 _ _ _ _) (by omega),Ab,Ab];unfold Ic YT;rw[padd3]
theorem mix02_it (s:UInt64×UInt64×UInt64){r:Nat}(hr:r<8):DW ((r:Int),s.1,s.2.1,s.2.2)=some (.inl (((r+1:Nat):Int),(Ic (r:Int) s).1,(Ic (r:Int) s).2.1,(Ic (r:Int) s).2.2)):=by
 have hw:w64 ((r:Int)+1)=((r+1:Nat):Int):=by rw[Cc (by omega) (by omega)]; omega
 unfold DW;rw[if_pos (by simp; omega),round_eq hr,Ab];simp only[hw]
theorem mix02_eq (s:UInt64×UInt64×UInt64):HR s=some (KH s):=by
 have h:iter DW 9 (((0:Nat):Int),s.1,s.2.1,s.2.2)=some (KH s):=by
  rw[AB (mix02_it s (by omega)),AB (mix02_it _ (by omega)),AB (mix02_it _ (by omega)),AB (mix02_it _ (by omega)),AB (mix02_it _ (by omega)),AB (mix02_it _ (by omega)),AB (mix02_it _ (by omega)),AB (mix02_it _ (by omega))];exact A2 rfl
 unfold HR;rw[show((0:Int))=((0:Nat):Int)from rfl,Dg _ h (by omega),Ab,Ab]
theorem or_shl {s:UInt64}{b:UInt8}{i:Nat}(hi:i<7)(hs:s.toNat<256^i)(u:UInt64)(hu:u.toNat=256^i):
  s|||Gb (toU (b.toNat:Int)) (8*i)=s+u*(toU (b.toNat:Int))∧(s+u*(toU (b.toNat:Int))).toNat<256^ (i+1):=by
 have hb:=b.toNat_lt;have e1:(toU (b.toNat:Int)).toNat=b.toNat:=toU_toNat (by omega);have e2:(2:Nat)^ (8*i)=256^i:=by rw[Nat.pow_mul]
 have hpow:256^i≤256^6:=Nat.pow_le_pow_right (by omega) (by omega);have hpos:0<256^i:=Nat.pow_pos (by omega);have e256:(256:Nat)^6=281474976710656:=by decide
 have hmul:256^i*b.toNat≤256^i*255:=Nat.mul_le_mul_left _ (by omega);have esh:(Gb (toU (b.toNat:Int)) (8*i)).toNat=256^i*b.toNat:=by
  unfold Gb;rw[e1,Nat.min_eq_left (by omega),show(b.toNat:Int)*2^ (8*i)=((256^i*b.toNat:Nat):Int)from by
   rw[←e2,Nat.mul_comm]; simp[Nat.mul_comm,Int.mul_comm]]
  exact toU_toNat (by omega)
 have ese:(u*(toU (b.toNat:Int))).toNat=256^i*b.toNat:=by
  rw[UInt64.toNat_mul,e1,hu]; omega
 have eadd:(s+u*(toU (b.toNat:Int))).toNat=s.toNat+256^i*b.toNat:=by
  rw[UInt64.toNat_add,ese]; omega
 refine⟨u_ext ?_,?_⟩
 ·rw[eadd,UInt64.toNat_or,esh,Nat.or_comm,←e2,←Nat.two_pow_add_eq_or_of_lt (by rw[e2]; exact hs)]; omega
 ·rw[eadd,Nat.pow_succ]; omega
theorem of2_it (a0:List UInt8)(hb:a0.length≤1000000)(st:(List UInt64)×Int)(i:Nat)(hi:st.2=(i:Int))(hi2:i≤1000000):
  ∀(l:List UInt8) (k:Nat) (s u:UInt64),k+l.length≤7→((a0.drop i).take 7).drop k=l→((a0.drop i).take 7).length=k+l.length→s.toNat<256^k→(k<7→u.toNat=256^k)→
   iter (EI a0 st) (l.length+1) (s,u,((i+k:Nat):Int))=some (ple l k s):=by
 intro l;induction l with
 |nil=>
  intro k s u h1 h2 h3 hs hu;refine A2 ?_;have hw:w64 ((i:Int)+7)=((i+7:Nat):Int):=by rw[Cc (by omega) (by omega)]; omega
  simp only[List.length_take,List.length_drop,List.length_nil]at h3;unfold EI;dsimp only;rw[hi,hw,if_neg (by simp; omega)];rfl
 |cons b l ih=>
  intro k s u h1 h2 h3 hs hu;have hw:w64 ((i:Int)+7)=((i+7:Nat):Int):=by rw[Cc (by omega) (by omega)]; omega
  have hw1:w64 (((i+k:Nat):Int)+1)=((i+(k+1):Nat):Int):=by rw[Cc (by omega) (by omega)]; omega
  simp only[List.length_cons]at h1 h3;have h3':=h3;simp only[List.length_take,List.length_drop]at h3';have hx:a0[i+k]? =some b:=by
   have:(((a0.drop i).take 7).drop k)[0]? =some b:=by rw[h2]; rfl
   rw[List.getElem?_drop,List.getElem?_take_of_lt (by omega),List.getElem?_drop]at this;simpa using this
  obtain⟨o1,o2⟩:=or_shl (b:=b) (show k<7 by omega) hs u (hu (by omega));rw[List.length_cons,AB (s':=(s+u*(toU (b.toNat:Int)),u*256,((i+(k+1):Nat):Int)))]
  ·have hd:((a0.drop i).take 7).drop (k+1)=l:=by rw[←List.drop_drop,h2]; rfl
   rw[ih (k+1) _ (u*256) (by omega) hd (by omega) o2 (fun hk=>by
    rw[UInt64.toNat_mul,hu (by omega),show(256:UInt64).toNat=256 from rfl,Nat.pow_succ];have:256^k≤256^6:=Nat.pow_le_pow_right (by omega) (by omega);have e256:(256:Nat)^6=281474976710656:=by decide
    omega)]
   rw[ple,o1]
  ·unfold EI;dsimp only;rw[hi,hw,if_pos (by simp; omega),JY hx,Ab,CI];simp only[hw1]
theorem of1_it (a0:List UInt8)(hb:a0.length≤900000): ∀(n i:Nat) (out:List UInt64),a0.length≤i+n→i≤900007→out.length+n≤1000000→
  iter (DH a0) (n+1) (out,(i:Int))=some (out++pof n (a0.drop i)):=by
 intro n;induction n with
 |zero=>
  intro i out h _ _;have:a0.drop i=[]:=List.drop_eq_nil_of_le (by omega);refine A2 ?_;unfold DH;rw[if_neg (by simp; omega),this]; simp[pof]
 |succ n ih=>
  intro i out h hi ho;by_cases hlt:i<a0.length
  ·obtain⟨b,l,hl⟩: ∃b l,a0.drop i=b::l:=⟨a0[i],a0.drop (i+1),List.drop_eq_getElem_cons hlt⟩;have hw:w64 ((i:Int)+7)=((i+7:Nat):Int):=by rw[Cc (by omega) (by omega)]; omega
   have h2:=of2_it a0 (by omega) (out,(i:Int)) i rfl (by omega) ((a0.drop i).take 7) 0 0 1 (by simp; omega) (by simp) (by simp) (by decide) (fun _=>by decide);have h2':=Dg _ h2 (by simp; omega);rw[Nat.add_zero]at h2';rw[AB (s':=(out++[ple ((a0.drop i).take 7) 0 0],((i+7:Nat):Int)))]
   ·rw[ih (i+7) _ (by omega) (by omega) (by simp; omega),hl];simp only[pof];rw[←hl,List.drop_drop];simp
   ·unfold DH;dsimp only;rw[if_pos (by simp; omega),h2',Ab,Ab,LB 8 (by simp; omega) (by simp; omega),Ab];simp only[hw]
  ·have:a0.drop i=[]:=List.drop_eq_nil_of_le (by omega);refine A2 ?_;unfold DH;rw[if_neg (by simp; omega),this]; simp[pof]
theorem of01_eq (a0:List UInt8)(hb:a0.length≤900000):IJ a0=some (pof a0.length a0):=by
 have h:=of1_it a0 hb a0.length 0 [] (by omega) (by omega) (by simp; omega);have h':=Dg _ h (by omega);unfold IJ;rw[show((0:Int))=((0:Nat):Int)from rfl,h',Ab,Ab];simp
theorem sum02_it (l:List UInt64)(hl:l.length≤1000000): ∀(n i:Nat) (s:UInt64×UInt64×UInt64),l.length≤i+n→1≤i→i≤1000002→
  iter (BL l) (n+1) ((i:Int),s.1,s.2.1,s.2.2)=some (Gu n (l.drop i) s):=by
 intro n;induction n with
 |zero=>
  intro i s h h1 _;have:l.drop i=[]:=List.drop_eq_nil_of_le (by omega);refine A2 ?_;unfold BL;rw[if_neg (by simp; omega),this]; simp[Gu]
 |succ n ih=>
  intro i s h h1 h2;by_cases hlt:i<l.length
  ·have hw:w64 ((i:Int)+1)=((i+1:Nat):Int):=by rw[Cc (by omega) (by omega)]; omega
   have hw2:w64 ((i:Int)+2)=((i+2:Nat):Int):=by rw[Cc (by omega) (by omega)]; omega
   have hx:idx l (i:Int)=some l[i]:=JY (by simp[hlt]);by_cases hlt2:i+1<l.length
   ·have hy:idx l ((i+1:Nat):Int)=some l[i+1]:=JY (by simp[hlt2]);have hd:l.drop i=l[i]::l[i+1]::l.drop (i+2):=by rw[List.drop_eq_getElem_cons hlt,List.drop_eq_getElem_cons hlt2]
    rw[AB (s':=(((i+2:Nat):Int),(KH (Cw s.1 l[i],Cw s.2.1 l[i+1],s.2.2)).1,(KH (Cw s.1 l[i],Cw s.2.1 l[i+1],s.2.2)).2.1,(KH (Cw s.1 l[i],Cw s.2.1 l[i+1],s.2.2)).2.2))]
    ·rw[ih (i+2) (KH (Cw s.1 l[i],Cw s.2.1 l[i+1],s.2.2)) (by omega) (by omega) (by omega),hd]; rfl
    ·unfold BL;dsimp only;rw[if_pos (by simp; omega),if_pos (by simp; omega),hx,Ab,add01_eq,Ab,Ab,hw,if_pos (by simp; omega),hy,Ab,add01_eq,Ab,Ab,mix02_eq,Ab];simp only[hw2]
   ·have hd:l.drop i=[l[i]]:=by rw[List.drop_eq_getElem_cons hlt,List.drop_eq_nil_of_le (by omega)]
    rw[AB (s':=(((i+2:Nat):Int),(KH (Cw s.1 l[i],s.2.1,s.2.2)).1,(KH (Cw s.1 l[i],s.2.1,s.2.2)).2.1,(KH (Cw s.1 l[i],s.2.1,s.2.2)).2.2))]
    ·rw[ih (i+2) (KH (Cw s.1 l[i],s.2.1,s.2.2)) (by omega) (by omega) (by omega),hd,List.drop_eq_nil_of_le (by omega)];cases n<;>simp[Gu]
    ·unfold BL;dsimp only;rw[if_pos (by simp; omega),if_pos (by simp; omega),hx,Ab,add01_eq,Ab,Ab,hw,if_neg (by simp; omega),Ab,mix02_eq,Ab];simp only[hw2]
  ·have:l.drop i=[]:=List.drop_eq_nil_of_le (by omega);refine A2 ?_;unfold BL;rw[if_neg (by simp; omega),this]; simp[Gu]
theorem psumL_len: ∀(n k:Nat) (l:List UInt64) (s:UInt64×UInt64×UInt64),l.length≤n→l.length≤k→Gu n l s=Gu k l s:=by
 intro n;induction n with
 |zero=>intro k l s h _; have:l=[]:=List.eq_nil_of_length_eq_zero (by omega); subst this; simp[Gu]
 |succ n ih=>
  intro k l s h hk;match l,k,h,hk with
  | [],k,_,_=>cases k<;>simp[Gu]
  | [x],k+1,_,_=>simp[Gu]
  |x::y::l,k+1,h,hk=>simp only[Gu]; exact ih k l _ (by simp at h; omega) (by simp at hk; omega)
theorem sum02_eq (b:List UInt8)(hb:b.length≤900000):HP b=some (AbN b):=by
 have hl:=WS b.length b;unfold HP;rw[of01_eq b hb,Ab];have hk:AbN b=((Vz (pof b.length b) (0,0,toU (b.length:Int))).1,(Vz (pof b.length b) (0,0,toU (b.length:Int))).2.1):=rfl;rw[hk];clear hk;generalize pof b.length b=l at*;have h:iter (BL l) (l.length+2) (0,0,0,toU (b.length:Int))=some (Vz l (0,0,toU (b.length:Int))):=by
  match l,hl with
  | [],hl=>
   rw[show([]:List UInt64).length+2=1+1 from rfl,AB (s':=(((2:Nat):Int),(KH (0,0,toU (b.length:Int))).1,(KH (0,0,toU (b.length:Int))).2.1,(KH (0,0,toU (b.length:Int))).2.2))]
   ·exact A2 rfl
   ·unfold BL;dsimp only;rw[if_pos (by simp),if_neg (by simp),Ab,if_neg (by rw[Cc (by omega) (by omega)]; simp),Ab,mix02_eq,Ab]; rfl
  | [x],hl=>
   rw[show [x].length+2=2+1 from rfl,AB (s':=(((2:Nat):Int),(KH (Cw 0 x,0,toU (b.length:Int))).1,(KH (Cw 0 x,0,toU (b.length:Int))).2.1,(KH (Cw 0 x,0,toU (b.length:Int))).2.2))]
   ·exact A2 rfl
   ·have e:idx [x] 0=some x:=rfl;unfold BL;dsimp only;rw[if_pos (by simp),if_pos (by simp),e,Ab,add01_eq,Ab,Ab,if_neg (by rw[Cc (by omega) (by omega)]; simp),Ab,mix02_eq,Ab]; rfl
  |x::y::l,hl=>
   rw[AB (s':=(((2:Nat):Int),(KH (Cw 0 x,Cw 0 y,toU (b.length:Int))).1,(KH (Cw 0 x,Cw 0 y,toU (b.length:Int))).2.1,(KH (Cw 0 x,Cw 0 y,toU (b.length:Int))).2.2))]
   ·rw[sum02_it (x::y::l) (by simp at hl⊢; omega) _ 2 _ (by simp) (by omega) (by omega)];refine congrArg some ?_;simp only[List.drop_succ_cons,List.drop_zero,Vz,List.length_cons,Gu];exact psumL_len _ _ _ _ (by omega) (by omega)
   ·have e:idx (x::y::l) 0=some x:=rfl;have e1:idx (x::y::l) (w64 (0+1))=some y:=rfl;unfold BL;dsimp only;rw[if_pos (by simp),if_pos (by simp; omega),e,Ab,add01_eq,Ab,Ab,if_pos (by rw[show w64 (0+1)=1 from rfl]; simp; omega),e1,Ab,add01_eq,Ab,Ab,mix02_eq,Ab]; rfl
 rw[Dg _ h (by omega),Ab,Ab]
theorem eight_it (n:UInt64): ∀(k:Nat) (b:List UInt8),k≤8→b.length+k≤1000000→iter (C0 n) (k+1) (b,(k:Int)-1)=some (b++LY k n):=by
 intro k;induction k with
 |zero=>intro b _ _; refine A2 ?_; unfold C0; rw[if_neg (by simp)]; simp[LY]
 |succ k ih=>
  intro b hk hb;have hw:w64 (8*(((k+1:Nat):Int)-1))=((8*k:Nat):Int):=by rw[Cc (by omega) (by omega)]; omega
  have hw2:w64 ((((k+1:Nat):Int)-1)-1)=(k:Int)-1:=by rw[Cc (by omega) (by omega)]; omega
  rw[AB (s':=(b++[toB ((CZ n (8*k)).toNat:Int)],(k:Int)-1))]
  ·rw[ih _ (by omega) (by simp; omega)]; simp[LY]
  ·unfold C0;dsimp only;rw[hw,hw2,toU_toNat (by omega),if_pos (decide_eq_true (by omega)),LB 1 (by simp; omega) (by simp; omega),Ab]
theorem eight_eq (n:UInt64):FO n=some (LY 8 n):=by
 have h:=Dg _ (eight_it n 8 [] (by omega) (by simp)) (by omega);unfold FO;rw[show(7:Int)=((8:Nat):Int)-1 from rfl,h,Ab,Ab]; rfl
theorem coded_it (ps:List (List UInt8)): ∀(n i:Nat) (b:List UInt8),i+n=ps.length→i≤1000000→ps.length≤1000000→b.length+WT (ps.drop i)≤800000→iter (C1 ps) (n+1) (b,(i:Int))=some (Vj b (ps.drop i)):=by
 intro n;induction n with
 |zero=>
  intro i b h _ _ _;have:ps.drop i=[]:=List.drop_eq_nil_of_le (by omega);refine A2 ?_;unfold C1;rw[if_neg (by simp; omega),this]; rfl
 |succ n ih=>
  intro i b h hi hps hb;have hlt:i<ps.length:=by omega
  have hx:idx ps (i:Int)=some ps[i]:=JY (by simp[hlt]);have hd:ps.drop i=ps[i]::ps.drop (i+1):=List.drop_eq_getElem_cons hlt;have hw:w64 ((i:Int)+1)=((i+1:Nat):Int):=by rw[Cc (by omega) (by omega)]; omega
  rw[hd]at hb⊢;simp only[WT]at hb;have hc:cut (LY 8 (toU (ps[i].length:Int))) 4 ((LY 8 (toU (ps[i].length:Int))).length:Int)=some (LY 4 (toU (ps[i].length:Int))):=by
   rw[EE];have:=Se (xs:=LY 8 (toU (ps[i].length:Int))) (lo:=4) (hi:=8) (by omega) (by rw[EE]; omega);rw[show((4:Nat):Int)=4 from rfl]at this;rw[this]; rfl
  rw[AB (s':=(b++LY 4 (toU (ps[i].length:Int))++ps[i],((i+1:Nat):Int)))]
  ·rw[ih (i+1) _ (by omega) (by omega) hps (by simp[EE]; omega)]; rfl
  ·unfold C1;dsimp only;rw[if_pos (by simp; omega),hx,Ab,eight_eq,Ab,hc,Ab,LB 1 (by simp[EE]; omega) (by simp[EE]; omega),Ab,Ab,LB 1 (by simp[EE]; omega) (by simp[EE]; omega),Ab];simp only[hw]
theorem tagged02_eq (t:ByteArray)(ps:List (List UInt8))(h:t.data.toList.length+WT ps≤700000)(hp:ps.length≤1000000):E0 t ps=some (ptag t ps):=by
 have hc:=coded_it ps ps.length 0 (toB (t.size:Int)::t.data.toList) (by omega) (by omega) hp (by simp at h⊢; omega);have hc':=Dg _ hc (by omega);unfold E0 Hl;rw[LB 1 (by simp at h⊢; omega) (by simp at h⊢; omega),Ab];rw[show((0:Int))=((0:Nat):Int)from rfl];rw[show [toB (t.size:Int)]++t.data.toList=toB (t.size:Int)::t.data.toList from rfl,hc',Ab,Ab,Ab];rw[sum02_eq _ (by rw[RK]; simp at h⊢; omega),Ab];rfl
end Go.Proofs.YtbajlmaijjcbmaaGreatDoor
end
section
namespace Go.Gw
open Go
theorem w64_sucN {i:Nat}(h:i<9223372036854775807):w64 ((i:Int)+1)=((i+1:Nat):Int):=by rw[Cc (by omega) (by omega)]; omega
end Go.Gw
end
section
namespace Go.Proofs.YtbajlmaijjcbmaaGreatDoor
open Go Go.Gw Go.Ax
theorem plus_nat {a b m:UInt64}(hm:m.toNat≤4611686018427387904)(ha:a.toNat<m.toNat)(hb:b.toNat<m.toNat):
  (if(decide ((a.toNat:Int)≥((m-b).toNat:Int)))=true then some (a-(m-b))else some (a+b))=some (ZN m a b):=by
 have h1:(m-b).toNat=m.toNat-b.toNat:=by rw[UInt64.toNat_sub_of_le]; exact UInt64.le_iff_toNat_le.2 (Nat.le_of_lt hb)
 by_cases h:m.toNat-b.toNat≤a.toNat
 ·have h2:(a-(m-b)).toNat=a.toNat-(m.toNat-b.toNat):=by rw[UInt64.toNat_sub_of_le,h1]; exact UInt64.le_iff_toNat_le.2 (by omega)
  rw[if_pos (by rw[h1]; simpa using h)];congr 1;refine of_nat ?_;rw[h2,show a.toNat+b.toNat=(a.toNat-(m.toNat-b.toNat))+m.toNat from by omega,Nat.add_mod_right,Nat.mod_eq_of_lt (by omega)]
 ·rw[if_neg (by rw[h1]; simpa using h)];congr 1;refine of_nat ?_;rw[UInt64.toNat_add,Nat.mod_eq_of_lt (by omega),Nat.mod_eq_of_lt (by omega)]
theorem sum03_eq {a b m:UInt64}(hm:m.toNat≤4611686018427387904)(ha:a.toNat<m.toNat)(hb:b.toNat<m.toNat):HO a b m=some (ZN m a b):=plus_nat hm ha hb
theorem plus02_eq {a b m:UInt64}(hm:m.toNat≤4611686018427387904)(ha:a.toNat<m.toNat)(hb:b.toNat<m.toNat):G1 a b m=some (ZN m a b):=plus_nat hm ha hb
theorem addM_nat' {y:UInt64}(h:0<y.toNat)(a b:UInt64):(ZN y a b).toNat=(a.toNat+b.toNat)%y.toNat:=ofN_mod _ h
theorem bit1 (x:UInt64){i:Nat}(hi:i≤63):((((CZ x ((toU (i:Int)).toNat))&&&1).toNat:Int)==1)=decide (x.toNat/2^i%2=1):=by
 rw[toU_toNat (by omega),UInt64.toNat_and,shrU_toNat _ _ (by omega),show(1:UInt64).toNat=1 from rfl,Nat.and_one_is_mod,Bool.eq_iff_iff,beq_iff_eq,decide_eq_true_eq];omega
theorem div_two (n i:Nat):n/2^i=2*(n/2^ (i+1))+n/2^i%2:=by
 rw[Nat.pow_succ,←Nat.div_div_eq_div_mul];omega
theorem times_mod {A B C m r:Nat}(hr:r=A*B%m):(r+r)%m=A*(2*B)%m:=by
 rw[hr,←Nat.add_mod,←Nat.two_mul,Nat.mul_left_comm]
theorem times_it (a b:UInt64){m:UInt64}(hp:0<m.toNat)(hm:m.toNat≤4611686018427387904): ∀(j:Nat) (out:UInt64),j≤64→out.toNat=(a.toNat%m.toNat)*((b.toNat%m.toNat)/2^j)%m.toNat→
  ∃r,iter (Ce a b m) (j+1) (out,(j:Int)-1)=some r∧r.toNat=(a.toNat%m.toNat)*(b.toNat%m.toNat)%m.toNat:=by
 intro j;induction j with
 |zero=>
  intro out _ ho;refine⟨out,A2 ?_,by rw[ho,Nat.pow_zero,Nat.div_one]⟩;unfold Ce;rw[if_neg (by simp)]
 |succ j ih=>
  intro out hj ho;have ham:(a%m).toNat=a.toNat%m.toNat:=UInt64.toNat_mod _ _;have hbm:(b%m).toNat=b.toNat%m.toNat:=UInt64.toNat_mod _ _;have hol:out.toNat<m.toNat:=by rw[ho]; exact Nat.mod_lt _ hp
  have hdl:(ZN m out out).toNat<m.toNat:=by rw[addM_nat' hp]; exact Nat.mod_lt _ hp
  have hd:(ZN m out out).toNat=(a.toNat%m.toNat)*(2*((b.toNat%m.toNat)/2^ (j+1)))%m.toNat:=by
   rw[addM_nat' hp]; exact times_mod (C:=0) ho
  have hw:(((j+1:Nat):Int)-1)=(j:Int):=by omega
  have hw2:w64 ((j:Int)-1)=(j:Int)-1:=Cc (by omega) (by omega);have hst: ∃o,Ce a b m (out,((j+1:Nat):Int)-1)=some (.inl (o,(j:Int)-1))∧o.toNat=(a.toNat%m.toNat)*((b.toNat%m.toNat)/2^j)%m.toNat:=by
   unfold Ce;dsimp only;rw[hw,if_pos (by simp),sum03_eq hm hol hol,Ab,bit1 _ (by omega),hbm,hw2];by_cases hb:(b.toNat%m.toNat)/2^j%2=1
   ·rw[if_pos (by simpa using hb),sum03_eq hm hdl (by rw[ham]; exact Nat.mod_lt _ hp),Ab,Ab];refine⟨_,rfl,?_⟩;rw[addM_nat' hp,hd,ham,Nat.mod_add_mod,div_two _ j,hb,Nat.mul_add,Nat.mul_one]
   ·rw[if_neg (by simpa using hb),Ab];refine⟨_,rfl,?_⟩;have hdt:=div_two (b.toNat%m.toNat) j;rw[show(b.toNat%m.toNat)/2^j%2=0 from by omega,Nat.add_zero]at hdt;rw[hd,hdt]
  obtain⟨o,e1,e2⟩:=hst;obtain⟨r,e3,e4⟩:=ih o (by omega) e2;exact⟨r,by rw[AB e1]; exact e3,e4⟩
theorem times_eq (a b:UInt64){m:UInt64}(hp:0<m.toNat)(hm:m.toNat≤4611686018427387904):DF a b m=some (NU m a b):=by
 have hne:m≠0:=fun e=>by rw[e]at hp; simp at hp
 have hbl:b.toNat%m.toNat<2^64:=Nat.lt_of_lt_of_le (Nat.mod_lt _ hp) (by omega);obtain⟨r,e1,e2⟩:=times_it a b hp hm 64 0 (by omega) (by rw[Nat.div_eq_of_lt hbl,Nat.mul_zero,Nat.zero_mod]; rfl);have e1':iter (Ce a b m) A0 (0,63)=some r:=Dg _ e1 (by omega);unfold DF;rw[if_pos hne,if_pos hne,e1',Ab,Ab];rw[←Nat.mul_mod]at e2;rw[of_nat e2]; rfl
theorem power_it (a n:UInt64){m:UInt64}(hp:0<m.toNat)(hm:m.toNat≤4611686018427387904): ∀(j:Nat) (out:UInt64),j≤64→out.toNat=a.toNat^ (n.toNat/2^j)%m.toNat→
  ∃r,iter (Cg a n m) (j+1) (out,(j:Int)-1)=some r∧r.toNat=a.toNat^n.toNat%m.toNat:=by
 intro j;induction j with
 |zero=>
  intro out _ ho;refine⟨out,A2 ?_,by rw[ho,Nat.pow_zero,Nat.div_one]⟩;unfold Cg;rw[if_neg (by simp)]
 |succ j ih=>
  intro out hj ho;have hd:(NU m out out).toNat=a.toNat^ (2*(n.toNat/2^ (j+1)))%m.toNat:=by
   have:(NU m out out).toNat=(out.toNat*out.toNat)%m.toNat:=ofN_mod _ hp;rw[this,ho,←Nat.mul_mod,←Nat.pow_add,←Nat.two_mul]
  have hw:(((j+1:Nat):Int)-1)=(j:Int):=by omega
  have hw2:w64 ((j:Int)-1)=(j:Int)-1:=Cc (by omega) (by omega);have hst: ∃o,Cg a n m (out,((j+1:Nat):Int)-1)=some (.inl (o,(j:Int)-1))∧o.toNat=a.toNat^ (n.toNat/2^j)%m.toNat:=by
   unfold Cg;dsimp only;rw[hw,if_pos (by simp),times_eq _ _ hp hm,Ab,bit1 _ (by omega),hw2];by_cases hb:n.toNat/2^j%2=1
   ·rw[if_pos (by simpa using hb),times_eq _ _ hp hm,Ab,Ab];refine⟨_,rfl,?_⟩;have:(NU m (NU m out out) a).toNat=((NU m out out).toNat*a.toNat)%m.toNat:=ofN_mod _ hp;have hdt:=div_two n.toNat j;rw[hb]at hdt;rw[this,hd,Nat.mod_mul_mod,←Nat.pow_succ,hdt]
   ·rw[if_neg (by simpa using hb),Ab];have hdt:=div_two n.toNat j;rw[show n.toNat/2^j%2=0 from by omega,Nat.add_zero]at hdt;refine⟨_,rfl,?_⟩;rw[hd,hdt]
  obtain⟨o,e1,e2⟩:=hst;obtain⟨r,e3,e4⟩:=ih o (by omega) e2;exact⟨r,by rw[AB e1]; exact e3,e4⟩
theorem power03_eq (a n:UInt64){m:UInt64}(hp:1<m.toNat)(hm:m.toNat≤4611686018427387904):DG a n m=some (MX m a n):=by
 have hnl:n.toNat<2^64:=n.toNat_lt;obtain⟨r,e1,e2⟩:=power_it a n (by omega) hm 64 1 (by omega) (by rw[Nat.div_eq_of_lt hnl,Nat.pow_zero,Nat.mod_eq_of_lt hp]; rfl);have e1':iter (Cg a n m) A0 (1,63)=some r:=Dg _ e1 (by omega);unfold DG;rw[e1',Ab,Ab,of_nat e2]; rfl
theorem base03_eq (n:UInt64):Ep n=some (pubK n):=by
 unfold Ep;rw[power03_eq _ _ (by decide) (by decide),Ab]; rfl
theorem num02_it (s:UInt64){m:UInt64}(hp:0<m.toNat)(hm:m.toNat≤4611686018427387904): ∀(k i:Nat) (x:UInt64),i+k=61→x.toNat=s.toNat*2^i%m.toNat→∃r,iter (Df m) (k+1) (x,(i:Int))=some r∧r.toNat=s.toNat*2^61%m.toNat:=by
 intro k;induction k with
 |zero=>
  intro i x hi hx;obtain rfl:i=61:=by omega
  exact⟨x,A2 (by unfold Df; rw[if_neg (by simp)]),hx⟩
 |succ k ih=>
  intro i x hi hx;have hxl:x.toNat<m.toNat:=by rw[hx]; exact Nat.mod_lt _ hp
  have hn:(ZN m x x).toNat=s.toNat*2^ (i+1)%m.toNat:=by
   rw[addM_nat' hp,hx,←Nat.add_mod,←Nat.two_mul,Nat.mul_left_comm,Nat.pow_succ,Nat.mul_comm 2]
  obtain⟨r,e1,e2⟩:=ih (i+1) _ (by omega) hn;refine⟨r,?_,e2⟩;rw[AB (s':=(ZN m x x,((i+1:Nat):Int)))]
  ·exact e1
  ·unfold Df;dsimp only;rw[if_pos (by simp; omega),plus02_eq hm hxl hxl,Ab,w64_sucN (by omega)]
theorem num02_eq {y:UInt64}(h:Dv y)(hm:y.toNat≤4611686018427387904)(s:UInt64×UInt64):HQ s y=some (numM s y):=by
 have hp:=h.pos;have hne:y≠0:=fun e=>by rw[e]at hp; simp at hp
 obtain⟨r,e1,e2⟩:=num02_it s.1 hp hm 61 0 (s.1%y) (by omega) (by rw[UInt64.toNat_mod,Nat.pow_zero,Nat.mul_one]);have e1':iter (Df y) A0 (s.1%y,0)=some r:=Dg _ e1 (by omega);have hr:r.toNat<y.toNat:=by rw[e2]; exact Nat.mod_lt _ hp
 have h2:(s.2%y).toNat=s.2.toNat%y.toNat:=UInt64.toNat_mod _ _;unfold HQ;rw[if_neg (by rw[beq_iff_eq]; omega),if_pos hne,e1',Ab,Ab,if_pos hne,plus02_eq hm hr (by rw[h2]; exact Nat.mod_lt _ hp),Ab];congr 1;refine of_nat ?_;rw[addM_nat' hp,h2,e2,←Nat.add_mod]
end Go.Proofs.YtbajlmaijjcbmaaGreatDoor
end
section
namespace Go.Proofs.YtbajlmaijjcbmaaGreatDoor
open Go Go.Gw Go.Ax
theorem toB_mod {a b:Int}(h:a%256=b%256):toB a=toB b:=by unfold toB; rw[h]
theorem div_256 (n:UInt64):(n/256).toNat=n.toNat/256:=by rw[UInt64.toNat_div]; rfl
theorem eight04_it (n:UInt64):iter DR 9 (n,7,List.replicate 8 (0:UInt8))=some [toB ((n/256/256/256/256/256/256/256%256).toNat:Int),toB ((n/256/256/256/256/256/256%256).toNat:Int),toB ((n/256/256/256/256/256%256).toNat:Int),toB ((n/256/256/256/256%256).toNat:Int),toB ((n/256/256/256%256).toNat:Int),toB ((n/256/256%256).toNat:Int),toB ((n/256%256).toNat:Int),toB ((n%256).toNat:Int)]:=by
 simp[iter,DR,idx,CI,w64,List.replicate]
theorem eight04_eq (n:UInt64):DE n=some (LY 8 n):=by
 have h:=Dg _ (eight04_it n) (by omega);unfold DE;rw[h,Ab,Ab];simp only[LY];congr 1;have key: ∀(k:Nat) (x:UInt64),k≤56→x.toNat=n.toNat/2^k→toB ((x%256).toNat:Int)=toB ((CZ n k).toNat:Int):=by
  intro k x hk hx;refine toB_mod ?_;rw[shrU_toNat _ _ (by omega),UInt64.toNat_mod,hx,show(256:UInt64).toNat=256 from rfl];omega
 rw[key 56 _ (by omega) (by simp only[div_256,Nat.div_div_eq_div_mul]),key 48 _ (by omega) (by simp only[div_256,Nat.div_div_eq_div_mul]),key 40 _ (by omega) (by simp only[div_256,Nat.div_div_eq_div_mul]),key 32 _ (by omega) (by simp only[div_256,Nat.div_div_eq_div_mul]),key 24 _ (by omega) (by simp only[div_256,Nat.div_div_eq_div_mul]),key 16 _ (by omega) (by simp only[div_256,Nat.div_div_eq_div_mul]),key 8 _ (by omega) (by simp only[div_256,Nat.div_div_eq_div_mul]),key 0 _ (by omega) (by simp)]
theorem challenge04_eq (c p:UInt64){msg:List UInt8}(h:msg.length≤600000):Cn c p msg=some (chal c p msg):=by
 unfold Cn;rw[eight04_eq,Ab,eight04_eq,Ab,tagged02_eq _ _ (by simp[WT,EE]; omega) (by simp),Ab,num02_eq dvR (by decide),Ab]; rfl
end Go.Proofs.YtbajlmaijjcbmaaGreatDoor
end
section
namespace Go.Proofs.YtbajlmaijjcbmaaGreatDoor
open Go Go.Gw Go.Ax
theorem inv_uniq {z e f:Nat}(h1:z*e%GQ=1)(h2:e*f%GQ=1):z%GQ=f%GQ:=by
 have h3:z*(e*f%GQ)%GQ=z%GQ:=by rw[h2,Nat.mul_one]
 have h4:z*e%GQ*f%GQ=f%GQ:=by rw[h1,Nat.one_mul]
 rw[Nat.mul_mod_mod,←Nat.mul_assoc]at h3;rw[Nat.mod_mul_mod]at h4;rw[←h3,h4]
theorem refRest (p:UInt64){msg:List UInt8}(s:g_api_Sig)(hm:msg.length≤600000):
  (Ac (Ep s.S) fun x2=>Ac (Gz p (1152921504606845789-s.E)) fun x3=>Ac (GA x2 x3) fun x4=>Ac (Cn x4 p msg) fun x5=>if((x5.toNat:Int) !=(s.E.toNat:Int))=true then some (40:Int)else some 0)
   =if(((chal (NU 2305843009213691579 (pubK s.S) (MX 2305843009213691579 p (1152921504606845789-s.E))) p msg).toNat:Int) !=(s.E.toNat:Int))=true then some 40 else some 0:=by
 unfold Gz GA;rw[base03_eq,Ab,power03_eq _ _ (by decide) (by decide),Ab,Ab,times_eq _ _ (by decide) (by decide),Ab,Ab,challenge04_eq _ _ hm,Ab]
theorem progRest (p z:UInt64){msg:List UInt8}(s:g_api_Sig)(hm:msg.length≤600000)(hz:Db (MX 2305843009213691579 p s.E)=some (z,0)):
  (Ac (CN p s.E) fun x2=>Ac (Db x2) fun x3=>Ac (gu (!(x3.2 !=0)) (CF s.S)) fun x4=>Ac (gu (!(x3.2 !=0)) (Ft x4 x3.1)) fun x5=>Ac (gu (!(x3.2 !=0)) (Cd x5 p msg)) fun x6=>
   if((x3.2 !=0)||((x6.toNat:Int) !=(s.E.toNat:Int)))=true then some (40:Int)else some 0)
   =if(((chal (NU 2305843009213691579 (pubK s.S) z) p msg).toNat:Int) !=(s.E.toNat:Int))=true then some 40 else some 0:=by
 have e1:((z,(0:Int)).2 !=0)=false:=rfl;unfold Ft;rw[pow_eq,Ab,hz,Ab,e1,Bool.not_false,gu_tt,base_eq,Ab,gu_tt,ringMul_eq dvQ,Ab,Ab,gu_tt];dsimp only;rw[show MX 2305843009213691579 4 s.S=pubK s.S from rfl,chal_eq _ _ hm,Ab,Bool.false_or]
theorem mul_same {p z:UInt64}{e:Nat}(x:UInt64){E:UInt64}(hpow:p.toNat^gr%GQ=1)(hE:E.toNat≤gr)(hsub:(1152921504606845789-E:UInt64).toNat=gr-E.toNat)(hz:z.toNat*(MX 2305843009213691579 p E).toNat%GQ=1):
  NU 2305843009213691579 x (MX 2305843009213691579 p (1152921504606845789-E))=NU 2305843009213691579 x z:=by
 have hinv:(MX 2305843009213691579 p E).toNat*p.toNat^ (gr-E.toNat)%GQ=1:=by
  rw[powQ_nat]; exact inv_law (k:=0) hpow hE
 have hzf:=inv_uniq hz hinv;refine u_ext ?_;rw[mulM_nat dvQ,mulM_nat dvQ,show(2305843009213691579:UInt64).toNat=GQ from rfl,powQ_nat,hsub,Nat.mul_mod_mod,Nat.mul_mod,←hzf,←Nat.mul_mod]
theorem inv_of {p E:UInt64}(hpow:p.toNat^gr%GQ=1)(hE:E.toNat≤gr): ∃z:UInt64,Db (MX 2305843009213691579 p E)=some (z,0)∧z.toNat*(MX 2305843009213691579 p E).toNat%GQ=1:=by
 have hinv:(MX 2305843009213691579 p E).toNat*p.toNat^ (gr-E.toNat)%GQ=1:=by
  rw[powQ_nat]; exact inv_law (k:=0) hpow hE
 exact inv_eq hinv
theorem sub_gr {E:UInt64}(hE:E.toNat<1152921504606845789):(1152921504606845789-E:UInt64).toNat=gr-E.toNat:=by
 rw[UInt64.toNat_sub_of_le _ _ (UInt64.le_iff_toNat_le.2 (Nat.le_of_lt hE)),show(1152921504606845789:UInt64).toNat=gr from rfl]
theorem le_gr {E:UInt64}(hE:E.toNat<1152921504606845789):E.toNat≤gr:=Nat.le_of_lt hE
theorem max_ge {a b:UInt64}:decide (((NW a b).toNat:Int)≥1152921504606845789)=(decide ((a.toNat:Int)≥1152921504606845789)||decide ((b.toNat:Int)≥1152921504606845789)):=by
 rw[Bool.eq_iff_iff,Bool.or_eq_true,decide_eq_true_eq,decide_eq_true_eq,decide_eq_true_eq];unfold NW;split
 ·rename_i hlt;have:=UInt64.lt_iff_toNat_lt.1 hlt;omega
 ·rename_i hlt;have:=mt UInt64.lt_iff_toNat_lt.2 hlt;omega
theorem pow_one {p:UInt64}(h:((MX 2305843009213691579 p 1152921504606845789).toNat:Int)=1):p.toNat^gr%GQ=1:=by
 have h1:=powQ_nat p 1152921504606845789;rw[show(1152921504606845789:UInt64).toNat=gr from rfl]at h1;rw[←h1];exact Int.ofNat.inj h
theorem both_lt {a b:UInt64}(h:(decide ((a.toNat:Int)≥1152921504606845789)||decide ((b.toNat:Int)≥1152921504606845789))=false):a.toNat<1152921504606845789:=by
 rw[Bool.or_eq_false_iff,decide_eq_false_iff_not]at h;have:=h.1;omega
theorem rest_same {p:UInt64}{msg:List UInt8}(s:g_api_Sig)(hm:msg.length≤600000)(h1:((MX 2305843009213691579 p 1152921504606845789).toNat:Int)=1)(hE:s.E.toNat<1152921504606845789):
  (Ac (Ep s.S) fun x2=>Ac (Gz p (1152921504606845789-s.E)) fun x3=>Ac (GA x2 x3) fun x4=>Ac (Cn x4 p msg) fun x5=>if((x5.toNat:Int) !=(s.E.toNat:Int))=true then some (40:Int)else some 0)
   =(Ac (CN p s.E) fun x2=>Ac (Db x2) fun x3=>Ac (gu (!(x3.2 !=0)) (CF s.S)) fun x4=>Ac (gu (!(x3.2 !=0)) (Ft x4 x3.1)) fun x5=>Ac (gu (!(x3.2 !=0)) (Cd x5 p msg)) fun x6=>
   if((x3.2 !=0)||((x6.toNat:Int) !=(s.E.toNat:Int)))=true then some (40:Int)else some 0):=by
 obtain⟨z,z1,z2⟩:=inv_of (pow_one h1) (le_gr hE);rw[refRest p s hm,progRest p z s hm z1,mul_same (e:=0) _ (pow_one h1) (le_gr hE) (sub_gr hE) z2]
theorem inP_eq (p:UInt64):HX p=some (((decide ((p.toNat:Int)>0))&&(decide ((p.toNat:Int)<2305843009213691579)))&&(((MX 2305843009213691579 p 1152921504606845789).toNat:Int)==1)):=by
 unfold HX;cases (decide ((p.toNat:Int)>0))&&(decide ((p.toNat:Int)<2305843009213691579))
 ·simp only[gu,cond_false,Ab,CI,Bool.false_and]
 ·simp only[gu,cond_true,pow_eq,Ab,CI,Bool.true_and]
theorem in03_eq (p:UInt64):II p=some (((decide ((p.toNat:Int)>0))&&(decide ((p.toNat:Int)<2305843009213691579)))&&(((MX 2305843009213691579 p 1152921504606845789).toNat:Int)==1)):=by
 unfold II;cases (decide ((p.toNat:Int)>0))&&(decide ((p.toNat:Int)<2305843009213691579))
 ·simp only[gu,cond_false,Ab,CI,Bool.false_and]
 ·rw[power03_eq _ _ (by decide) (by decide)]; simp only[gu,cond_true,Ab,CI,Bool.true_and]
theorem in_one {p:UInt64}(h:(((decide ((p.toNat:Int)>0))&&(decide ((p.toNat:Int)<2305843009213691579)))&&(((MX 2305843009213691579 p 1152921504606845789).toNat:Int)==1))=true):((MX 2305843009213691579 p 1152921504606845789).toNat:Int)=1:=by
 rw[Bool.and_eq_true]at h;exact beq_iff_eq.1 h.2
theorem check04_eq (p:UInt64){msg:List UInt8}(s:g_api_Sig)(hm:msg.length≤600000):FN p msg s=Eh p msg s:=by
 unfold FN Eh;rw[inP_eq,in03_eq,Ab,Ab,max_ge];cases h1:((decide ((p.toNat:Int)>0))&&(decide ((p.toNat:Int)<2305843009213691579)))&&(((MX 2305843009213691579 p 1152921504606845789).toNat:Int)==1)with
 |false=>rw[Bool.not_false,if_pos rfl,if_pos rfl]
 |true=>
  rw[Bool.not_true,if_neg Bool.false_ne_true,if_neg Bool.false_ne_true];cases h2:(decide ((s.E.toNat:Int)≥1152921504606845789)||decide ((s.S.toNat:Int)≥1152921504606845789))with
  |true=>rw[if_pos rfl,if_pos rfl]
  |false=>rw[if_neg Bool.false_ne_true,if_neg Bool.false_ne_true,rest_same s hm (in_one h1) (both_lt h2)]
theorem check_tot (p:UInt64){msg:List UInt8}(s:g_api_Sig)(hm:msg.length≤600000): ∃e,Eh p msg s=some e:=by
 unfold Eh;rw[inP_eq,Ab,max_ge];cases h1:((decide ((p.toNat:Int)>0))&&(decide ((p.toNat:Int)<2305843009213691579)))&&(((MX 2305843009213691579 p 1152921504606845789).toNat:Int)==1)with
 |false=>rw[Bool.not_false,if_pos rfl]; exact⟨_,rfl⟩
 |true=>
  rw[Bool.not_true,if_neg Bool.false_ne_true];cases h2:(decide ((s.E.toNat:Int)≥1152921504606845789)||decide ((s.S.toNat:Int)≥1152921504606845789))with
  |true=>rw[if_pos rfl]; exact⟨_,rfl⟩
  |false=>
   rw[if_neg Bool.false_ne_true];obtain⟨z,z1,z2⟩:=inv_of (pow_one (in_one h1)) (le_gr (both_lt h2));rw[progRest p z s hm z1];split<;>exact⟨_,rfl⟩
end Go.Proofs.YtbajlmaijjcbmaaGreatDoor
end
section
namespace Go.Proofs.YtbajlmaijjcbmaaGreatDoor
open Go Go.Gw Go.Ax
theorem live19_true:Ih=some true:=by kernel_rfl
end Go.Proofs.YtbajlmaijjcbmaaGreatDoor
end
section
namespace Go.Proofs.YtbajlmaijjcbmaaGreatDoor
open Go Go.Gw Go.Ax
theorem few_loop {l:List g_api_Cert}{k:Nat}(hk:k≤1000): ∀(r:List g_api_Cert) (i n:Nat),l.drop i=r→i≤k→k-i<n→
  ∃t,iter (BY l (k:Int)) n (i:Int)=some t∧((t= .inl ()∧∀c∈r.take (k-i),FewP c)∨t= .inr false)
 |r,i,0,_,_,h=>by omega
 | [],i,n+1,h,hi,hn=>by
  have hl:l.length≤i:=List.drop_eq_nil_iff.1 h;have e:BY l (k:Int) (i:Int)=some (.inr (.inl ())):=by
   unfold BY; rw[decide_eq_false (by omega)]; rfl
  exact⟨.inl (),A2 e,.inl ⟨rfl,by simp⟩⟩
 |c::r,i,n+1,h,hi,hn=>by
  obtain⟨hc,hr,hlt⟩:=Fk h;by_cases hik:i=k
  ·have e:BY l (k:Int) (i:Int)=some (.inr (.inl ())):=by
    unfold BY; rw[decide_eq_true (by omega),decide_eq_false (by omega)]; rfl
   exact⟨.inl (),A2 e,.inl ⟨rfl,by rw[hik]; simp⟩⟩
  obtain⟨f,hf⟩:=Ace c;have e:BY l (k:Int) (i:Int)=some (if f=true then .inl ((i+1:Nat):Int)else .inr (.inr false)):=by
   unfold BY;rw[decide_eq_true (by omega),decide_eq_true (by omega),Bool.and_self,if_pos rfl,CG hc,Ab,hf,Ab,FD (by omega)];cases f<;>rfl
  cases f with
  |false=>exact⟨.inr false,A2 e,.inr rfl⟩
  |true=>
   obtain⟨t,ht,hq⟩:=few_loop hk r (i+1) n hr (by omega) (by omega);refine⟨t,(AB e).trans ht,?_⟩;rcases hq with ⟨h1,h2⟩|h1
   ·refine .inl ⟨h1,?_⟩;have:k-i=(k-(i+1))+1:=by omega
    rw[this,List.take_succ_cons];intro x hx;rcases List.mem_cons.1 hx with rfl|hx
    ·exact few_ok hf
    ·exact h2 x hx
   ·exact .inr h1
theorem few19 (l:List g_api_Cert)(k:Nat)(hk:k≤1000): ∃b,Ei l (k:Int)=some b∧(b=true→l.length≤k∧∀c∈l,FewP c):=by
 unfold Ei;obtain⟨t,ht,hq⟩:=few_loop (l:=l) hk l 0 A0 rfl (Nat.zero_le _) (by unfold A0; omega);have ht:iter (BY l (k:Int)) A0 0=some t:=ht;rw[ht,Ab];rcases hq with ⟨rfl,h⟩|rfl
 ·refine⟨decide ((l.length:Int)≤(k:Int)),rfl,fun hb=> ?_⟩;have hb:=of_decide_eq_true hb;refine⟨by omega,fun c hc=>h c ?_⟩;rw[List.take_of_length_le (by omega)]; exact hc
 ·exact⟨false,rfl,fun h=>by cases h⟩
theorem few_law (l r:List g_api_Cert)(s:ByteArray): ∃b,HV l r s=some b∧(b=true→l.length≤5∧(∀c∈l,FewP c)∧r.length≤6∧(∀c∈r,FewP c)∧s.size≤200):=by
 unfold HV;obtain⟨a,ha,h1⟩:=few19 l 5 (by decide);obtain⟨b,hb,h2⟩:=few19 r 6 (by decide);have ha:Ei l 5=some a:=ha;have hb:Ei r 6=some b:=hb;rw[ha,Ab,hb,Ab];refine⟨(a&&b)&&decide ((s.size:Int)≤200),rfl,fun h=> ?_⟩;simp only[Bool.and_eq_true,decide_eq_true_eq]at h;obtain⟨⟨ha1,hb1⟩,hs⟩:=h;exact⟨(h1 ha1).1,(h1 ha1).2,(h2 hb1).1,(h2 hb1).2,by omega⟩
theorem eqS_sym (a b:ByteArray):eqS a b=eqS b a:=by rw[Bool.eq_iff_iff,KM,KM]; exact eq_comm
theorem body18_ok {c:g_api_Cert}(P:FewP c)(h0:J3 c=0):GY c=some (Pl c,0):=by
 have K:=okc h0;have hl:(putB 8 (KQ c)).length≤2048:=QQ K;unfold GY;rw[Sk (XA P K.form),Ab];unfold Hk;rw[Mi P,Ab,h0,if_neg (by decide),US (UD c 4) (V5 P 5) (by omega),Sq (by omega),if_pos (Aak (by decide) (Us K)),if_pos (by omega)];rfl
theorem link_eq {a0 a1:g_api_Cert}(h0:FewP a0)(h1:FewP a1): ∃e,CR a0 a1=some e∧GV a0 a1=some e:=by
 unfold CR GV;rw[Mi h0,Ab,Mi h1,Ab];simp only[Fw,GO,Sh,Ab];by_cases z0:J3 a0=0
 ·rw[z0];by_cases z1:J3 a1=0
  ·rw[z1,eqS_sym a0.Issuer a1.Subject];have B:=ZI (okc z0);have B':=body18_ok h0 z0;obtain⟨e,he⟩:=check_tot a1.Key a0.Sig (show(Pl a0).length≤600000 by have:=QQ (okc z0); omega);have he':=(check04_eq a1.Key a0.Sig (show(Pl a0).length≤600000 by have:=QQ (okc z0); omega)).trans he;rw[B,B'];simp only[Ab,he,he'];simp;split
   ·exact⟨_,rfl⟩
   ·split<;>exact⟨_,rfl⟩
  ·simp[z1]
 ·simp[z0]
theorem links_true (a0 a1:g_api_Cert):Dp a0 a1=some true:=by
 unfold Dp;rw[live19_true,Ab,if_neg (by decide)];obtain⟨b,hb,h⟩:=few_law [a0,a1] [] ⟨#[]⟩;rw[hb,Ab];cases b with
 |false=>rfl
 |true=>
  obtain⟨_,hl,_⟩:=h rfl;obtain⟨e,e1,e2⟩:=link_eq (hl a0 (by simp)) (hl a1 (by simp));rw[if_neg (by decide),gu_tt,gu_tt,e1,e2,Ab,Ab];simp
end Go.Proofs.YtbajlmaijjcbmaaGreatDoor
end
section
namespace Go.Proofs.YtbajlmaijjcbmaaGreatDoor.lawPathLinks
open Go Go.Gw Go.ChangeShapes Go.WideShapes Go.ChangeAt Go.RowKit
theorem own:ownKnob Tryz.prog.godebug=none:=by kernel_rfl
theorem tab_ir:Ir Tryz.prog 180 (.agg [.agg [.lit (.int .i64 1),.held [103,114,101,97,116,115,101,97,108,47,100,101,114,46,107,105,110,100,115,36,49]],.agg [.lit (.int .i64 2),.held [103,114,101,97,116,115,101,97,108,47,100,101,114,46,108,101,97,115,116]],.agg [.lit (.int .i64 4),.held [103,114,101,97,116,115,101,97,108,47,100,101,114,46,107,105,110,100,115,36,50]],.agg [.lit (.int .i64 12),.held [103,114,101,97,116,115,101,97,108,47,100,101,114,46,107,105,110,100,115,36,51]],.agg [.lit (.int .i64 48),.held [103,114,101,97,116,115,101,97,108,47,100,101,114,46,107,105,110,100,115,36,52]]]) [[.int .i64 1,.func (.func 252) #[] #[]],[.int .i64 2,.func (.func 157) #[] #[]],[.int .i64 4,.func (.func 253) #[] #[]],[.int .i64 12,.func (.func 254) #[] #[]],[.int .i64 48,.func (.func 257) #[] #[]]].flatten:=
 Ir.arr (n:=5) (k:=2) Tryz.underlying180 (by kernel_rfl) (by kernel_rfl) rfl rfl fun i d c h1 h2=>by
  match i,h1,h2 with
  |0,h1,h2=>cases h1; cases h2; exact Ir.pair Tryz.underlying146 rfl rfl rfl (by kernel_rfl) rfl rfl (by kernel_rfl) (by kernel_rfl) (Ir.int Tryz.underlying3) (Ir.fn Tryz.underlying144 Tryz.func252 (by kernel_rfl) (by kernel_rfl))
  |1,h1,h2=>cases h1; cases h2; exact Ir.pair Tryz.underlying146 rfl rfl rfl (by kernel_rfl) rfl rfl (by kernel_rfl) (by kernel_rfl) (Ir.int Tryz.underlying3) (Ir.fn Tryz.underlying144 Tryz.func157 (by kernel_rfl) (by kernel_rfl))
  |2,h1,h2=>cases h1; cases h2; exact Ir.pair Tryz.underlying146 rfl rfl rfl (by kernel_rfl) rfl rfl (by kernel_rfl) (by kernel_rfl) (Ir.int Tryz.underlying3) (Ir.fn Tryz.underlying144 Tryz.func253 (by kernel_rfl) (by kernel_rfl))
  |3,h1,h2=>cases h1; cases h2; exact Ir.pair Tryz.underlying146 rfl rfl rfl (by kernel_rfl) rfl rfl (by kernel_rfl) (by kernel_rfl) (Ir.int Tryz.underlying3) (Ir.fn Tryz.underlying144 Tryz.func254 (by kernel_rfl) (by kernel_rfl))
  |4,h1,h2=>cases h1; cases h2; exact Ir.pair Tryz.underlying146 rfl rfl rfl (by kernel_rfl) rfl rfl (by kernel_rfl) (by kernel_rfl) (Ir.int Tryz.underlying3) (Ir.fn Tryz.underlying144 Tryz.func257 (by kernel_rfl) (by kernel_rfl))
  |n+5,h1,h2=>cases h1
theorem gB {W:World}(h:laidMetH Tryz.prog Rows.pathLinksRow.laid W):GB (memOf W):=fun p hp=>by
 obtain rfl:=List.mem_singleton.1 hp;exact gb_of (name:= "greatseal/der.kinds") (by kernel_rfl) (by kernel_rfl) (laidMetH.funcs h (d:= .agg [.agg [.lit (.int .i64 1),.iface "func" (.lit (.string [103,114,101,97,116,115,101,97,108,47,100,101,114,46,107,105,110,100,115,36,49]))],.agg [.lit (.int .i64 2),.iface "func" (.lit (.string [103,114,101,97,116,115,101,97,108,47,100,101,114,46,108,101,97,115,116]))],.agg [.lit (.int .i64 4),.iface "func" (.lit (.string [103,114,101,97,116,115,101,97,108,47,100,101,114,46,107,105,110,100,115,36,50]))],.agg [.lit (.int .i64 12),.iface "func" (.lit (.string [103,114,101,97,116,115,101,97,108,47,100,101,114,46,107,105,110,100,115,36,51]))],.agg [.lit (.int .i64 48),.iface "func" (.lit (.string [103,114,101,97,116,115,101,97,108,47,100,101,114,46,107,105,110,100,115,36,52]))]]) (List.Mem.tail _ (List.Mem.head _))) tab_ir
theorem rd3:Rd Tryz.prog 3 (Int):=Rd.int Tryz.underlying3
theorem rd9:Rd Tryz.prog 9 (ByteArray):=Rd.str Tryz.underlying9
theorem rd22:Rd Tryz.prog 22 (UInt64):=Rd.u64 Tryz.underlying22
theorem rd23:Rd Tryz.prog 23 (List ByteArray):=Rd.slice Tryz.underlying23 rd9 (by kernel_rfl) (by decide)
theorem rd4:Rd Tryz.prog 4 (Bool):=Rd.bool Tryz.underlying4
theorem rd84:Rd Tryz.prog 84 (UInt64×UInt64):=Rd.arr2 Tryz.underlying84 rd22 (by kernel_rfl) (by kernel_rfl)
theorem rd26:Rd Tryz.prog 26 (g_api_Sig):=Rd.struct Tryz.underlying26 (Na.more rfl rd22 (by kernel_rfl) (Na.last rfl rd22 (by kernel_rfl))) (by kernel_rfl) (fun b=>⟨b.1,b.2⟩) (fun h=>h)
theorem rd86:Rd Tryz.prog 86 (g_api_Promise):=Rd.struct Tryz.underlying86 (Na.more rfl rd3 (by kernel_rfl) (Na.more rfl rd3 (by kernel_rfl) (Na.more rfl rd84 (by kernel_rfl) (Na.last rfl rd26 (by kernel_rfl))))) (by kernel_rfl) (fun b=>⟨b.1,b.2.1,b.2.2.1,b.2.2.2⟩) (fun h=>h)
theorem rd24:Rd Tryz.prog 24 (List g_api_Promise):=Rd.slice Tryz.underlying24 rd86 (by kernel_rfl) (by decide)
theorem rd28:Rd Tryz.prog 28 (g_api_Cert):=Rd.struct Tryz.underlying28 (Na.more rfl rd3 (by kernel_rfl) (Na.more rfl rd9 (by kernel_rfl) (Na.more rfl rd9 (by kernel_rfl) (Na.more rfl rd22 (by kernel_rfl) (Na.more rfl rd23 (by kernel_rfl) (Na.more rfl rd3 (by kernel_rfl) (Na.more rfl rd3 (by kernel_rfl) (Na.more rfl rd4 (by kernel_rfl) (Na.more rfl rd3 (by kernel_rfl) (Na.more rfl rd23 (by kernel_rfl) (Na.more rfl rd24 (by kernel_rfl) (Na.last rfl rd26 (by kernel_rfl))))))))))))) (by kernel_rfl) (fun b=>⟨b.1,b.2.1,b.2.2.1,b.2.2.2.1,b.2.2.2.2.1,b.2.2.2.2.2.1,b.2.2.2.2.2.2.1,b.2.2.2.2.2.2.2.1,b.2.2.2.2.2.2.2.2.1,b.2.2.2.2.2.2.2.2.2.1,b.2.2.2.2.2.2.2.2.2.2.1,b.2.2.2.2.2.2.2.2.2.2.2⟩) (fun h=>h)
theorem rp_g_api_Cert {m:Mem}{cs:List Value}{x:g_api_Cert}(h:GoT.rep m cs x): ∃v1,∃v2,∃v3,cs=[vI x.Serial,vS x.Issuer,vS x.Subject,vU x.Key,v1,vI x.From,vI x.Until,vb x.Ca,vI x.Depth,v2,v3,vU x.Sig.E,vU x.Sig.S]∧SlR m v1 x.Names∧SlR m v2 x.Permit∧SlR m v3 x.Proms:=by
 obtain⟨_,_,rfl,rfl,⟨_,_,rfl,rfl,⟨_,_,rfl,rfl,⟨_,_,rfl,rfl,⟨_,_,rfl,⟨v1,rfl,h1⟩,⟨_,_,rfl,rfl,⟨_,_,rfl,rfl,⟨_,_,rfl,rfl,⟨_,_,rfl,rfl,⟨_,_,rfl,⟨v2,rfl,h2⟩,⟨_,_,rfl,⟨v3,rfl,h3⟩,⟨_,_,rfl,rfl,rfl⟩⟩⟩⟩⟩⟩⟩⟩⟩⟩⟩⟩:=h;exact⟨v1,v2,v3,rfl,h1,h2,h3⟩
theorem contract (H:Type)(enc:TypeId×Value→H)(W:World)(base:Nat)(args:Array Value)(ds gs:List (DataW H))(before:List MemPlace)
  (hval: ∀(j:Nat) t v,Tryz.f3.params[j]? =some t→args[j]? =some v→Value.okWide Tryz.prog W .any base t v)
  (hW:DataW.Whole enc Tryz.prog Tryz.f3.params.toList Rows.pathLinksSpec.vars false W args.toList ds gs before) (hL:laidMetH Tryz.prog Rows.pathLinksRow.laid W):
  Calls Tryz.prog 3 args W fun e W'=> ∃v,e= .returned v∧Rows.pathLinksSpec.post enc Tryz.prog Tryz.f3 false true false false W args v W':=by
 have hW':=hW;obtain⟨p,q,hA0,hV,rfl,hfz,hnd⟩:=hW;obtain⟨rfl,rfl⟩:=trodVars_none hV;rw[List.append_nil]at hW';have hA:DataW.TrodAll enc Tryz.prog W 0 (fun _=>true) true Tryz.f3.params.toList args.toList ds p:=hA0;have hA1:=hA;have hpl:Tryz.f3.params.toList=[28,28]:=by rw[Tryz.params3]
 rw[hpl]at hA1;obtain⟨v0,w0,d0,e0,p0,q0,ha0,he0,hp0,h0,r0⟩:=trodAll_cons hA1;obtain⟨v1,w1,d1,e1,p1,q1,ha1,he1,hp1,h1,r1⟩:=trodAll_cons r0;obtain⟨z1,z2,z3⟩:=trodAll_nil r1;obtain rfl:args= #[v0,v1]:=by
  apply Array.ext'; rw[ha0,ha1,z1]
 obtain rfl:ds=[d0,d1]:=by rw[he0,he1,z2]
 rw[Tryz.params3]at hval;obtain⟨c0,rfl,_⟩:=okWide_struct Tryz.underlying28 (hval 0 28 v0 rfl rfl);obtain⟨a0,s0⟩:=rd28.openA h0;obtain⟨z0_0,z0_1,z0_2,o0,y0_0,y0_1,y0_2⟩:=rp_g_api_Cert s0;obtain rfl:=AaO o0;obtain⟨c1,rfl,_⟩:=okWide_struct Tryz.underlying28 (hval 1 28 v1 rfl rfl);obtain⟨a1,s1⟩:=rd28.openA h1;obtain⟨z1_0,z1_1,z1_2,o1,y1_0,y1_1,y1_2⟩:=rp_g_api_Cert s1;obtain rfl:=AaO o1;have hc:=LP (St.of W (gB hL)) y0_0 y0_1 y0_2 y1_0 y1_1 y1_2 (links_true a0 a1);refine Calls.mono hc ?_;rintro e W' ⟨v,rfl,hk,M,hle,S,rfl⟩;refine⟨.bool true,rfl,WR (tb:=4) (by kernel_rfl) (by kernel_rfl) rfl (by kernel_rfl) Tryz.underlying4 hW' hA rfl rfl rfl hle S hk⟩
noncomputable def N3 (os:Os):World:=
 {World.holding Tryz.prog os ⟨#[], #[],[]⟩with heap:=((((World.holding Tryz.prog os ⟨#[], #[],[]⟩).heap.modify 5 fun| .cells _ t fr=> .cells #[.int .u8 128,.int .u8 191,.int .u8 160,.int .u8 191,.int .u8 128,.int .u8 159,.int .u8 144,.int .u8 191,.int .u8 128,.int .u8 143,.int .u8 0,.int .u8 0,.int .u8 0,.int .u8 0,.int .u8 0,.int .u8 0,.int .u8 0,.int .u8 0,.int .u8 0,.int .u8 0,.int .u8 0,.int .u8 0,.int .u8 0,.int .u8 0,.int .u8 0,.int .u8 0,.int .u8 0,.int .u8 0,.int .u8 0,.int .u8 0,.int .u8 0,.int .u8 0] t fr|o=>o).modify 0 fun| .cells _ t fr=> .cells [[.int .i64 1,.func (.func 252) #[] #[]],[.int .i64 2,.func (.func 157) #[] #[]],[.int .i64 4,.func (.func 253) #[] #[]],[.int .i64 12,.func (.func 254) #[] #[]],[.int .i64 48,.func (.func 257) #[] #[]]].flatten.toArray t fr|o=>o).modify 4 fun| .cells _ t fr=> .cells ((List.replicate 128 240++List.replicate 66 241++List.replicate 30 2++[19]++List.replicate 12 3++[35,3,3,52,4,4,4,68]++List.replicate 11 241:List Int).map fun n=>Value.int .u8 n).toArray t fr|o=>o)}
theorem laid_met (os:Os):laidMetH Tryz.prog Rows.pathLinksRow.laid ((N3 os).forCall (fun _ _=>0) ⟨#[], #[(.agg #[.int .i64 0,.string ⟨#[]⟩,.string ⟨#[]⟩,.int .u64 0,.slice none 0 0,.int .i64 0,.int .i64 0,.bool false,.int .i64 0,.slice none 0 0,.slice none 0 0,.int .u64 0,.int .u64 0]:Value),(.agg #[.int .i64 0,.string ⟨#[]⟩,.string ⟨#[]⟩,.int .u64 0,.slice none 0 0,.int .i64 0,.int .i64 0,.bool false,.int .i64 0,.slice none 0 0,.slice none 0 0,.int .u64 0,.int .u64 0]:Value)],[]⟩).memory:=
 laidMetH_of_parts3 (fuel:=8) (laidMet_of_run' 8 (by kernel_rfl) (by kernel_rfl)) (by kernel_rfl) (by kernel_rfl)
theorem reads (os:Os){H:Type}(enc:TypeId×Value→H): ∃places,DataW.whole enc Tryz.prog ((N3 os).forCall (fun _ _=>0) ⟨#[], #[(.agg #[.int .i64 0,.string ⟨#[]⟩,.string ⟨#[]⟩,.int .u64 0,.slice none 0 0,.int .i64 0,.int .i64 0,.bool false,.int .i64 0,.slice none 0 0,.slice none 0 0,.int .u64 0,.int .u64 0]:Value),(.agg #[.int .i64 0,.string ⟨#[]⟩,.string ⟨#[]⟩,.int .u64 0,.slice none 0 0,.int .i64 0,.int .i64 0,.bool false,.int .i64 0,.slice none 0 0,.slice none 0 0,.int .u64 0,.int .u64 0]:Value)],[]⟩).memory Tryz.f3.params.toList Rows.pathLinksSpec.vars false #[(.agg #[.int .i64 0,.string ⟨#[]⟩,.string ⟨#[]⟩,.int .u64 0,.slice none 0 0,.int .i64 0,.int .i64 0,.bool false,.int .i64 0,.slice none 0 0,.slice none 0 0,.int .u64 0,.int .u64 0]:Value),(.agg #[.int .i64 0,.string ⟨#[]⟩,.string ⟨#[]⟩,.int .u64 0,.slice none 0 0,.int .i64 0,.int .i64 0,.bool false,.int .i64 0,.slice none 0 0,.slice none 0 0,.int .u64 0,.int .u64 0]:Value)].toList 8=some ([.agg [.lit (.int .i64 0),.lit (.string []),.lit (.string []),.lit (.int .u64 0),.nil,.lit (.int .i64 0),.lit (.int .i64 0),.lit (.bool false),.lit (.int .i64 0),.nil,.nil,.agg [.lit (.int .u64 0),.lit (.int .u64 0)]],.agg [.lit (.int .i64 0),.lit (.string []),.lit (.string []),.lit (.int .u64 0),.nil,.lit (.int .i64 0),.lit (.int .i64 0),.lit (.bool false),.lit (.int .i64 0),.nil,.nil,.agg [.lit (.int .u64 0),.lit (.int .u64 0)]]],[],places):=
 ⟨[],by kernel_rfl⟩
theorem lifted (os:Os)(started:os.Started)(H:Type)(enc:TypeId×Value→H)(F:Stop.Interp):
  ReturnsInHanded {} Tryz.checked os 3 .any ((OpenSpec.ofChange Rows.pathLinksSpec).preRow enc Tryz.prog Tryz.f3 Rows.pathLinksRow.domain false Rows.pathLinksRow.laid) (((OpenSpec.ofChange Rows.pathLinksSpec).at F).post enc Tryz.prog Tryz.f3 false true false false):=by
 obtain⟨places,hx⟩:=reads os enc;refine returnsInHanded_of_row (C:=Tryz.checked) (s:=OpenSpec.ofChange Rows.pathLinksSpec) own started (by kernel_rfl) Tryz.func3
  (witness_row_at (enc:=enc) (C:=Tryz.checked) false (N3 os) #[(.agg #[.int .i64 0,.string ⟨#[]⟩,.string ⟨#[]⟩,.int .u64 0,.slice none 0 0,.int .i64 0,.int .i64 0,.bool false,.int .i64 0,.slice none 0 0,.slice none 0 0,.int .u64 0,.int .u64 0]:Value),(.agg #[.int .i64 0,.string ⟨#[]⟩,.string ⟨#[]⟩,.int .u64 0,.slice none 0 0,.int .i64 0,.int .i64 0,.bool false,.int .i64 0,.slice none 0 0,.slice none 0 0,.int .u64 0,.int .u64 0]:Value)] rfl (by kernel_rfl) (by kernel_rfl) (by kernel_rfl)
   (OpenSpec.preRow_of_cond 8 hx (by kernel_rfl) (fun k hk=>by cases hk) (by kernel_rfl) (laid_met os))) ?_
 intro W base args ds gs before hval hW _ _ _ hL _ _;exact contract H enc W base args ds gs before hval hW hL
theorem j0:laidOutB Tryz.prog=true:=by kernel_rfl
theorem j1:mapsRowed Tryz.prog=true:=by kernel_rfl
theorem j2:(Rows.pathLinksRow.inPlace==Tryz.prog.inPlace 3)=true:=by kernel_rfl
theorem j3:(Rows.pathLinksRow.unfollowed==Tryz.prog.unfollowed 3)=true:=by kernel_rfl
theorem j4:(Rows.pathLinksRow.recurses==Tryz.prog.recurses 3)=true:=by kernel_rfl
theorem j5:(Rows.pathLinksRow.named==Tryz.prog.varsNamed 3)=true:=by kernel_rfl
theorem joined:joinedFacts Tryz.prog 3 Tryz.f3 (OpenSpec.ofChange Rows.pathLinksSpec).bare Rows.pathLinksRow=true:=by
 unfold joinedFacts;rw[j0,j1,j2,j3,j4,j5];kernel_rfl
theorem s1:Tryz.pinned.checked.prog.funcNamed Rows.pathLinksRow.func=some 3:=by kernel_rfl
theorem s2:Tryz.f3.isInstance Tryz.pinned.checked.prog Rows.pathLinksRow.origin Rows.pathLinksRow.targs:=of_decide_eq_true (by kernel_rfl)
theorem s3:Tryz.f3.isWrapper Tryz.pinned.checked.prog Rows.pathLinksRow.wrapper Rows.pathLinksRow.mainSum:=by unfold Func.isWrapper; first|(rw[if_pos (by decide+kernel)]; kernel_rfl)|(rw[if_neg (by decide+kernel)]; exact⟨rfl,rfl⟩)
theorem s4:joinedFacts Tryz.pinned.checked.prog 3 Tryz.f3 (OpenSpec.ofChange Rows.pathLinksSpec).bare Rows.pathLinksRow=true:=joined
theorem s5 (os:Os)(started:os.Started)(H:Type)(enc:TypeId×Value→H)(F:Stop.Interp):ReturnsInHanded Rows.pathLinksRow.assume Tryz.pinned.checked os 3 .any (Rows.pathLinksRow.pre enc Tryz.pinned.checked.prog Tryz.f3 (OpenSpec.ofChange Rows.pathLinksSpec)) (((OpenSpec.ofChange Rows.pathLinksSpec).at F).post enc Tryz.pinned.checked.prog Tryz.f3 Rows.pathLinksRow.apart Rows.pathLinksRow.fresh Rows.pathLinksRow.handsOn Rows.pathLinksRow.again):=by rw[OpenClaim.pre_eq_preRow]; exact lifted os started H enc F
theorem said:Rows.PathLinksSaid:=
 OpenClaim.holds_of_cond 3 Tryz.f3 rfl rfl rfl rfl rfl rfl rfl ⟨rfl,rfl,rfl,rfl,rfl⟩ rfl rfl rfl rfl rfl s1 Tryz.func3 s4 s2 s3 (fun os started H enc _ F=>s5 os started H enc F)
theorem plain (f:FuncId)(fn:Func)(hf:Tryz.pinned.checked.prog.funcNamed "greatseal/greatseallaw19.PathLinks" =some f)(hfn:Tryz.pinned.checked.prog.funcs[f]? =some fn):
  false=Tryz.pinned.checked.prog.looks []∧∀(j:Nat) t,fn.params[j]? =some t→Tryz.pinned.checked.prog.wantsStandIn t=false:=by
 obtain rfl:f=3:=Option.some.inj ((show Tryz.prog.funcNamed "greatseal/greatseallaw19.PathLinks" =some 3 by kernel_rfl).symm.trans hf)|>.symm;obtain rfl:fn=Tryz.f3:=(Option.some.inj (Tryz.func3.symm.trans hfn)).symm;refine⟨by kernel_rfl,fun j t ht=> ?_⟩;rw[Tryz.params3]at ht;have hm:t∈[28,28]:=by simpa using Array.mem_of_getElem? ht
 have hall:([28,28].all fun u=> !Tryz.prog.wantsStandIn u)=true:=by kernel_rfl
 exact(show Tryz.prog.wantsStandIn t=false by simpa using List.all_eq_true.1 hall t hm)
theorem card:Rows.PathLinksCardSaid:=
 Claim7.holds_tied_plain_at .later [] _ _ _ _ said (fun _ h=>by cases h) (by kernel_rfl) (fun _ h=>by cases h) pathLinks_row_tie rfl ⟨rfl,rfl⟩ (by kernel_rfl) rfl plain (by kernel_rfl)
end Go.Proofs.YtbajlmaijjcbmaaGreatDoor.lawPathLinks
end
