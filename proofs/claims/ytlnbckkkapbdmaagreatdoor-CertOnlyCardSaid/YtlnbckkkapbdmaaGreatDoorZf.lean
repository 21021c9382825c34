/- The walks of some functions, by the executor, written by program. Conditions: none. -/
import Derived.Test.YtlnbckkkapbdmaaGreatDoorZe
set_option linter.unusedSimpArgs false
set_option linter.unusedVariables false
set_option maxHeartbeats 20000000
set_option maxRecDepth 100000
namespace Go.Proofs.YtlnbckkkapbdmaaGreatDoor
open Go Go.Gw Go.Ax Tryz
theorem sI0 {α : Type} {a b : α} (h : some a = some b) : a = b:= Option.some.inj h
theorem oY0 {α β : Type} {x : Option α} {k : α → Option β} {r : β} (h : obind x k = some r) : ∃ a,x = some a ∧ k a = some r:= obind_some h
theorem oZ0 {α β : Type} (a : α) (k : α → Option β) : obind (some a) k = k a:= rfl
def m_der_kinds_1 (a0 : List UInt8) : Option Bool :=
 obind (gu ((a0.length : Int) == 1) (idx a0 0)) fun x1 =>
 obind (gu (((a0.length : Int) == 1) && (!((x1.toNat : Int) == 0))) (idx a0 0)) fun x2 =>
 bnd ((((a0.length : Int) == 1) && (((x1.toNat : Int) == 0) || ((x2.toNat : Int) == 255)))) fun x3 =>
 some x3
theorem w_der_kinds_1 {a0 : List UInt8} {r : Bool} (hm : m_der_kinds_1 a0 = some r) : Sf prog 228 [sl eB a0] (.d (.t r)) :=
 sp call228 func228 rfl ntmps228 rfl fun D0 As η0 m0 hd=> by
  unfold m_der_kinds_1 at hm
  obtain ⟨x1,q1,hm⟩:= oY0 hm
  refine gidxG (k:= 1) (E:= eB) (fun _=> rfl) (fun h=> gu_t h q1) (by kernel_rfl) ?_
  obtain ⟨x2,q2,hm⟩:= oY0 hm
  refine gidxG (k:= 1) (E:= eB) (fun _=> rfl) (fun h=> gu_t h q2) (by kernel_rfl) ?_
  have hm:= bnd_is hm
  let x3 : Bool:= ((((a0.length : Int) == 1) && (((x1.toNat : Int) == 0) || ((x2.toNat : Int) == 255))))
  have e0:= sI0 hm
  subst e0
  exact gend hd (by kernel_rfl)
def m_der_least (a0 : List UInt8) : Option Bool :=
 if ((a0.length : Int) == 0) = true then
  some false
 else
 if ((a0.length : Int) == 1) = true then
  some true
 else
 obind (idx a0 1) fun x1 =>
 obind (gu (decide ((a0.length : Int) ≤ 8)) (idx a0 0)) fun x2 =>
 bnd (((decide ((a0.length : Int) ≤ 8)) && ((x2.toNat : Int) != ((toB (-((shrB x1 7).toNat : Int))).toNat : Int)))) fun x3 =>
 some x3
theorem w_der_least {a0 : List UInt8} {r : Bool} (hm : m_der_least a0 = some r) : Sf prog 128 [sl eB a0] (.d (.t r)) :=
 sp call128 func128 rfl ntmps128 rfl fun D0 As η0 m0 hd=> by
  unfold m_der_least at hm
  refine gi hm (by kernel_rfl) (fun hc1 hm=> ?_) fun hc1 hm=> ?_
  ·skip
   have e0:= sI0 hm
   subst e0
   exact gend hd (by kernel_rfl)
  refine gi hm (by kernel_rfl) (fun hc2 hm=> ?_) fun hc2 hm=> ?_
  ·skip
   have e0:= sI0 hm
   subst e0
   exact gend hd (by kernel_rfl)
  obtain ⟨x1,q1,hm⟩:= oY0 hm
  refine gidx (k:= 1) (E:= eB) (fun _=> rfl) (fun _=> q1) (by kernel_rfl) ?_
  obtain ⟨x2,q2,hm⟩:= oY0 hm
  refine gidxG (k:= 1) (E:= eB) (fun _=> rfl) (fun h=> gu_t h q2) (by kernel_rfl) ?_
  have hm:= bnd_is hm
  let x3 : Bool:= (((decide ((a0.length : Int) ≤ 8)) && ((x2.toNat : Int) != ((toB (-((shrB x1 7).toNat : Int))).toNat : Int))))
  have e0:= sI0 hm
  subst e0
  exact gend hd (by kernel_rfl)
theorem v_der_least {m : Mem} {As : List Ow} {w : World} {a0 : List UInt8} {a0v0 : Value} {r : Bool} (S : St m As w) (a0h0 : SlR m a0v0 a0) (hm : m_der_least a0 = some r) :
  CallsR prog 128 #[a0v0] w fun v w'=> ∃ (M : Mem),m ≤ M ∧ St M (As) w' ∧ v = vb r:= by
 refine CallsR.mono ((w_der_least hm).2 none0 m As w [a0v0] (.cons (.d (Br.toS Br.b a0h0)) .nil) (fun n h=> absurd rfl h) S) ?_
 rintro v w' ⟨M,η',r',obs',n1,hle,_,⟨rfl,rfl,rfl⟩,hdom,hR,S'⟩
 obtain rfl:= hR.t_inv
 exact ⟨M,hle,S',rfl⟩
def m_der_kinds_2 (a0 : List UInt8) : Option Bool :=
 some true
theorem w_der_kinds_2 {a0 : List UInt8} {r : Bool} (hm : m_der_kinds_2 a0 = some r) : Sf prog 229 [sl eB a0] (.d (.t r)) :=
 sp call229 func229 rfl ntmps229 rfl fun D0 As η0 m0 hd=> by
  unfold m_der_kinds_2 at hm
  have e0:= sI0 hm
  subst e0
  exact gend hd (by kernel_rfl)
def m_der_kinds_3_1 (a0 : UInt8) : Option Bool :=
 bnd (((decide ((a0.toNat : Int) < 32)) || (decide ((a0.toNat : Int) > 126)))) fun x1 =>
 some x1
theorem w_der_kinds_3_1 {a0 : UInt8} {r : Bool} (hm : m_der_kinds_3_1 a0 = some r) : Sf prog 232 [.d (.b a0)] (.d (.t r)) :=
 sp call232 func232 rfl ntmps232 rfl fun D0 As η0 m0 hd=> by
  unfold m_der_kinds_3_1 at hm
  have hm:= bnd_is hm
  let x1 : Bool:= (((decide ((a0.toNat : Int) < 32)) || (decide ((a0.toNat : Int) > 126))))
  have e0:= sI0 hm
  subst e0
  exact gend hd (by kernel_rfl)
def m_slices_IndexFunc_byte_byte_232x_b1 (a0 : List UInt8) (i1 : Int) (s1 : Unit) : Option ((Unit) ⊕ Int) :=
 obind (idx a0 (i1 : Int)) fun x3 =>
 obind (m_der_kinds_3_1 x3) fun x4 =>
 if x4 = true then
  some (.inr (i1 : Int))
 else
 some (.inl ())
def m_slices_IndexFunc_byte_byte_232x (a0 : List UInt8) : Option Int :=
 obind (eachN (m_slices_IndexFunc_byte_byte_232x_b1 a0) a0.length 0 ()) fun x1=> match x1 with
 | .inr r=> some r
 | .inl y1 =>
 some (-1)
theorem w_slices_IndexFunc_byte_byte_232x {a0 : List UInt8} {r : Int} (hm : m_slices_IndexFunc_byte_byte_232x a0 = some r) : Sf prog 234 [sl eB a0,.fn (.func 232) [] []] (.d (.i r)) :=
 sp call234 func234 rfl ntmps234 rfl fun D0 As η0 m0 hd=> by
  unfold m_slices_IndexFunc_byte_byte_232x at hm
  obtain ⟨x1,q1,hm⟩:= oY0 hm
  refine glen 0 (E:= eB) (xs:= a0) 6 (by kernel_rfl) fun hle1=> ?_
  refine gjU 0 (fun (y1 : Unit)=> ⟨[],[],[],0⟩) (fun y1=> x1 = .inl y1) (by kernel_rfl) (fun Jp bk1=> ?_) fun y1 hy=> ?_
  ·refine gl hd (fun (p : Int × (Unit))=> let (p0,_):= p; ⟨[(0,sl eB a0),(1,.fn (.func 232) [] []),(7,.d (.i (a0.length : Int))),(8,.d (.i p0))],[],[],0⟩) (fun p=> ∃ i : Nat,p.1 = (i : Int) ∧ i ≤ a0.length ∧ eachN (m_slices_IndexFunc_byte_byte_232x_b1 a0) (a0.length - i) (i : Int) p.2 = some x1) (fun p=> a0.length - p.1.toNat) (0,()) ⟨0,rfl,Nat.zero_le _,q1⟩ (by kernel_rfl) ?_
   rintro ⟨_,s1⟩ ⟨i1,rfl,hi,q2⟩ Jl bl1
   refine gi' (b:= decide ((i1 : Int) < (a0.length : Int))) (by kernel_rfl) (fun hc2=> ?_) fun hc2=> ?_
   ·have hlt1 : i1 < a0.length:= by have:= of_decide_eq_true hc2; omega
    obtain ⟨y2,q4,q3⟩:= eachN_in q2 hlt1
    unfold m_slices_IndexFunc_byte_byte_232x_b1 at q4
    obtain ⟨x3,q6,q4⟩:= oY0 q4
    refine gidx (k:= 1) (E:= eB) (fun _=> rfl) (fun _=> q6) (by kernel_rfl) ?_
    obtain ⟨x4,q7,q4⟩:= oY0 q4
    refine gc (fun _=> w_der_kinds_3_1 q7) (by kernel_rfl) ?_
    refine gi q4 (by kernel_rfl) (fun hc1 q4=> ?_) fun hc1 q4=> ?_
    ·skip
     cases q4
     rcases q3 with ⟨sn,e,_⟩ | ⟨tn,e,e2⟩
     ·cases e
     cases e
     cases e2
     dsimp only at hm
     have e0:= sI0 hm
     subst e0
     exact gend hd (by kernel_rfl)
    have e0:= sI0 q4
    subst e0
    rcases q3 with ⟨sn,e,q3'⟩ | ⟨tn,e,_⟩
    ·have e:= Sum.inl.inj e
     subst e
     exact gb bl1 hd (w64 ((i1 : Int) + 1),_) ⟨⟨i1 + 1,w64_succ hlt1 hle1,by omega,q3'⟩,mu_lt hlt1 hle1⟩ (by kernel_rfl)
    cases sum_lr e
   have hlt1 : ¬ i1 < a0.length:= by have:= of_decide_eq_false hc2; omega
   have e:= eachN_out q2 hlt1
   cases e
   exact gb bk1 hd _ rfl (by kernel_rfl)
  subst hy
  dsimp only at hm
  have e0:= sI0 hm
  subst e0
  exact gend hd (by kernel_rfl)
def m_slices_ContainsFunc_byte_byte_232x (a0 : List UInt8) : Option Bool :=
 obind (m_slices_IndexFunc_byte_byte_232x a0) fun x1 =>
 some (decide (x1 ≥ 0))
theorem w_slices_ContainsFunc_byte_byte_232x {a0 : List UInt8} {r : Bool} (hm : m_slices_ContainsFunc_byte_byte_232x a0 = some r) : Sf prog 231 [sl eB a0,.fn (.func 232) [] []] (.d (.t r)) :=
 sp call231 func231 rfl ntmps231 rfl fun D0 As η0 m0 hd=> by
  unfold m_slices_ContainsFunc_byte_byte_232x at hm
  obtain ⟨x1,q1,hm⟩:= oY0 hm
  refine gc (fun _=> w_slices_IndexFunc_byte_byte_232x q1) (by kernel_rfl) ?_
  have e0:= sI0 hm
  subst e0
  exact gend hd (by kernel_rfl)
def m_der_kinds_3 (a0 : List UInt8) : Option Bool :=
 obind (m_slices_ContainsFunc_byte_byte_232x a0) fun x1 =>
 some (!x1)
theorem w_der_kinds_3 {a0 : List UInt8} {r : Bool} (hm : m_der_kinds_3 a0 = some r) : Sf prog 230 [sl eB a0] (.d (.t r)) :=
 sp call230 func230 rfl ntmps230 rfl fun D0 As η0 m0 hd=> by
  unfold m_der_kinds_3 at hm
  obtain ⟨x1,q1,hm⟩:= oY0 hm
  refine gc (fun _=> w_slices_ContainsFunc_byte_byte_232x q1) (by kernel_rfl) ?_
  have e0:= sI0 hm
  subst e0
  exact gend hd (by kernel_rfl)
def m_der_kinds_4 (a0 : List UInt8) : Option Bool :=
 some ((a0.length : Int) == 0)
theorem w_der_kinds_4 {a0 : List UInt8} {r : Bool} (hm : m_der_kinds_4 a0 = some r) : Sf prog 233 [sl eB a0] (.d (.t r)) :=
 sp call233 func233 rfl ntmps233 rfl fun D0 As η0 m0 hd=> by
  unfold m_der_kinds_4 at hm
  have e0:= sI0 hm
  subst e0
  exact gend hd (by kernel_rfl)
def m_cert_number (a0 : Int) : Option Bool :=
 bnd (((decide (a0 ≥ 0)) && (decide (a0 ≤ 1099511627776)))) fun x1 =>
 some x1
theorem w_cert_number {a0 : Int} {r : Bool} (hm : m_cert_number a0 = some r) : Sf prog 61 [.d (.i a0)] (.d (.t r)) :=
 sp call61 func61 rfl ntmps61 rfl fun D0 As η0 m0 hd=> by
  unfold m_cert_number at hm
  have hm:= bnd_is hm
  let x1 : Bool:= (((decide (a0 ≥ 0)) && (decide (a0 ≤ 1099511627776))))
  have e0:= sI0 hm
  subst e0
  exact gend hd (by kernel_rfl)
def m_cert_signed (a0 : g_api_Sig) : Option Bool :=
 bnd ((decide (((maxU a0.E a0.S).toNat : Int) < 1152921504606845789))) fun x1 =>
 some x1
theorem w_cert_signed {a0 : g_api_Sig} {r : Bool} (hm : m_cert_signed a0 = some r) : Sf prog 63 [ag (e_api_Sig a0)] (.d (.t r)) :=
 sp call63 func63 rfl ntmps63 rfl fun D0 As η0 m0 hd=> by
  unfold m_cert_signed at hm
  have hm:= bnd_is hm
  let x1 : Bool:= ((decide (((maxU a0.E a0.S).toNat : Int) < 1152921504606845789)))
  have e0:= sI0 hm
  subst e0
  exact gend hd (by kernel_rfl)
def m_slices_Max_uint64_uint64_b1 (a0 : List UInt64) (s1 : UInt64 × Int) : Option ((UInt64 × Int) ⊕ (UInt64)) :=
 if (decide (s1.2 < (a0.length : Int))) = true then
  obind (idx a0 s1.2) fun x6 =>
  some (.inl ((maxU s1.1 x6),(w64 (s1.2 + 1))))
 else
 some (.inr s1.1)
def m_slices_Max_uint64_uint64 (a0 : List UInt64) : Option UInt64 :=
 obind (
  if (decide ((a0.length : Int) < 1)) = true then
   none
  else
  some ()
 ) fun x1 =>
 obind (idx a0 0) fun x2 =>
 obind (
  obind (iter (m_slices_Max_uint64_uint64_b1 a0) FUEL (x2,1)) fun x4 =>
  some x4
 ) fun x3 =>
 some x3
theorem w_slices_Max_uint64_uint64 {a0 : List UInt64} {r : UInt64} (hm : m_slices_Max_uint64_uint64 a0 = some r) : Sf prog 111 [sl eU a0] (.d (.u r)) :=
 sp call111 func111 rfl ntmps111 rfl fun D0 As η0 m0 hd=> by
  unfold m_slices_Max_uint64_uint64 at hm
  obtain ⟨x1,q1,hm⟩:= oY0 hm
  refine gj (fun (_ : Unit)=> ⟨[(0,sl eU a0)],[],[],0⟩) (fun _=> True) (by kernel_rfl) (fun Jp bk1=> ?_) fun _ _=> ?_
  ·refine gi q1 (by kernel_rfl) (fun hc1 q1=> ?_) fun hc1 q1=> ?_
   ·cases q1
   have e0:= sI0 q1
   subst e0
   exact gb bk1 hd () trivial (by kernel_rfl)
  obtain ⟨x2,q2,hm⟩:= oY0 hm
  refine gidx (k:= 1) (E:= eU) (fun _=> rfl) (fun _=> q2) (by kernel_rfl) ?_
  obtain ⟨x3,q3,hm⟩:= oY0 hm
  obtain ⟨x4,q4,q3⟩:= oY0 q3
  refine gjU 0 (fun (_ : Unit)=> ⟨[(3,.d (.u x3))],[],[],0⟩) (fun _=> True) (by kernel_rfl) (fun Jp bk2=> ?_) fun _ _=> ?_
  ·refine gjU 0 (fun (_ : Unit)=> ⟨[(3,.d (.u x4))],[],[],0⟩) (fun _=> True) (by kernel_rfl) (fun Jp bk3=> ?_) fun _ _=> ?_
   ·refine gl hd (fun (p : Nat × (UInt64 × Int))=> let (p0,p_0,p_1):= p; ⟨[(0,sl eU a0),(3,.d (.u p_0)),(4,.d (.i p_1))],[],[],0⟩) (fun p=> iter (m_slices_Max_uint64_uint64_b1 a0) p.1 p.2 = some x4) (fun p=> p.1) (FUEL,(x2,1)) q4 (by kernel_rfl) ?_
    rintro ⟨n1,s1⟩ q5 Jl bl1
    cases n1 with
    | zero=> exact (iter_zero q5).elim
    | succ n1 =>
     obtain ⟨y1,q7,q6⟩:= iter_succ q5
     unfold m_slices_Max_uint64_uint64_b1 at q7
     refine gi q7 (by kernel_rfl) (fun hc2 q7=> ?_) fun hc2 q7=> ?_
     ·skip
      obtain ⟨x6,q9,q7⟩:= oY0 q7
      refine gidx (k:= 1) (E:= eU) (fun _=> rfl) (fun _=> q9) (by kernel_rfl) ?_
      have e0:= sI0 q7
      subst e0
      rcases q6 with ⟨sn,e,q6'⟩ | e
      ·have e:= Sum.inl.inj e
       subst e
       exact gb bl1 hd (n1,_) ⟨q6',Nat.lt_succ_self _⟩ (by kernel_rfl)
      cases sum_lr e
     have e0:= sI0 q7
     subst e0
     rcases q6 with ⟨sn,e,_⟩ | e
     ·cases sum_rl e
     have e:= Sum.inr.inj e
     subst e
     exact gb bk3 hd () trivial (by kernel_rfl)
   have e0:= sI0 q3
   subst e0
   exact gb bk2 hd () trivial (by kernel_rfl)
  have e0:= sI0 hm
  subst e0
  exact gend hd (by kernel_rfl)
def m_cert_promised (a0 : g_api_Promise) : Option Bool :=
 obind (m_cert_number a0.Log) fun x1 =>
 obind (gu x1 (m_cert_number a0.At)) fun x2 =>
 obind (gu (x1 && x2) (m_slices_Max_uint64_uint64 ([a0.Leaf.1,a0.Leaf.2] : List UInt64))) fun x3 =>
 obind (gu ((x1 && x2) && (decide ((x3.toNat : Int) < 2305843009213693951))) (m_cert_signed a0.Sig)) fun x4 =>
 bnd ((((x1 && x2) && (decide ((x3.toNat : Int) < 2305843009213693951))) && x4)) fun x5 =>
 some x5
theorem w_cert_promised {a0 : g_api_Promise} {r : Bool} (hm : m_cert_promised a0 = some r) : Sf prog 60 [ag (e_api_Promise a0)] (.d (.t r)) :=
 sp call60 func60 rfl ntmps60 rfl fun D0 As η0 m0 hd=> by
  unfold m_cert_promised at hm
  refine gboxF 1 [.i a0.Log,.i a0.At,.u a0.Leaf.1,.u a0.Leaf.2,.u a0.Sig.E,.u a0.Sig.S] (by kernel_rfl) ?_
  obtain ⟨x1,q1,hm⟩:= oY0 hm
  refine gc (fun _=> w_cert_number q1) (by kernel_rfl) ?_
  obtain ⟨x2,q2,hm⟩:= oY0 hm
  refine gcG (fun h=> w_cert_number (gu_t h q2)) (by kernel_rfl) ?_
  refine gslM (k:= 1) (E:= eU) ([a0.Leaf.1,a0.Leaf.2] : List UInt64) (fun _=> rfl) (by kernel_rfl) ?_
  obtain ⟨x3,q3,hm⟩:= oY0 hm
  refine gcG (fun h=> w_slices_Max_uint64_uint64 (gu_t h q3)) (by kernel_rfl) ?_
  obtain ⟨x4,q4,hm⟩:= oY0 hm
  refine gcG (fun h=> w_cert_signed (gu_t h q4)) (by kernel_rfl) ?_
  have hm:= bnd_is hm
  let x5 : Bool:= ((((x1 && x2) && (decide ((x3.toNat : Int) < 2305843009213693951))) && x4))
  have e0:= sI0 hm
  subst e0
  exact gend hd (by kernel_rfl)
def m_cert_text_1 (a0 : Int) : Option Bool :=
 bnd (((decide (a0 ≤ 32)) || (decide (a0 > 126)))) fun x1 =>
 some x1
theorem w_cert_text_1 {a0 : Int} {r : Bool} (hm : m_cert_text_1 a0 = some r) : Sf prog 112 [.d (.r a0)] (.d (.t r)) :=
 sp call112 func112 rfl ntmps112 rfl fun D0 As η0 m0 hd=> by
  unfold m_cert_text_1 at hm
  have hm:= bnd_is hm
  let x1 : Bool:= (((decide (a0 ≤ 32)) || (decide (a0 > 126))))
  have e0:= sI0 hm
  subst e0
  exact gend hd (by kernel_rfl)
def m_strings_indexFunc_112x_b2 (a0 : ByteArray) (a2 : Bool) (s1 : Nat) : Option ((Nat) ⊕ ((Nat) ⊕ Int)) :=
 if s1 < a0.size then
  bnd (((Utf8.decode a0 s1).1 : Int)) fun x3 =>
  obind (m_cert_text_1 x3) fun x4 =>
  if (x4 == a2) = true then
   some (.inr (.inr (s1 : Int)))
  else
  some (.inl (s1 + (Utf8.decode a0 s1).2))
 else
 some (.inr (.inl s1))
def m_strings_indexFunc_112x (a0 : ByteArray) (a2 : Bool) : Option Int :=
 obind (iter (m_strings_indexFunc_112x_b2 a0 a2) FUEL 0) fun x1=> match x1 with
 | .inr r=> some r
 | .inl y1 =>
 some (-1)
theorem w_strings_indexFunc_112x {a0 : ByteArray} {a2 : Bool} {r : Int} (hm : m_strings_indexFunc_112x a0 a2 = some r) : Sf prog 182 [.d (.s a0),.fn (.func 112) [] [],.d (.t a2)] (.d (.i r)) :=
 sp call182 func182 rfl ntmps182 rfl fun D0 As η0 m0 hd=> by
  unfold m_strings_indexFunc_112x at hm
  refine grng a0 (by kernel_rfl) ?_
  obtain ⟨x1,q1,hm⟩:= oY0 hm
  refine gjU 0 (fun (y1 : Nat)=> ⟨[(10,.ow 0)],[(0,.hp 0 (.it a0 y1))],[],1⟩) (fun y1=> x1 = .inl y1) (by kernel_rfl) (fun Jp bk1=> ?_) fun y1 hy=> ?_
  ·refine gl hd (fun (p : Nat × (Nat))=> let (p0,p_0):= p; ⟨[(1,.fn (.func 112) [] []),(2,.d (.t a2)),(10,.ow 0)],[(0,.hp 0 (.it a0 p_0))],[],1⟩) (fun p=> iter (m_strings_indexFunc_112x_b2 a0 a2) p.1 p.2 = some x1) (fun p=> p.1) (FUEL,0) q1 (by kernel_rfl) ?_
   rintro ⟨n1,s1⟩ q2 Jl bl1
   cases n1 with
   | zero=> exact (iter_zero q2).elim
   | succ n1 =>
    obtain ⟨y2,q4,q3⟩:= iter_succ q2
    unfold m_strings_indexFunc_112x_b2 at q4
    refine gnx q4 (by kernel_rfl) (fun hc1 q4=> ?_) fun hc1 q4=> ?_
    ·skip
     refine gi' (b:= true) (by kernel_rfl) (fun _=> ?_) (fun h=> by cases h)
     have q4:= bnd_is q4
     let x3 : Int:= (((Utf8.decode a0 s1).1 : Int))
     obtain ⟨x4,q7,q4⟩:= oY0 q4
     refine gc (fun _=> w_cert_text_1 q7) (by kernel_rfl) ?_
     refine gi q4 (by kernel_rfl) (fun hc2 q4=> ?_) fun hc2 q4=> ?_
     ·skip
      cases q4
      rcases q3 with ⟨sn,e,_⟩ | e
      ·cases e
      cases e
      dsimp only at hm
      have e0:= sI0 hm
      subst e0
      exact gend hd (by kernel_rfl)
     have e0:= sI0 q4
     subst e0
     rcases q3 with ⟨sn,e,q3'⟩ | e
     ·have e:= Sum.inl.inj e
      subst e
      exact gb bl1 hd (n1,_) ⟨q3',Nat.lt_succ_self _⟩ (by kernel_rfl)
     cases sum_lr e
    refine gi' (b:= false) (by kernel_rfl) (fun h=> by cases h) (fun _=> ?_)
    have e0:= sI0 q4
    subst e0
    rcases q3 with ⟨sn,e,_⟩ | e
    ·cases sum_rl e
    have e:= Sum.inr.inj e
    subst e
    exact gb bk1 hd s1 rfl (by kernel_rfl)
  subst hy
  dsimp only at hm
  have e0:= sI0 hm
  subst e0
  exact gend hd (by kernel_rfl)
def m_strings_IndexFunc_112x (a0 : ByteArray) : Option Int :=
 obind (m_strings_indexFunc_112x a0 true) fun x1 =>
 some x1
theorem w_strings_IndexFunc_112x {a0 : ByteArray} {r : Int} (hm : m_strings_IndexFunc_112x a0 = some r) : Sf prog 152 [.d (.s a0),.fn (.func 112) [] []] (.d (.i r)) :=
 sp call152 func152 rfl ntmps152 rfl fun D0 As η0 m0 hd=> by
  unfold m_strings_IndexFunc_112x at hm
  obtain ⟨x1,q1,hm⟩:= oY0 hm
  refine gc (fun _=> w_strings_indexFunc_112x q1) (by kernel_rfl) ?_
  have e0:= sI0 hm
  subst e0
  exact gend hd (by kernel_rfl)
def m_strings_ContainsFunc_112x (a0 : ByteArray) : Option Bool :=
 obind (m_strings_IndexFunc_112x a0) fun x1 =>
 some (decide (x1 ≥ 0))
theorem w_strings_ContainsFunc_112x {a0 : ByteArray} {r : Bool} (hm : m_strings_ContainsFunc_112x a0 = some r) : Sf prog 113 [.d (.s a0),.fn (.func 112) [] []] (.d (.t r)) :=
 sp call113 func113 rfl ntmps113 rfl fun D0 As η0 m0 hd=> by
  unfold m_strings_ContainsFunc_112x at hm
  obtain ⟨x1,q1,hm⟩:= oY0 hm
  refine gc (fun _=> w_strings_IndexFunc_112x q1) (by kernel_rfl) ?_
  have e0:= sI0 hm
  subst e0
  exact gend hd (by kernel_rfl)
def m_cert_text (a0 : ByteArray) : Option Bool :=
 obind (gu ((!eqS a0 (⟨#[]⟩ : ByteArray)) && (decide ((a0.size : Int) ≤ 64))) (m_strings_ContainsFunc_112x a0)) fun x1 =>
 bnd ((((!eqS a0 (⟨#[]⟩ : ByteArray)) && (decide ((a0.size : Int) ≤ 64))) && (!x1))) fun x2 =>
 some x2
theorem w_cert_text {a0 : ByteArray} {r : Bool} (hm : m_cert_text a0 = some r) : Sf prog 62 [.d (.s a0)] (.d (.t r)) :=
 sp call62 func62 rfl ntmps62 rfl fun D0 As η0 m0 hd=> by
  unfold m_cert_text at hm
  obtain ⟨x1,q1,hm⟩:= oY0 hm
  refine gcG (fun h=> w_strings_ContainsFunc_112x (gu_t h q1)) (by kernel_rfl) ?_
  have hm:= bnd_is hm
  let x2 : Bool:= ((((!eqS a0 (⟨#[]⟩ : ByteArray)) && (decide ((a0.size : Int) ≤ 64))) && (!x1)))
  have e0:= sI0 hm
  subst e0
  exact gend hd (by kernel_rfl)
def m_internal_stringslite_IndexByte (a0 : ByteArray) (a1 : UInt8) : Option Int :=
 some (ixbS a0 a1)
theorem w_internal_stringslite_IndexByte {a0 : ByteArray} {a1 : UInt8} {r : Int} (hm : m_internal_stringslite_IndexByte a0 a1 = some r) : Sf prog 205 [.d (.s a0),.d (.b a1)] (.d (.i r)) :=
 sp call205 func205 rfl ntmps205 rfl fun D0 As η0 m0 hd=> by
  unfold m_internal_stringslite_IndexByte at hm
  refine gext (F:= ixbS) (p:= a0) (q:= a1) func210 (extIxb (by kernel_rfl) (by kernel_rfl) (by kernel_rfl) (by kernel_rfl)) (by kernel_rfl) ?_
  have e0:= sI0 hm
  subst e0
  exact gend hd (by kernel_rfl)
def m_internal_stringslite_Index (a0 : ByteArray) (a1 : ByteArray) : Option Int :=
 bnd ((((a1.size : Int) == 0) || (eqS a1 a0))) fun x1 =>
 if x1 = true then
  some 0
 else
 if ((a1.size : Int) == 1) = true then
  obind (idx a1.data.toList 0) fun x2 =>
  obind (m_internal_stringslite_IndexByte a0 x2) fun x3 =>
  some x3
 else
 bnd ((decide ((a1.size : Int) ≥ (a0.size : Int)))) fun x4 =>
 if x4 = true then
  some (-1)
 else
 none
theorem w_internal_stringslite_Index {a0 : ByteArray} {a1 : ByteArray} {r : Int} (hm : m_internal_stringslite_Index a0 a1 = some r) : Sf prog 201 [.d (.s a0),.d (.s a1)] (.d (.i r)) :=
 sp call201 func201 rfl ntmps201 rfl fun D0 As η0 m0 hd=> by
  unfold m_internal_stringslite_Index at hm
  have hm:= bnd_is hm
  let x1 : Bool:= ((((a1.size : Int) == 0) || (eqS a1 a0)))
  refine gi hm (by kernel_rfl) (fun hc1 hm=> ?_) fun hc1 hm=> ?_
  ·skip
   have e0:= sI0 hm
   subst e0
   exact gend hd (by kernel_rfl)
  refine gi hm (by kernel_rfl) (fun hc2 hm=> ?_) fun hc2 hm=> ?_
  ·skip
   obtain ⟨x2,q2,hm⟩:= oY0 hm
   refine gidxS (fun _=> q2) (by kernel_rfl) ?_
   obtain ⟨x3,q3,hm⟩:= oY0 hm
   refine gc (fun _=> w_internal_stringslite_IndexByte q3) (by kernel_rfl) ?_
   have e0:= sI0 hm
   subst e0
   exact gend hd (by kernel_rfl)
  have hm:= bnd_is hm
  let x4 : Bool:= ((decide ((a1.size : Int) ≥ (a0.size : Int))))
  refine gi hm (by kernel_rfl) (fun hc3 hm=> ?_) fun hc3 hm=> ?_
  ·skip
   have e0:= sI0 hm
   subst e0
   exact gend hd (by kernel_rfl)
  cases hm
def m_strings_Index (a0 : ByteArray) (a1 : ByteArray) : Option Int :=
 obind (m_internal_stringslite_Index a0 a1) fun x1 =>
 some x1
theorem w_strings_Index {a0 : ByteArray} {a1 : ByteArray} {r : Int} (hm : m_strings_Index a0 a1 = some r) : Sf prog 195 [.d (.s a0),.d (.s a1)] (.d (.i r)) :=
 sp call195 func195 rfl ntmps195 rfl fun D0 As η0 m0 hd=> by
  unfold m_strings_Index at hm
  obtain ⟨x1,q1,hm⟩:= oY0 hm
  refine gc (fun _=> w_internal_stringslite_Index q1) (by kernel_rfl) ?_
  have e0:= sI0 hm
  subst e0
  exact gend hd (by kernel_rfl)
theorem v_strings_Index {m : Mem} {As : List Ow} {w : World} {a0 : ByteArray} {a1 : ByteArray} {r : Int} (S : St m As w) (hm : m_strings_Index a0 a1 = some r) :
  CallsR prog 195 #[vS a0,vS a1] w fun v w'=> ∃ (M : Mem),m ≤ M ∧ St M (As) w' ∧ v = vI r:= by
 refine CallsR.mono ((w_strings_Index hm).2 none0 m As w [vS a0,vS a1] (.cons (.d (.s _)) (.cons (.d (.s _)) .nil)) (fun n h=> absurd rfl h) S) ?_
 rintro v w' ⟨M,η',r',obs',n1,hle,_,⟨rfl,rfl,rfl⟩,hdom,hR,S'⟩
 obtain rfl:= hR.i_inv
 exact ⟨M,hle,S',rfl⟩
def m_strings_Count (a0 : ByteArray) (a1 : ByteArray) : Option Int :=
 if ((a1.size : Int) == 0) = true then
  none
 else
 if ((a1.size : Int) == 1) = true then
  obind (idx a1.data.toList 0) fun x1 =>
  some (cntS a0 x1)
 else
 none
theorem w_strings_Count {a0 : ByteArray} {a1 : ByteArray} {r : Int} (hm : m_strings_Count a0 a1 = some r) : Sf prog 184 [.d (.s a0),.d (.s a1)] (.d (.i r)) :=
 sp call184 func184 rfl ntmps184 rfl fun D0 As η0 m0 hd=> by
  unfold m_strings_Count at hm
  refine gi hm (by kernel_rfl) (fun hc1 hm=> ?_) fun hc1 hm=> ?_
  ·cases hm
  refine gi hm (by kernel_rfl) (fun hc2 hm=> ?_) fun hc2 hm=> ?_
  ·skip
   obtain ⟨x1,q1,hm⟩:= oY0 hm
   refine gidxS (fun _=> q1) (by kernel_rfl) ?_
   refine gext (F:= cntS) (p:= a0) (q:= x1) func194 (extCnt (by kernel_rfl) (by kernel_rfl) (by kernel_rfl) (by kernel_rfl)) (by kernel_rfl) ?_
   have e0:= sI0 hm
   subst e0
   exact gend hd (by kernel_rfl)
  cases hm
theorem v_strings_Count {m : Mem} {As : List Ow} {w : World} {a0 : ByteArray} {a1 : ByteArray} {r : Int} (S : St m As w) (hm : m_strings_Count a0 a1 = some r) :
  CallsR prog 184 #[vS a0,vS a1] w fun v w'=> ∃ (M : Mem),m ≤ M ∧ St M (As) w' ∧ v = vI r:= by
 refine CallsR.mono ((w_strings_Count hm).2 none0 m As w [vS a0,vS a1] (.cons (.d (.s _)) (.cons (.d (.s _)) .nil)) (fun n h=> absurd rfl h) S) ?_
 rintro v w' ⟨M,η',r',obs',n1,hle,_,⟨rfl,rfl,rfl⟩,hdom,hR,S'⟩
 obtain rfl:= hR.i_inv
 exact ⟨M,hle,S',rfl⟩
def m_strings_splitSeq_1_b1 {σ : Type} (k1 : ByteArray) (s1 : Unit) : Option ((Unit) ⊕ ((Unit) ⊕ (ByteArray × ByteArray × Int × σ))) :=
 if (decide ((k1.size : Int) > 0)) = true then
  none
 else
 some (.inr (.inl ()))
def m_strings_splitSeq_1_b2 {σ : Type} (p0 : σ → ByteArray → Option (Bool × σ)) (k0 : ByteArray) (k2 : Int) (s2 : ByteArray × σ) : Option ((ByteArray × σ) ⊕ ((ByteArray × σ) ⊕ (ByteArray × ByteArray × Int × σ))) :=
 obind (m_strings_Index s2.1 k0) fun x5 =>
 if (decide (x5 < 0)) = true then
  some (.inr (.inl (s2.1,s2.2)))
 else
 obind (cutS s2.1 0 (w64 (x5 + k2))) fun x6 =>
 obind (p0 s2.2 x6) fun x7 =>
 if (!x7.1) = true then
  some (.inr (.inr (k0,s2.1,k2,x7.2)))
 else
 obind (cutS s2.1 (w64 (x5 + (k0.size : Int))) (s2.1.size : Int)) fun x8 =>
 some (.inl (x8,x7.2))
def m_strings_splitSeq_1 {σ : Type} (p0 : σ → ByteArray → Option (Bool × σ)) (k0 : ByteArray) (k1 : ByteArray) (k2 : Int) (s0 : σ) : Option (ByteArray × ByteArray × Int × σ) :=
 if ((k0.size : Int) == 0) = true then
  obind (iter (m_strings_splitSeq_1_b1 k1) FUEL ()) fun x1=> match x1 with
  | .inr r=> some r
  | .inl y1 =>
  some (k0,k1,k2,s0)
 else
 obind (iter (m_strings_splitSeq_1_b2 p0 k0 k2) FUEL (k1,s0)) fun x3=> match x3 with
 | .inr r=> some r
 | .inl y3 =>
 obind (p0 y3.2 y3.1) fun x9 =>
 some (k0,y3.1,k2,x9.2)
theorem w_strings_splitSeq_1 {m : Mem} {As : List Ow} {w : World} {σ : Type} {R : σ → Mem → List Ow → Prop} {p0 : σ → ByteArray → Option (Bool × σ)} {f0 : Value} {kb0 : Nat} {k0 : ByteArray} {kb1 : Nat} {k1 : ByteArray} {kb2 : Nat} {k2 : Int} {s0 : σ} {X0 : List Ow} {r : ByteArray × ByteArray × Int × σ} (S : St m ((bx kb0 [vS k0] 9) :: (bx kb1 [vS k1] 9) :: (bx kb2 [vI k2] 3) :: (X0 ++ As)) w) (hup : ∀ {s M M' X},M ≤ M' → R s M X → R s M' X) (hX0 : R s0 m X0) (cb0 : ∀ {m' : Mem} {As' : List Ow} {w' : World} {s : σ} {X : List Ow} {b0 : ByteArray} {r : Bool × σ},St m' (X ++ As') w' → R s m' X → p0 s b0 = some r → CallV Tryz.prog f0 [vS b0] w' fun v w''=> ∃ (M : Mem) (X' : List Ow),m' ≤ M ∧ St M (X' ++ As') w'' ∧ R r.2 M X' ∧ v = vb r.1) (fc0 : f0.cells = #[f0]) (hm : m_strings_splitSeq_1 p0 k0 k1 k2 s0 = some r) :
  CallsR Tryz.prog 202 #[f0,pt kb0 0,pt kb1 0,pt kb2 0] w fun v w'=> ∃ (M : Mem),m ≤ M ∧ ∃ (X : List Ow),St M ((bx kb0 [vS r.1] 9) :: (bx kb1 [vS r.2.1] 9) :: (bx kb2 [vI r.2.2.1] 3) :: (X ++ As)) w' ∧ v = .tuple #[] ∧ R r.2.2.2 M X:= by
 unfold m_strings_splitSeq_1 at hm
 have L0:= Mem.rfl' m
 refine callsR (args:= [f0,pt kb0 0,pt kb1 0,pt kb2 0]) Tryz.func202 rfl Tryz.ntmps202 (Nat.le_of_ble_eq_true rfl) ?_
 refine wpc_seq ?_
 refine wpc_seq ?_
 refine wpc_region ?_
 refine s_ld (i:= 0) (cs:= [vS k0]) S rfl rfl Tryz.isAgg9 Tryz.sizeOf9 rfl (fun _=> rfl) ?_
 refine s_lenS (s:= k0) rfl Tryz.underlying9 ?_
 refine s_eql (m:= (k0.size : Int)) (n:= 0) rfl rfl ?_
 refine wpl_nil ?_
 refine nrm ?_
 refine wpc_if (t:= ((k0.size : Int) == 0)) rfl (fun hc1=> ?_) (fun hc1=> ?_)
 ·replace hm:= ifT hc1 hm
  refine wpc_seq ?_
  obtain ⟨x1,q1,hm⟩:= oY0 hm
  have L1:= Mem.rfl' m
  refine wpc_join [5,6,12,13,14,15,16,17,18,19,20,21,22,23,24,25,26,27,28] (fun f' w'=> ∃ (M1 : Mem) (y1 : Unit),x1 = .inl y1 ∧ m ≤ M1 ∧ St M1 ((bx kb0 [vS k0] 9) :: (bx kb1 [vS k1] 9) :: (bx kb2 [vI k2] 3) :: (X0 ++ As)) w' ∧ AllAt f' []) ?_ ?_
  ·refine wpc_block ?_
   refine wpc_rounds [5,6,12,13,14,15,16,17,18,19,20,21,22,23,24,25,26,27,28] (fun n1 f' w'=> ∃ (s1 : Unit) (m2 : Mem),iter (m_strings_splitSeq_1_b1 k1) n1 s1 = some x1 ∧ m ≤ m2 ∧ St m2 ((bx kb0 [vS k0] 9) :: (bx kb1 [vS k1] 9) :: (bx kb2 [vI k2] 3) :: (X0 ++ As)) w' ∧ AllAt f' []) FUEL ⟨(),m,q1,L1,S,trivial⟩ ?_
   rintro n1 f1 w1 ho ⟨s1,m1,q2,L3,S1,ha⟩
   obtain ⟨u1,rfl⟩:= fr_of (N:= 52) ho ha
   clear ho ha
   replace hX0:= hup L3 hX0
   have L2:= Mem.rfl' m1
   clear S
   cases n1 with
   | zero=> exact (iter_zero q2).elim
   | succ n1 =>
    obtain ⟨y2,q4,q3⟩:= iter_succ q2
    unfold m_strings_splitSeq_1_b1 at q4
    refine wpc_seq ?_
    refine wpc_seq ?_
    refine wpc_region ?_
    refine s_ld (i:= 1) (cs:= [vS k1]) S1 rfl rfl Tryz.isAgg9 Tryz.sizeOf9 rfl (fun _=> rfl) ?_
    refine s_lenS (s:= k1) rfl Tryz.underlying9 ?_
    refine s_gtr (m:= (k1.size : Int)) (n:= 0) rfl rfl ?_
    refine wpl_nil ?_
    refine nrm ?_
    refine wpc_if (t:= (decide ((k1.size : Int) > 0))) rfl (fun hc2=> ?_) (fun hc2=> ?_)
    ·replace q4:= ifT hc2 q4
     cases q4
    replace q4:= ifF hc2 q4
    refine wpc_exit ?_
    refine thE ?_
    refine thE ?_
    refine exB ?_
    refine nrm ?_
    have e0:= sI0 q4
    subst e0
    rcases q3 with ⟨sn,e,_⟩ | e
    ·cases e
    ·cases e
     exact ⟨outP,m1,_,rfl,Mem.tr L3 L2,S1,trivial⟩
  rintro f2 w2 ho ⟨m3,y1,rfl,l1,S2,ha⟩
  obtain ⟨u2,rfl⟩:= fr_of (N:= 52) ho ha
  clear ho ha
  dsimp only at hm
  replace hX0:= hup l1 hX0
  replace L0:= Mem.tr L0 l1
  clear S
  refine wpc_ret ?_
  refine thR ?_
  refine outRw ?_
  intro we hpd
  replace S2:= St.pd S2 hpd
  have e0:= sI0 hm
  subst e0
  exact outR [] rfl trivial ⟨_,L0,_,S2,rfl,hX0⟩
 replace hm:= ifF hc1 hm
 refine wpc_skip ?_
 refine nrm ?_
 refine wpc_seq ?_
 obtain ⟨x3,q6,hm⟩:= oY0 hm
 have L4:= Mem.rfl' m
 refine wpc_join [7,8,29,30,31,32,33,34,35,36,37,38,39,40,41,42,43,44,45,46,47,48] (fun f' w'=> ∃ (M2 : Mem) (y3 : ByteArray × σ) (X2 : List Ow),x3 = .inl y3 ∧ m ≤ M2 ∧ St M2 ((bx kb0 [vS k0] 9) :: (bx kb1 [vS y3.1] 9) :: (bx kb2 [vI k2] 3) :: (X2 ++ As)) w' ∧ R y3.2 M2 X2 ∧ AllAt f' []) ?_ ?_
 ·refine wpc_block ?_
  refine wpc_rounds [7,8,29,30,31,32,33,34,35,36,37,38,39,40,41,42,43,44,45,46,47,48] (fun n2 f' w'=> ∃ (s2 : ByteArray × σ) (m7 : Mem) (X1 : List Ow),iter (m_strings_splitSeq_1_b2 p0 k0 k2) n2 s2 = some x3 ∧ m ≤ m7 ∧ St m7 ((bx kb0 [vS k0] 9) :: (bx kb1 [vS s2.1] 9) :: (bx kb2 [vI k2] 3) :: (X1 ++ As)) w' ∧ R s2.2 m7 X1 ∧ AllAt f' []) FUEL ⟨(k1,s0),m,_,q6,L4,S,hX0,trivial⟩ ?_
  rintro n2 f3 w3 ho ⟨s2,m4,X1,q7,L6,S3,h1,ha⟩
  obtain ⟨u3,rfl⟩:= fr_of (N:= 52) ho ha
  clear ho ha
  have L5:= Mem.rfl' m4
  clear S
  cases n2 with
  | zero=> exact (iter_zero q7).elim
  | succ n2 =>
   obtain ⟨y4,q9,q8⟩:= iter_succ q7
   unfold m_strings_splitSeq_1_b2 at q9
   refine wpc_block ?_
   refine wpc_seq ?_
   refine wpc_region ?_
   refine s_ld (i:= 1) (cs:= [vS s2.1]) S3 rfl rfl Tryz.isAgg9 Tryz.sizeOf9 rfl (fun _=> rfl) ?_
   refine s_ld (i:= 0) (cs:= [vS k0]) S3 rfl rfl Tryz.isAgg9 Tryz.sizeOf9 rfl (fun _=> rfl) ?_
   obtain ⟨x5,q11,q9⟩:= oY0 q9
   refine s_call Tryz.call195 (v_strings_Index (a0:= s2.1) (a1:= k0) S3  q11) rfl ?_
   rintro _ w4 ⟨m5,l2,S4,rfl⟩
   replace h1:= hup l2 h1
   replace L5:= Mem.tr L5 l2
   clear S3
   replace S4 : St _ ((bx kb0 [vS k0] 9) :: (bx kb1 [vS s2.1] 9) :: (bx kb2 [vI k2] 3) :: (X1 ++ As)) _:= S4
   refine s_asv (v:= vI x5) rfl ?_
   refine wpl_nil ?_
   refine nrm ?_
   refine wpc_seq ?_
   refine wpc_seq ?_
   refine wpc_region ?_
   refine s_mvv (v:= vI x5) rfl ?_
   refine s_lss (m:= x5) (n:= 0) rfl rfl ?_
   refine wpl_nil ?_
   refine nrm ?_
   refine wpc_if (t:= (decide (x5 < 0))) rfl (fun hc3=> ?_) (fun hc3=> ?_)
   ·replace q9:= ifT hc3 q9
    refine wpc_exit ?_
    refine thE ?_
    refine exN rfl ?_
    refine thE ?_
    refine exB ?_
    refine nrm ?_
    have e0:= sI0 q9
    subst e0
    rcases q8 with ⟨sn,e,_⟩ | e
    ·cases e
    ·cases e
     exact ⟨outP,m5,_,_,rfl,Mem.tr L6 L5,S4,h1,trivial⟩
   replace q9:= ifF hc3 q9
   refine wpc_skip ?_
   refine nrm ?_
   refine wpc_seq ?_
   refine wpc_region ?_
   refine s_ld (i:= 1) (cs:= [vS s2.1]) S4 rfl rfl Tryz.isAgg9 Tryz.sizeOf9 rfl (fun _=> rfl) ?_
   refine s_mvv (v:= vI x5) rfl ?_
   refine s_ld (i:= 2) (cs:= [vI k2]) S4 rfl rfl Tryz.isAgg3 Tryz.sizeOf3 rfl (fun _=> rfl) ?_
   refine s_addI (m:= x5) (n:= k2) rfl rfl ?_
   obtain ⟨x6,q12,q9⟩:= oY0 q9
   refine s_cutSt (s:= s2.1) (z:= x6) (l:= 0) (h:= (w64 (x5 + k2))) rfl Tryz.underlying9 (.inl ⟨rfl,rfl⟩) (.inr ⟨_,_,rfl,rfl⟩) q12 ?_
   refine s_asv (v:= vS x6) rfl ?_
   refine wpl_nil ?_
   refine nrm ?_
   refine wpc_seq ?_
   refine wpc_seq ?_
   refine wpc_region ?_
   refine s_mvv (v:= f0) rfl ?_
   refine s_mvv (v:= vS x6) rfl ?_
   obtain ⟨x7,q13,q9⟩:= oY0 q9
   have S5:= St.absF (L:= [bx kb0 [vS k0] 9,bx kb1 [vS s2.1] 9,bx kb2 [vI k2] 3]) (X:= X1) (As:= As) S4
   refine s_callV rfl (cb0 S5 h1 q13) rfl ?_
   rintro _ w5 ⟨m6,X3,l3,S6,h3,rfl⟩
   replace S6:= St.absF (L:= X3) (X:= [bx kb0 [vS k0] 9,bx kb1 [vS s2.1] 9,bx kb2 [vI k2] 3]) (As:= As) S6
   clear S5
   replace L5:= Mem.tr L5 l3
   replace S6 : St _ ((bx kb0 [vS k0] 9) :: (bx kb1 [vS s2.1] 9) :: (bx kb2 [vI k2] 3) :: (X3 ++ As)) _:= S6
   clear S4
   refine s_not rfl ?_
   refine wpl_nil ?_
   refine nrm ?_
   refine wpc_if (t:= (!x7.1)) rfl (fun hc4=> ?_) (fun hc4=> ?_)
   ·replace q9:= ifT hc4 q9
    refine wpc_ret ?_
    refine thR ?_
    refine blR ?_
    refine thR ?_
    refine blR ?_
    refine thR ?_
    refine outRw ?_
    intro we hpd
    replace S6:= St.pd S6 hpd
    cases q9
    rcases q8 with ⟨sn,e,_⟩ | e
    ·cases e
    cases e
    dsimp only at hm
    have e0:= sI0 hm
    subst e0
    exact outR [] rfl trivial ⟨_,(Mem.tr L0 (Mem.tr L6 L5)),_,S6,rfl,h3⟩
   replace q9:= ifF hc4 q9
   refine wpc_skip ?_
   refine nrm ?_
   refine wpc_region ?_
   refine s_ld (i:= 1) (cs:= [vS s2.1]) S6 rfl rfl Tryz.isAgg9 Tryz.sizeOf9 rfl (fun _=> rfl) ?_
   refine s_mvv (v:= vI x5) rfl ?_
   refine s_ld (i:= 0) (cs:= [vS k0]) S6 rfl rfl Tryz.isAgg9 Tryz.sizeOf9 rfl (fun _=> rfl) ?_
   refine s_lenS (s:= k0) rfl Tryz.underlying9 ?_
   refine s_addI (m:= x5) (n:= (k0.size : Int)) rfl rfl ?_
   obtain ⟨x8,q14,q9⟩:= oY0 q9
   refine s_cutSt (s:= s2.1) (z:= x8) (l:= (w64 (x5 + (k0.size : Int)))) (h:= (s2.1.size : Int)) rfl Tryz.underlying9 (.inr ⟨_,_,rfl,rfl⟩) (.inl ⟨rfl,rfl⟩) q14 ?_
   refine s_stL (i:= 1) S6 rfl rfl rfl Tryz.sizeOf9 (oneC rfl oneN) rfl ?_
   intro w6 S7
   replace S7 : St _ ((bx kb0 [vS k0] 9) :: (bx kb1 [vS x8] 9) :: (bx kb2 [vI k2] 3) :: (X3 ++ As)) _:= S7
   clear S6
   refine wpl_nil ?_
   refine nrmB ?_
   refine nrm ?_
   have e0:= sI0 q9
   subst e0
   rcases q8 with ⟨sn,e,q8'⟩ | e
   ·cases e
    exact ⟨outP,_,Nat.lt_succ_self _,⟨_,m6,_,q8',Mem.tr L6 L5,S7,h3,trivial⟩⟩
   ·cases e
 rintro f4 w7 ho ⟨m8,y3,X2,rfl,l4,S8,h2,ha⟩
 obtain ⟨u4,rfl⟩:= fr_of (N:= 52) ho ha
 clear ho ha
 dsimp only at hm
 replace L0:= Mem.tr L0 l4
 clear S
 refine wpc_region ?_
 refine s_mvv (v:= f0) rfl ?_
 refine s_ld (i:= 1) (cs:= [vS y3.1]) S8 rfl rfl Tryz.isAgg9 Tryz.sizeOf9 rfl (fun _=> rfl) ?_
 obtain ⟨x9,q15,hm⟩:= oY0 hm
 have S9:= St.absF (L:= [bx kb0 [vS k0] 9,bx kb1 [vS y3.1] 9,bx kb2 [vI k2] 3]) (X:= X2) (As:= As) S8
 refine s_callV rfl (cb0 S9 h2 q15) rfl ?_
 rintro _ w8 ⟨m9,X4,l5,S10,h4,rfl⟩
 replace S10:= St.absF (L:= X4) (X:= [bx kb0 [vS k0] 9,bx kb1 [vS y3.1] 9,bx kb2 [vI k2] 3]) (As:= As) S10
 clear S9
 replace L0:= Mem.tr L0 l5
 replace S10 : St _ ((bx kb0 [vS k0] 9) :: (bx kb1 [vS y3.1] 9) :: (bx kb2 [vI k2] 3) :: (X4 ++ As)) _:= S10
 clear S8
 refine wpl_nil ?_
 refine outNw ?_
 intro we hpd
 replace S10:= St.pd S10 hpd
 have e0:= sI0 hm
 subst e0
 exact outR [] rfl trivial ⟨_,L0,_,S10,rfl,h4⟩
def m_strings_splitSeq (a0 : ByteArray) (a1 : ByteArray) (a2 : Int) : Option (ByteArray × ByteArray × Int) :=
 some (a1,a0,a2)
theorem w_strings_splitSeq {m : Mem} {As : List Ow} {w : World} {a0 : ByteArray} {a1 : ByteArray} {a2 : Int} {r : ByteArray × ByteArray × Int} (S : St m (As) w) (hm : m_strings_splitSeq a0 a1 a2 = some r) :
  CallsR Tryz.prog 196 #[vS a0,vS a1,vI a2] w fun v w'=> ∃ (M : Mem),m ≤ M ∧ ∃ (rk0_0 : Nat) (rk0_1 : Nat) (rk0_2 : Nat),St M ((bx rk0_0 [vS r.1] 9) :: (bx rk0_1 [vS r.2.1] 9) :: (bx rk0_2 [vI r.2.2] 3) :: As) w' ∧ v = .func (.func 202) #[] #[pt rk0_0 0,pt rk0_1 0,pt rk0_2 0]:= by
 unfold m_strings_splitSeq at hm
 have L0:= Mem.rfl' m
 refine callsR (args:= [vS a0,vS a1,vI a2]) Tryz.func196 rfl Tryz.ntmps196 (Nat.le_of_ble_eq_true rfl) ?_
 refine wpc_seq ?_
 refine wpc_region ?_
 refine s_box S rfl ?_
 intro b1 w1 S1
 replace S1 : St _ ((bx b1 [vS a0] 9) :: As) _:= S1
 clear S
 refine s_box S1 rfl ?_
 intro b2 w2 S2
 replace S2 : St _ ((bx b2 [vS a1] 9) :: (bx b1 [vS a0] 9) :: As) _:= S2
 clear S1
 refine s_box S2 rfl ?_
 intro b3 w3 S3
 replace S3 : St _ ((bx b3 [vI a2] 3) :: (bx b2 [vS a1] 9) :: (bx b1 [vS a0] 9) :: As) _:= S3
 clear S2
 refine s_asv (v:= .nilFunc) rfl ?_
 refine wpl_nil ?_
 refine nrm ?_
 refine wpc_seq ?_
 refine wpc_region ?_
 refine s_funcC (caps:= [pt b2 0,pt b1 0,pt b3 0]) rfl ?_
 refine s_asv (v:= .func (.func 202) #[] #[pt b2 0,pt b1 0,pt b3 0]) rfl ?_
 refine wpl_nil ?_
 refine nrm ?_
 refine wpc_ret ?_
 refine outRw ?_
 intro we hpd
 replace S3:= St.pd S3 hpd
 have S4 : St _ ((bx b2 [vS a1] 9) :: (bx b1 [vS a0] 9) :: (bx b3 [vI a2] 3) :: As) _:= St.perm S3 (List.Perm.trans (List.Perm.swap _ _ _) (List.Perm.cons _ (List.Perm.swap _ _ _)))
 have e0:= sI0 hm
 subst e0
 exact outR [_] rfl ⟨rfl,trivial⟩ ⟨_,L0,_,_,_,S4,rfl⟩
def m_strings_SplitSeq (a0 : ByteArray) (a1 : ByteArray) : Option (ByteArray × ByteArray × Int) :=
 obind (m_strings_splitSeq a0 a1 0) fun x1 =>
 some (x1.1,x1.2.1,x1.2.2)
theorem w_strings_SplitSeq {m : Mem} {As : List Ow} {w : World} {a0 : ByteArray} {a1 : ByteArray} {r : ByteArray × ByteArray × Int} (S : St m (As) w) (hm : m_strings_SplitSeq a0 a1 = some r) :
  CallsR Tryz.prog 185 #[vS a0,vS a1] w fun v w'=> ∃ (M : Mem),m ≤ M ∧ ∃ (rk0_0 : Nat) (rk0_1 : Nat) (rk0_2 : Nat),St M ((bx rk0_0 [vS r.1] 9) :: (bx rk0_1 [vS r.2.1] 9) :: (bx rk0_2 [vI r.2.2] 3) :: As) w' ∧ v = .func (.func 202) #[] #[pt rk0_0 0,pt rk0_1 0,pt rk0_2 0]:= by
 unfold m_strings_SplitSeq at hm
 have L0:= Mem.rfl' m
 refine callsR (args:= [vS a0,vS a1]) Tryz.func185 rfl Tryz.ntmps185 (Nat.le_of_ble_eq_true rfl) ?_
 refine wpc_seq ?_
 refine wpc_region ?_
 refine s_asv (v:= .nilFunc) rfl ?_
 refine wpl_nil ?_
 refine nrm ?_
 refine wpc_seq ?_
 refine wpc_region ?_
 refine s_mvv (v:= vS a0) rfl ?_
 refine s_mvv (v:= vS a1) rfl ?_
 obtain ⟨x1,q1,hm⟩:= oY0 hm
 refine s_call Tryz.call196 (w_strings_splitSeq (a0:= a0) (a1:= a1) (a2:= 0) S  q1) rfl ?_
 rintro _ w1 ⟨m1,l1,b1,b2,b3,S1,rfl⟩
 replace L0:= Mem.tr L0 l1
 clear S
 replace S1 : St _ ((bx b1 [vS x1.1] 9) :: (bx b2 [vS x1.2.1] 9) :: (bx b3 [vI x1.2.2] 3) :: As) _:= S1
 refine s_asv (v:= .func (.func 202) #[] #[pt b1 0,pt b2 0,pt b3 0]) rfl ?_
 refine wpl_nil ?_
 refine nrm ?_
 refine wpc_ret ?_
 refine outRw ?_
 intro we hpd
 replace S1:= St.pd S1 hpd
 have e0:= sI0 hm
 subst e0
 exact outR [_] rfl ⟨rfl,trivial⟩ ⟨_,L0,_,_,_,S1,rfl⟩
def m_names_edge (a0 : Int) : Option Bool :=
 bnd ((((decide ((97 : Int) ≤ a0)) && (decide (a0 ≤ 122))) || ((decide ((48 : Int) ≤ a0)) && (decide (a0 ≤ 57))))) fun x1 =>
 some x1
theorem w_names_edge {a0 : Int} {r : Bool} (hm : m_names_edge a0 = some r) : Sf prog 197 [.d (.r a0)] (.d (.t r)) :=
 sp call197 func197 rfl ntmps197 rfl fun D0 As η0 m0 hd=> by
  unfold m_names_edge at hm
  have hm:= bnd_is hm
  let x1 : Bool:= ((((decide ((97 : Int) ≤ a0)) && (decide (a0 ≤ 122))) || ((decide ((48 : Int) ≤ a0)) && (decide (a0 ≤ 57)))))
  have e0:= sI0 hm
  subst e0
  exact gend hd (by kernel_rfl)
def m_names_inner (a0 : Int) : Option Bool :=
 obind (gu (!(a0 == 45)) (m_names_edge a0)) fun x1 =>
 some ((a0 == 45) || x1)
theorem w_names_inner {a0 : Int} {r : Bool} (hm : m_names_inner a0 = some r) : Sf prog 198 [.d (.r a0)] (.d (.t r)) :=
 sp call198 func198 rfl ntmps198 rfl fun D0 As η0 m0 hd=> by
  unfold m_names_inner at hm
  obtain ⟨x1,q1,hm⟩:= oY0 hm
  refine gcG (fun h=> w_names_edge (gu_t h q1)) (by kernel_rfl) ?_
  have e0:= sI0 hm
  subst e0
  exact gend hd (by kernel_rfl)
def m_names_label_b2 (a0 : ByteArray) (s1 : Nat) : Option ((Nat) ⊕ ((Nat) ⊕ Bool)) :=
 if s1 < a0.size then
  bnd (((Utf8.decode a0 s1).1 : Int)) fun x3 =>
  obind (gu ((s1 : Int) == (w64 ((a0.size : Int) - 1))) (m_names_edge x3)) fun x4 =>
  bnd ((((s1 : Int) == (w64 ((a0.size : Int) - 1))) && x4)) fun x5 =>
  if x5 = true then
   some (.inl (s1 + (Utf8.decode a0 s1).2))
  else
  bnd (((s1 : Int) == (w64 ((a0.size : Int) - 1)))) fun x6 =>
  if x6 = true then
   some (.inr (.inr false))
  else
  obind (gu ((s1 : Int) == 0) (m_names_edge x3)) fun x7 =>
  bnd ((((s1 : Int) == 0) && (x7 || (x3 == 95)))) fun x8 =>
  if x8 = true then
   some (.inl (s1 + (Utf8.decode a0 s1).2))
  else
  obind (gu (!((s1 : Int) == 0)) (m_names_inner x3)) fun x9 =>
  if (((s1 : Int) == 0) || (!x9)) = true then
   some (.inr (.inr false))
  else
  some (.inl (s1 + (Utf8.decode a0 s1).2))
 else
 some (.inr (.inl s1))
def m_names_label (a0 : ByteArray) : Option Bool :=
 if ((eqS a0 (⟨#[]⟩ : ByteArray)) || (decide ((a0.size : Int) > 16))) = true then
  some false
 else
 obind (iter (m_names_label_b2 a0) FUEL 0) fun x1=> match x1 with
 | .inr r=> some r
 | .inl y1 =>
 some true
theorem w_names_label {a0 : ByteArray} {r : Bool} (hm : m_names_label a0 = some r) : Sf prog 186 [.d (.s a0)] (.d (.t r)) :=
 sp call186 func186 rfl ntmps186 rfl fun D0 As η0 m0 hd=> by
  unfold m_names_label at hm
  refine gi hm (by kernel_rfl) (fun hc1 hm=> ?_) fun hc1 hm=> ?_
  ·skip
   have e0:= sI0 hm
   subst e0
   exact gend hd (by kernel_rfl)
  refine grng a0 (by kernel_rfl) ?_
  obtain ⟨x1,q1,hm⟩:= oY0 hm
  refine gjU 0 (fun (y1 : Nat)=> ⟨[(13,.ow 0)],[(0,.hp 0 (.it a0 y1))],[],1⟩) (fun y1=> x1 = .inl y1) (by kernel_rfl) (fun Jp bk1=> ?_) fun y1 hy=> ?_
  ·refine gl hd (fun (p : Nat × (Nat))=> let (p0,p_0):= p; ⟨[(0,.d (.s a0)),(13,.ow 0)],[(0,.hp 0 (.it a0 p_0))],[],1⟩) (fun p=> iter (m_names_label_b2 a0) p.1 p.2 = some x1) (fun p=> p.1) (FUEL,0) q1 (by kernel_rfl) ?_
   rintro ⟨n1,s1⟩ q2 Jl bl1
   cases n1 with
   | zero=> exact (iter_zero q2).elim
   | succ n1 =>
    obtain ⟨y2,q4,q3⟩:= iter_succ q2
    unfold m_names_label_b2 at q4
    refine gnx q4 (by kernel_rfl) (fun hc2 q4=> ?_) fun hc2 q4=> ?_
    ·skip
     refine gi' (b:= true) (by kernel_rfl) (fun _=> ?_) (fun h=> by cases h)
     have q4:= bnd_is q4
     let x3 : Int:= (((Utf8.decode a0 s1).1 : Int))
     obtain ⟨x4,q7,q4⟩:= oY0 q4
     refine gcG (fun h=> w_names_edge (gu_t h q7)) (by kernel_rfl) ?_
     have q4:= bnd_is q4
     let x5 : Bool:= ((((s1 : Int) == (w64 ((a0.size : Int) - 1))) && x4))
     refine gi q4 (by kernel_rfl) (fun hc3 q4=> ?_) fun hc3 q4=> ?_
     ·skip
      have e0:= sI0 q4
      subst e0
      rcases q3 with ⟨sn,e,q3'⟩ | e
      ·have e:= Sum.inl.inj e
       subst e
       exact gb bl1 hd (n1,_) ⟨q3',Nat.lt_succ_self _⟩ (by kernel_rfl)
      cases sum_lr e
     have q4:= bnd_is q4
     let x6 : Bool:= (((s1 : Int) == (w64 ((a0.size : Int) - 1))))
     refine gi q4 (by kernel_rfl) (fun hc4 q4=> ?_) fun hc4 q4=> ?_
     ·skip
      cases q4
      rcases q3 with ⟨sn,e,_⟩ | e
      ·cases e
      cases e
      dsimp only at hm
      have e0:= sI0 hm
      subst e0
      exact gend hd (by kernel_rfl)
     obtain ⟨x7,q10,q4⟩:= oY0 q4
     refine gcG (fun h=> w_names_edge (gu_t h q10)) (by kernel_rfl) ?_
     have q4:= bnd_is q4
     let x8 : Bool:= ((((s1 : Int) == 0) && (x7 || (x3 == 95))))
     refine gi q4 (by kernel_rfl) (fun hc5 q4=> ?_) fun hc5 q4=> ?_
     ·skip
      have e0:= sI0 q4
      subst e0
      rcases q3 with ⟨sn,e,q3'⟩ | e
      ·have e:= Sum.inl.inj e
       subst e
       exact gb bl1 hd (n1,_) ⟨q3',Nat.lt_succ_self _⟩ (by kernel_rfl)
      cases sum_lr e
     obtain ⟨x9,q12,q4⟩:= oY0 q4
     refine gcG (fun h=> w_names_inner (gu_t h q12)) (by kernel_rfl) ?_
     refine gi q4 (by kernel_rfl) (fun hc6 q4=> ?_) fun hc6 q4=> ?_
     ·skip
      cases q4
      rcases q3 with ⟨sn,e,_⟩ | e
      ·cases e
      cases e
      dsimp only at hm
      have e0:= sI0 hm
      subst e0
      exact gend hd (by kernel_rfl)
     have e0:= sI0 q4
     subst e0
     rcases q3 with ⟨sn,e,q3'⟩ | e
     ·have e:= Sum.inl.inj e
      subst e
      exact gb bl1 hd (n1,_) ⟨q3',Nat.lt_succ_self _⟩ (by kernel_rfl)
     cases sum_lr e
    refine gi' (b:= false) (by kernel_rfl) (fun h=> by cases h) (fun _=> ?_)
    have e0:= sI0 q4
    subst e0
    rcases q3 with ⟨sn,e,_⟩ | e
    ·cases sum_rl e
    have e:= Sum.inr.inj e
    subst e
    exact gb bk1 hd s1 rfl (by kernel_rfl)
  subst hy
  dsimp only at hm
  have e0:= sI0 hm
  subst e0
  exact gend hd (by kernel_rfl)
theorem v_names_label {m : Mem} {As : List Ow} {w : World} {a0 : ByteArray} {r : Bool} (S : St m As w) (hm : m_names_label a0 = some r) :
  CallsR prog 186 #[vS a0] w fun v w'=> ∃ (M : Mem),m ≤ M ∧ St M (As) w' ∧ v = vb r:= by
 refine CallsR.mono ((w_names_label hm).2 none0 m As w [vS a0] (.cons (.d (.s _)) .nil) (fun n h=> absurd rfl h) S) ?_
 rintro v w' ⟨M,η',r',obs',n1,hle,_,⟨rfl,rfl,rfl⟩,hdom,hR,S'⟩
 obtain rfl:= hR.t_inv
 exact ⟨M,hle,S',rfl⟩
def m_names_name_b5 (b6 : ByteArray) (s1 : (Unit) × Nat) : Option ((Unit) × Nat) :=
 obind (m_names_label b6) fun x6 =>
 if (!x6) = true then
  some ((),1)
 else
 some ((),0)
def m_names_name (a0 : ByteArray) (a1 : Int) (a2 : Int) : Option Bool :=
 obind (
  if (decide ((a0.size : Int) > a2)) = true then
   some true
  else
  obind (m_strings_Count a0 (⟨#[46]⟩ : ByteArray)) fun x3 =>
  some (decide (x3 ≥ a1))
 ) fun x2 =>
 if x2 = true then
  some false
 else
 obind (m_strings_SplitSeq a0 (⟨#[46]⟩ : ByteArray)) fun x4 =>
 obind (m_strings_splitSeq_1 (fun (s : (Unit) × Nat) (b0 : ByteArray)=> if s.2 = 0 then obind (m_names_name_b5 b0 s) fun y=> some (y.2 == 0,y) else none) x4.1 x4.2.1 x4.2.2 ((),0)) fun x5 =>
 if (x5.2.2.2).2 = 0 then
  some true
 else
 some false
theorem w_names_name {m : Mem} {As : List Ow} {w : World} {a0 : ByteArray} {a1 : Int} {a2 : Int} {r : Bool} (S : St m (As) w) (hm : m_names_name a0 a1 a2 = some r) :
  CallsR Tryz.prog 154 #[vS a0,vI a1,vI a2] w fun v w'=> ∃ (M : Mem),m ≤ M ∧ St M (As) w' ∧ v = vb r:= by
 unfold m_names_name at hm
 have L0:= Mem.rfl' m
 refine callsR (args:= [vS a0,vI a1,vI a2]) Tryz.func154 rfl Tryz.ntmps154 (Nat.le_of_ble_eq_true rfl) ?_
 refine wpc_seq ?_
 refine wpc_region ?_
 refine s_alloc S Tryz.zeroValue4 ?_
 intro b1 w1 S1
 replace S1 : St _ ((bx b1 [vb false] 4) :: As) _:= S1
 clear S
 refine wpl_nil ?_
 refine nrm ?_
 refine wpc_seq ?_
 refine wpc_seq ?_
 refine wpc_region ?_
 refine s_mvv (v:= vS a0) rfl ?_
 refine s_lenS (s:= a0) rfl Tryz.underlying9 ?_
 refine s_mvv (v:= vI a2) rfl ?_
 refine s_gtr (m:= (a0.size : Int)) (n:= a2) rfl rfl ?_
 refine s_mvv (v:= vb (decide ((a0.size : Int) > a2))) rfl ?_
 obtain ⟨x2,q2,hm⟩:= oY0 hm
 have L1:= Mem.rfl' m
 refine wpl_cut 5 [13,14,15,16,17] (fun f' w'=> ∃ (M1 : Mem),m ≤ M1 ∧ St M1 ((bx b1 [vb false] 4) :: As) w' ∧ AllAt f' [(17,vb x2)]) ?_ ?_
 ·rcases bool_tf (decide ((a0.size : Int) > a2)) with hb1 | hb1
  ·replace q2:= ifT hb1 q2
   refine wpl_no (d:= 12) rfl rfl (congrArg Value.bool hb1) ?_
   refine wpl_no (d:= 12) rfl rfl (congrArg Value.bool hb1) ?_
   refine wpl_no (d:= 12) rfl rfl (congrArg Value.bool hb1) ?_
   refine wpl_no (d:= 12) rfl rfl (congrArg Value.bool hb1) ?_
   refine s_pickT (congrArg Value.bool hb1) rfl ?_
   refine wpl_nil (nrm ?_)
   have e0:= sI0 q2
   subst e0
   exact ⟨outP,m,L1,S1,⟨rfl,trivial⟩⟩
  replace q2:= ifF hb1 q2
  refine wpl_yes (d:= 12) rfl rfl (congrArg Value.bool hb1) ?_
  refine s_mvv (v:= vS a0) rfl ?_
  refine wpl_yes (d:= 12) rfl rfl (congrArg Value.bool hb1) ?_
  obtain ⟨x3,q3,q2⟩:= oY0 q2
  refine s_call Tryz.call184 (v_strings_Count (a0:= a0) (a1:= (⟨#[46]⟩ : ByteArray)) S1  q3) rfl ?_
  rintro _ w3 ⟨m2,l2,S3,rfl⟩
  replace L1:= Mem.tr L1 l2
  clear S1
  replace S3 : St _ ((bx b1 [vb false] 4) :: As) _:= S3
  refine wpl_yes (d:= 12) rfl rfl (congrArg Value.bool hb1) ?_
  refine s_mvv (v:= vI a1) rfl ?_
  refine wpl_yes (d:= 12) rfl rfl (congrArg Value.bool hb1) ?_
  refine s_geq (m:= x3) (n:= a1) rfl rfl ?_
  refine s_pickF (congrArg Value.bool hb1) rfl ?_
  refine wpl_nil (nrm ?_)
  have e0:= sI0 q2
  subst e0
  exact ⟨outP,m2,L1,S3,⟨rfl,trivial⟩⟩
 rintro f1 w4 ho ⟨m3,l3,S4,ha⟩
 obtain ⟨u1,rfl⟩:= fr_of (N:= 24) ho ha
 replace L0:= Mem.tr L0 l3
 clear S1
 refine wpl_nil ?_
 refine nrm ?_
 refine wpc_if (t:= x2) rfl (fun hc1=> ?_) (fun hc1=> ?_)
 ·replace hm:= ifT hc1 hm
  refine wpc_seq ?_
  refine wpc_region ?_
  refine s_stL (i:= 0) S4 rfl rfl rfl Tryz.sizeOf4 (oneC rfl oneN) rfl ?_
  intro w5 S5
  replace S5 : St _ ((bx b1 [vb false] 4) :: As) _:= S5
  clear S4
  refine wpl_nil ?_
  refine nrm ?_
  refine wpc_ret ?_
  refine thR ?_
  refine outRw ?_
  intro we hpd
  replace S5:= St.pd S5 hpd
  have SR:= S5
  obtain ⟨m4,l4,S6⟩:= St.drop S5 0
  replace L0:= Mem.tr L0 l4
  replace S6 : St _ (As) _:= S6
  have e0:= sI0 hm
  subst e0
  exact outR [_] rfl ⟨res_box (i:= 0) (off:= 0) (cs:= [vb false]) SR rfl rfl Tryz.isAgg4 Tryz.sizeOf4 rfl (fun _=> rfl),trivial⟩ ⟨_,L0,S6,rfl⟩
 replace hm:= ifF hc1 hm
 refine wpc_skip ?_
 refine nrm ?_
 refine wpc_seq ?_
 refine wpc_seq ?_
 refine wpc_region ?_
 refine s_mvv (v:= vS a0) rfl ?_
 obtain ⟨x4,q4,hm⟩:= oY0 hm
 refine s_call Tryz.call185 (w_strings_SplitSeq (a0:= a0) (a1:= (⟨#[46]⟩ : ByteArray)) S4  q4) rfl ?_
 rintro _ w6 ⟨m5,l5,b2,b3,b4,S7,rfl⟩
 replace L0:= Mem.tr L0 l5
 clear S4
 replace S7 : St _ ((bx b2 [vS x4.1] 9) :: (bx b3 [vS x4.2.1] 9) :: (bx b4 [vI x4.2.2] 3) :: (bx b1 [vb false] 4) :: As) _:= S7
 refine wpl_nil ?_
 refine nrm ?_
 refine wpc_block ?_
 obtain ⟨x5,q5,hm⟩:= oY0 hm
 refine wpc_rangeFunc S7 rfl Tryz.call202 ?_
 intro lp1 rip2 w7 h1 S8
 replace S8 : St _ ((Lp lp1 rip2 .ready none) :: (bx b2 [vS x4.1] 9) :: (bx b3 [vS x4.2.1] 9) :: (bx b4 [vI x4.2.2] 3) :: (bx b1 [vb false] 4) :: As) _:= S8
 clear S7
 have S9 : St _ ((bx b2 [vS x4.1] 9) :: (bx b3 [vS x4.2.1] 9) :: (bx b4 [vI x4.2.2] 3) :: (Lp lp1 rip2 .ready none) :: (bx b1 [vb false] 4) :: As) _:= St.perm S8 (List.Perm.trans (List.Perm.swap _ _ _) (List.Perm.trans (List.Perm.cons _ (List.Perm.swap _ _ _)) (List.Perm.cons _ (List.Perm.cons _ (List.Perm.swap _ _ _)))))
 clear S8
 have hcb1 : ∀ {m' : Mem} {As' : List Ow} {w' : World} {s : (Unit) × Nat} {X : List Ow} {b0 : ByteArray} {r : Bool × ((Unit) × Nat)},St m' (X ++ As') w' → (m5 ≤ m' ∧ (((s).2 = 0 ∧ X = Lp lp1 rip2 .ready none :: (bx b1 [vb false] 4) :: []) ∨ ((s).2 = 1 ∧ X = Lp lp1 rip2 .done (some .ret) :: (bx b1 [vb false] 4) :: []))) → (fun (s : (Unit) × Nat) (b0 : ByteArray)=> if s.2 = 0 then obind (m_names_name_b5 b0 s) fun y=> some (y.2 == 0,y) else none) s b0 = some r → CallV Tryz.prog (.func (.yield lp1) #[] #[]) [vS b0] w' fun v w''=> ∃ (M : Mem) (X' : List Ow),m' ≤ M ∧ St M (X' ++ As') w'' ∧ (m5 ≤ M ∧ (((r.2).2 = 0 ∧ X' = Lp lp1 rip2 .ready none :: (bx b1 [vb false] 4) :: []) ∨ ((r.2).2 = 1 ∧ X' = Lp lp1 rip2 .done (some .ret) :: (bx b1 [vb false] 4) :: []))) ∧ v = vb r.1:= by
  intro m6 As1 w8 s1 X1 b6 r1 S10 h2 hm1
  obtain ⟨L3,h3⟩:= h2
  rcases h3 with ⟨hj1,rfl⟩ | ⟨hj1,rfl⟩
  ·try dsimp only at hm1
   rw [if_pos hj1] at hm1
   obtain ⟨y1,q6,hm1⟩:= oY0 hm1
   cases hm1
   unfold m_names_name_b5 at q6
   replace S10 : St _ ((Lp lp1 rip2 .ready none) :: (bx b1 [vb false] 4) :: As1) _:= S10
   have L2:= Mem.rfl' m6
   refine CallV.round h1 rfl S10 ?_
   refine wpc_region ?_
   refine s_asv (v:= vS b6) rfl ?_
   refine wpl_nil ?_
   refine nrm ?_
   refine ⟨_,_,S10,?_⟩
   intro w9 S11
   clear S10
   replace S11 : St _ ((Lp lp1 rip2 .busy none) :: (bx b1 [vb false] 4) :: As1) _:= S11
   refine wpc_block ?_
   refine wpc_seq ?_
   refine wpc_region ?_
   refine s_mvv (v:= vS b6) rfl ?_
   obtain ⟨x6,q7,q6⟩:= oY0 q6
   refine s_call Tryz.call186 (v_names_label (a0:= b6) S11  q7) rfl ?_
   rintro _ w10 ⟨m7,l6,S12,rfl⟩
   replace L2:= Mem.tr L2 l6
   clear S11
   replace S12 : St _ ((Lp lp1 rip2 .busy none) :: (bx b1 [vb false] 4) :: As1) _:= S12
   refine s_not rfl ?_
   refine wpl_nil ?_
   refine nrm ?_
   refine wpc_if (t:= (!x6)) rfl (fun hc2=> ?_) (fun hc2=> ?_)
   ·replace q6:= ifT hc2 q6
    refine wpc_seq ?_
    refine wpc_region ?_
    refine s_stL (i:= 1) S12 rfl rfl rfl Tryz.sizeOf4 (oneC rfl oneN) rfl ?_
    intro w11 S13
    replace S13 : St _ ((Lp lp1 rip2 .busy none) :: (bx b1 [vb false] 4) :: As1) _:= S13
    clear S12
    refine wpl_nil ?_
    refine nrm ?_
    refine wpc_ret ?_
    refine blR ?_
    refine ⟨_,_,S13,?_⟩
    intro w12 S14
    have e0:= sI0 q6
    subst e0
    exact ⟨_,Lp lp1 rip2 .done (some .ret) :: (bx b1 [vb false] 4) :: [],L2,S14,⟨Mem.tr L3 L2,.inr (⟨rfl,rfl⟩)⟩,rfl⟩
   replace q6:= ifF hc2 q6
   refine wpc_skip ?_
   refine nrmB ?_
   refine ⟨_,_,S12,?_⟩
   intro w13 S15
   have e0:= sI0 q6
   subst e0
   exact ⟨_,Lp lp1 rip2 .ready none :: (bx b1 [vb false] 4) :: [],L2,S15,⟨Mem.tr L3 L2,.inl ⟨rfl,rfl⟩⟩,rfl⟩
  ·try dsimp only at hm1
   rw [if_neg (by rw [hj1]; decide)] at hm1
   cases hm1
 refine CallsR.mono (w_strings_splitSeq_1 (p0:= (fun (s : (Unit) × Nat) (b0 : ByteArray)=> if s.2 = 0 then obind (m_names_name_b5 b0 s) fun y=> some (y.2 == 0,y) else none)) (k0:= x4.1) (k1:= x4.2.1) (k2:= x4.2.2) (s0:= ((),0)) (R:= (fun (s : (Unit) × Nat) (M : Mem) (X : List Ow)=> (m5 ≤ M ∧ (((s).2 = 0 ∧ X = Lp lp1 rip2 .ready none :: (bx b1 [vb false] 4) :: []) ∨ ((s).2 = 1 ∧ X = Lp lp1 rip2 .done (some .ret) :: (bx b1 [vb false] 4) :: []))))) (X0:= ((Lp lp1 rip2 .ready none) :: (bx b1 [vb false] 4) :: [])) (As:= As) S9 (fun l h=> by obtain ⟨Lm,e⟩:= h; exact ⟨Mem.tr Lm l,e⟩) ⟨Mem.rfl' _,.inl ⟨rfl,rfl⟩⟩ @hcb1 rfl q5) ?_
 rintro _ w14 ⟨m8,l7,X2,S16,rfl,⟨L4,h4⟩⟩
 rcases h4 with ⟨hj2,rfl⟩ | ⟨hj2,rfl⟩
 ·rw [if_pos hj2] at hm
  replace S16 : St _ ((bx b2 [vS x5.1] 9) :: (bx b3 [vS x5.2.1] 9) :: (bx b4 [vI x5.2.2.1] 3) :: (Lp lp1 rip2 .ready none) :: (bx b1 [vb false] 4) :: As) _:= S16
  have S17 : St _ ((Lp lp1 rip2 .ready none) :: (bx b2 [vS x5.1] 9) :: (bx b3 [vS x5.2.1] 9) :: (bx b4 [vI x5.2.2.1] 3) :: (bx b1 [vb false] 4) :: As) _:= St.perm S16 (List.Perm.trans (List.Perm.cons _ (List.Perm.cons _ (List.Perm.swap _ _ _))) (List.Perm.trans (List.Perm.cons _ (List.Perm.swap _ _ _)) (List.Perm.swap _ _ _)))
  clear S16
  refine ⟨_,.ready,none,_,l7,(fun h=> by cases h),S17,?_⟩
  intro m9 w15 l8 S18
  have l9:= Mem.tr l7 l8
  replace L0:= Mem.tr L0 l9
  replace S18 : St _ ((bx b2 [vS x5.1] 9) :: (bx b3 [vS x5.2.1] 9) :: (bx b4 [vI x5.2.2.1] 3) :: (bx b1 [vb false] 4) :: As) _:= S18
  refine nrmB ?_
  refine nrm ?_
  refine wpc_seq ?_
  refine wpc_region ?_
  refine s_stL (i:= 3) S18 rfl rfl rfl Tryz.sizeOf4 (oneC rfl oneN) rfl ?_
  intro w16 S19
  replace S19 : St _ ((bx b2 [vS x5.1] 9) :: (bx b3 [vS x5.2.1] 9) :: (bx b4 [vI x5.2.2.1] 3) :: (bx b1 [vb true] 4) :: As) _:= S19
  clear S18
  refine wpl_nil ?_
  refine nrm ?_
  refine wpc_ret ?_
  refine outRw ?_
  intro we hpd
  replace S19:= St.pd S19 hpd
  have SR:= S19
  obtain ⟨m10,l10,S20⟩:= St.drop S19 0
  replace L0:= Mem.tr L0 l10
  replace S20 : St _ ((bx b3 [vS x5.2.1] 9) :: (bx b4 [vI x5.2.2.1] 3) :: (bx b1 [vb true] 4) :: As) _:= S20
  obtain ⟨m11,l11,S21⟩:= St.drop S20 0
  replace L0:= Mem.tr L0 l11
  clear S20
  replace S21 : St _ ((bx b4 [vI x5.2.2.1] 3) :: (bx b1 [vb true] 4) :: As) _:= S21
  obtain ⟨m12,l12,S22⟩:= St.drop S21 0
  replace L0:= Mem.tr L0 l12
  clear S21
  replace S22 : St _ ((bx b1 [vb true] 4) :: As) _:= S22
  obtain ⟨m13,l13,S23⟩:= St.drop S22 0
  replace L0:= Mem.tr L0 l13
  clear S22
  replace S23 : St _ (As) _:= S23
  have e0:= sI0 hm
  subst e0
  exact outR [_] rfl ⟨res_box (i:= 3) (off:= 0) (cs:= [vb true]) SR rfl rfl Tryz.isAgg4 Tryz.sizeOf4 rfl (fun _=> rfl),trivial⟩ ⟨_,L0,S23,rfl⟩
 ·rw [if_neg (show ¬ (x5.2.2.2).2 = 0 by rw [hj2]; decide)] at hm
  replace S16 : St _ ((bx b2 [vS x5.1] 9) :: (bx b3 [vS x5.2.1] 9) :: (bx b4 [vI x5.2.2.1] 3) :: (Lp lp1 rip2 .done (some .ret)) :: (bx b1 [vb false] 4) :: As) _:= S16
  have S24 : St _ ((Lp lp1 rip2 .done (some .ret)) :: (bx b2 [vS x5.1] 9) :: (bx b3 [vS x5.2.1] 9) :: (bx b4 [vI x5.2.2.1] 3) :: (bx b1 [vb false] 4) :: As) _:= St.perm S16 (List.Perm.trans (List.Perm.cons _ (List.Perm.cons _ (List.Perm.swap _ _ _))) (List.Perm.trans (List.Perm.cons _ (List.Perm.swap _ _ _)) (List.Perm.swap _ _ _)))
  clear S16
  refine ⟨_,.done,(some .ret),_,l7,(fun h=> by cases h),S24,?_⟩
  intro m14 w17 l14 S25
  have l15:= Mem.tr l7 l14
  replace L0:= Mem.tr L0 l15
  replace S25 : St _ ((bx b2 [vS x5.1] 9) :: (bx b3 [vS x5.2.1] 9) :: (bx b4 [vI x5.2.2.1] 3) :: (bx b1 [vb false] 4) :: As) _:= S25
  refine wpc_ret ?_
  refine blR ?_
  refine thR ?_
  refine outRw ?_
  intro we hpd
  replace S25:= St.pd S25 hpd
  have SR:= S25
  obtain ⟨m15,l16,S26⟩:= St.drop S25 0
  replace L0:= Mem.tr L0 l16
  replace S26 : St _ ((bx b3 [vS x5.2.1] 9) :: (bx b4 [vI x5.2.2.1] 3) :: (bx b1 [vb false] 4) :: As) _:= S26
  obtain ⟨m16,l17,S27⟩:= St.drop S26 0
  replace L0:= Mem.tr L0 l17
  clear S26
  replace S27 : St _ ((bx b4 [vI x5.2.2.1] 3) :: (bx b1 [vb false] 4) :: As) _:= S27
  obtain ⟨m17,l18,S28⟩:= St.drop S27 0
  replace L0:= Mem.tr L0 l18
  clear S27
  replace S28 : St _ ((bx b1 [vb false] 4) :: As) _:= S28
  obtain ⟨m18,l19,S29⟩:= St.drop S28 0
  replace L0:= Mem.tr L0 l19
  clear S28
  replace S29 : St _ (As) _:= S29
  have e0:= sI0 hm
  subst e0
  exact outR [_] rfl ⟨res_box (i:= 3) (off:= 0) (cs:= [vb false]) SR rfl rfl Tryz.isAgg4 Tryz.sizeOf4 rfl (fun _=> rfl),trivial⟩ ⟨_,L0,S29,rfl⟩
theorem s_names_name {a0 : ByteArray} {a1 : Int} {a2 : Int} {r : Bool} (hm : m_names_name a0 a1 a2 = some r) : Sf prog 154 [.d (.s a0),.d (.i a1),.d (.i a2)] (.d (.t r)) :=
 ⟨call154,fun η m As w vs hv0 hd S=> by
  have S : St m As w:= S
  obtain ⟨v0,u0,rfl,r0,hv1⟩:= RelL.cons_inv hv0
  obtain rfl:= r0.s_inv
  obtain ⟨v1,u1,rfl,r1,hv2⟩:= RelL.cons_inv hv1
  obtain rfl:= r1.i_inv
  obtain ⟨v2,u2,rfl,r2,hv3⟩:= RelL.cons_inv hv2
  obtain rfl:= r2.i_inv
  obtain rfl:= RelL.nil_inv hv3
  refine CallsR.mono (w_names_name S  hm) ?_
  rintro v w' ⟨M,hle,S0,rfl⟩
  exact ⟨M,none0,_,_,_,hle,dom0 hd _,⟨rfl,rfl,rfl⟩,fun n h=> absurd rfl h,(.d (.t _)),S0⟩⟩
def m_names_is (a0 : ByteArray) : Option Bool :=
 obind (m_names_name a0 8 64) fun x1 =>
 some x1
theorem w_names_is {a0 : ByteArray} {r : Bool} (hm : m_names_is a0 = some r) : Sf prog 116 [.d (.s a0)] (.d (.t r)) :=
 sp call116 func116 rfl ntmps116 rfl fun D0 As η0 m0 hd=> by
  unfold m_names_is at hm
  obtain ⟨x1,q1,hm⟩:= oY0 hm
  refine gc (fun _=> s_names_name q1) (by kernel_rfl) ?_
  have e0:= sI0 hm
  subst e0
  exact gend hd (by kernel_rfl)
def m_internal_stringslite_HasPrefix (a0 : ByteArray) (a1 : ByteArray) : Option Bool :=
 obind (gu (decide ((a0.size : Int) ≥ (a1.size : Int))) (cutS a0 0 (a1.size : Int))) fun x1 =>
 bnd (((decide ((a0.size : Int) ≥ (a1.size : Int))) && (eqS x1 a1))) fun x2 =>
 some x2
theorem w_internal_stringslite_HasPrefix {a0 : ByteArray} {a1 : ByteArray} {r : Bool} (hm : m_internal_stringslite_HasPrefix a0 a1 = some r) : Sf prog 192 [.d (.s a0),.d (.s a1)] (.d (.t r)) :=
 sp call192 func192 rfl ntmps192 rfl fun D0 As η0 m0 hd=> by
  unfold m_internal_stringslite_HasPrefix at hm
  obtain ⟨x1,q1,hm⟩:= oY0 hm
  refine gcutSG (fun h=> gu_t h q1) (by kernel_rfl) ?_
  have hm:= bnd_is hm
  let x2 : Bool:= (((decide ((a0.size : Int) ≥ (a1.size : Int))) && (eqS x1 a1)))
  have e0:= sI0 hm
  subst e0
  exact gend hd (by kernel_rfl)
def m_internal_stringslite_CutPrefix (a0 : ByteArray) (a1 : ByteArray) : Option (ByteArray × Bool) :=
 obind (m_internal_stringslite_HasPrefix a0 a1) fun x1 =>
 if (!x1) = true then
  some (a0,false)
 else
 obind (cutS a0 (a1.size : Int) (a0.size : Int)) fun x2 =>
 some (x2,true)
theorem w_internal_stringslite_CutPrefix {a0 : ByteArray} {a1 : ByteArray} {r : ByteArray × Bool} (hm : m_internal_stringslite_CutPrefix a0 a1 = some r) : Sf prog 183 [.d (.s a0),.d (.s a1)] (.tup [.d (.s r.1),.d (.t r.2)]) :=
 sp call183 func183 rfl ntmps183 rfl fun D0 As η0 m0 hd=> by
  unfold m_internal_stringslite_CutPrefix at hm
  obtain ⟨x1,q1,hm⟩:= oY0 hm
  refine gc (fun _=> w_internal_stringslite_HasPrefix q1) (by kernel_rfl) ?_
  refine gi hm (by kernel_rfl) (fun hc1 hm=> ?_) fun hc1 hm=> ?_
  ·skip
   have e0:= sI0 hm
   subst e0
   exact gend hd (by kernel_rfl)
  obtain ⟨x2,q2,hm⟩:= oY0 hm
  refine gcutS (fun _=> q2) (by kernel_rfl) ?_
  have e0:= sI0 hm
  subst e0
  exact gend hd (by kernel_rfl)
def m_strings_CutPrefix (a0 : ByteArray) (a1 : ByteArray) : Option (ByteArray × Bool) :=
 obind (m_internal_stringslite_CutPrefix a0 a1) fun x1 =>
 some (x1.1,x1.2)
theorem w_strings_CutPrefix {a0 : ByteArray} {a1 : ByteArray} {r : ByteArray × Bool} (hm : m_strings_CutPrefix a0 a1 = some r) : Sf prog 153 [.d (.s a0),.d (.s a1)] (.tup [.d (.s r.1),.d (.t r.2)]) :=
 sp call153 func153 rfl ntmps153 rfl fun D0 As η0 m0 hd=> by
  unfold m_strings_CutPrefix at hm
  obtain ⟨x1,q1,hm⟩:= oY0 hm
  refine gc (fun _=> w_internal_stringslite_CutPrefix q1) (by kernel_rfl) ?_
  have e0:= sI0 hm
  subst e0
  exact gend hd (by kernel_rfl)
def m_names_pattern (a0 : ByteArray) : Option (ByteArray × Bool × Bool) :=
 obind (m_names_is a0) fun x1 =>
 if x1 = true then
  some (a0,false,true)
 else
 obind (m_strings_CutPrefix a0 (⟨#[42,46]⟩ : ByteArray)) fun x2 =>
 obind (gu x2.2 (m_names_name x2.1 7 62)) fun x3 =>
 some (x2.1,x2.2,(x2.2 && x3))
theorem w_names_pattern {a0 : ByteArray} {r : ByteArray × Bool × Bool} (hm : m_names_pattern a0 = some r) : Sf prog 114 [.d (.s a0)] (.tup [.d (.s r.1),.d (.t r.2.1),.d (.t r.2.2)]) :=
 sp call114 func114 rfl ntmps114 rfl fun D0 As η0 m0 hd=> by
  unfold m_names_pattern at hm
  obtain ⟨x1,q1,hm⟩:= oY0 hm
  refine gc (fun _=> w_names_is q1) (by kernel_rfl) ?_
  refine gi hm (by kernel_rfl) (fun hc1 hm=> ?_) fun hc1 hm=> ?_
  ·skip
   have e0:= sI0 hm
   subst e0
   exact gend hd (by kernel_rfl)
  obtain ⟨x2,q2,hm⟩:= oY0 hm
  refine gc (fun _=> w_strings_CutPrefix q2) (by kernel_rfl) ?_
  obtain ⟨x3,q3,hm⟩:= oY0 hm
  refine gcG (fun h=> s_names_name (gu_t h q3)) (by kernel_rfl) ?_
  have e0:= sI0 hm
  subst e0
  exact gend hd (by kernel_rfl)
def m_names_told (a0 : Bool) : Option Int :=
 if a0 = true then
  some 0
 else
 some 110
theorem w_names_told {a0 : Bool} {r : Int} (hm : m_names_told a0 = some r) : Sf prog 115 [.d (.t a0)] (.d (.i r)) :=
 sp call115 func115 rfl ntmps115 rfl fun D0 As η0 m0 hd=> by
  unfold m_names_told at hm
  refine gi hm (by kernel_rfl) (fun hc1 hm=> ?_) fun hc1 hm=> ?_
  ·skip
   have e0:= sI0 hm
   subst e0
   exact gend hd (by kernel_rfl)
  have e0:= sI0 hm
  subst e0
  exact gend hd (by kernel_rfl)
def m_names_Pattern (a0 : ByteArray) : Option Int :=
 obind (m_names_pattern a0) fun x1 =>
 obind (m_names_told x1.2.2) fun x2 =>
 some x2
theorem w_names_Pattern {a0 : ByteArray} {r : Int} (hm : m_names_Pattern a0 = some r) : Sf prog 65 [.d (.s a0)] (.d (.i r)) :=
 sp call65 func65 rfl ntmps65 rfl fun D0 As η0 m0 hd=> by
  unfold m_names_Pattern at hm
  obtain ⟨x1,q1,hm⟩:= oY0 hm
  refine gc (fun _=> w_names_pattern q1) (by kernel_rfl) ?_
  obtain ⟨x2,q2,hm⟩:= oY0 hm
  refine gc (fun _=> w_names_told q2) (by kernel_rfl) ?_
  have e0:= sI0 hm
  subst e0
  exact gend hd (by kernel_rfl)
def m_names_Check (a0 : ByteArray) : Option Int :=
 obind (m_names_is a0) fun x1 =>
 obind (m_names_told x1) fun x2 =>
 some x2
theorem w_names_Check {a0 : ByteArray} {r : Int} (hm : m_names_Check a0 = some r) : Sf prog 66 [.d (.s a0)] (.d (.i r)) :=
 sp call66 func66 rfl ntmps66 rfl fun D0 As η0 m0 hd=> by
  unfold m_names_Check at hm
  obtain ⟨x1,q1,hm⟩:= oY0 hm
  refine gc (fun _=> w_names_is q1) (by kernel_rfl) ?_
  obtain ⟨x2,q2,hm⟩:= oY0 hm
  refine gc (fun _=> w_names_told q2) (by kernel_rfl) ?_
  have e0:= sI0 hm
  subst e0
  exact gend hd (by kernel_rfl)
def m_cert_list_65x_b2  (i1 : Int) (x2 : ByteArray) (s1 : (List (ByteArray × Bool))) : Option (((List (ByteArray × Bool))) ⊕ Bool) :=
 obind (gu (!(lkB s1 x2)) (m_names_Pattern x2)) fun x3 =>
 if ((lkB s1 x2) || (x3 != 0)) = true then
  some (.inr false)
 else
 if (lkI s1 x2 0).isNone = true then
  some (.inl (s1 ++ [(x2,true)]))
 else none
def m_cert_list_65x (a0 : List ByteArray) (a1 : Int) (a2 : Int) : Option Bool :=
 obind (eachR m_cert_list_65x_b2 a0 0 ([] : List (ByteArray × Bool))) fun x1=> match x1 with
 | .inr r=> some r
 | .inl y1 =>
 bnd (((decide ((a0.length : Int) ≥ a1)) && (decide ((a0.length : Int) ≤ a2)))) fun x4 =>
 some x4
theorem w_cert_list_65x {a0 : List ByteArray} {a1 : Int} {a2 : Int} {r : Bool} (hm : m_cert_list_65x a0 a1 a2 = some r) : Sf prog 64 [sl eS a0,.d (.i a1),.d (.i a2),.fn (.func 65) [] []] (.d (.t r)) :=
 sp call64 func64 rfl ntmps64 rfl fun D0 As η0 m0 hd=> by
  unfold m_cert_list_65x at hm
  refine gmkm (by kernel_rfl) ?_
  obtain ⟨x1,q1,hm⟩:= oY0 hm
  refine glen 0 (E:= eS) (xs:= a0) 13 (by kernel_rfl) fun hle1=> ?_
  refine gjU 0 (fun (y1 : (List (ByteArray × Bool)))=> ⟨[(0,sl eS a0),(1,.d (.i a1)),(2,.d (.i a2)),(12,.ow 0)],[(0,.hp 0 (.mp y1))],[],1⟩) (fun y1=> x1 = .inl y1) (by kernel_rfl) (fun Jp bk1=> ?_) fun y1 hy=> ?_
  ·refine gl hd (fun (p : Int × ((List (ByteArray × Bool))))=> let (p0,p_0):= p; ⟨[(0,sl eS a0),(1,.d (.i a1)),(2,.d (.i a2)),(3,.fn (.func 65) [] []),(9,.ow 0),(13,sl eS a0),(14,.d (.i (a0.length : Int))),(15,.d (.i p0)),(12,.ow 0)],[(0,.hp 0 (.mp p_0))],[],1⟩) (fun p=> ∃ i : Nat,p.1 = (i : Int) ∧ i ≤ a0.length ∧ eachR m_cert_list_65x_b2 (a0.drop i) (i : Int) p.2 = some x1) (fun p=> a0.length - p.1.toNat) (0,([] : List (ByteArray × Bool))) ⟨0,rfl,Nat.zero_le _,q1⟩ (by kernel_rfl) ?_
   rintro ⟨_,s1⟩ ⟨i1,rfl,hi,q2⟩ Jl bl1
   refine gi' (b:= decide ((i1 : Int) < (a0.length : Int))) (by kernel_rfl) (fun hc2=> ?_) fun hc2=> ?_
   ·have hlt1 : i1 < a0.length:= by have:= of_decide_eq_true hc2; omega
    obtain ⟨x2,y2,q5,q4,q3⟩:= eachR_in q2 hlt1
    unfold m_cert_list_65x_b2 at q4
    refine gidx (k:= 1) (E:= eS) (fun _=> rfl) (fun _=> q5) (by kernel_rfl) ?_
    refine glk s1 x2 (by kernel_rfl) ?_
    obtain ⟨x3,q6,q4⟩:= oY0 q4
    refine gcG (fun h=> w_names_Pattern (gu_t h q6)) (by kernel_rfl) ?_
    refine gi q4 (by kernel_rfl) (fun hc1 q4=> ?_) fun hc1 q4=> ?_
    ·skip
     cases q4
     rcases q3 with ⟨sn,e,_⟩ | ⟨tn,e,e2⟩
     ·cases e
     cases e
     cases e2
     dsimp only at hm
     have e0:= sI0 hm
     subst e0
     exact gend hd (by kernel_rfl)
    obtain ⟨q7,q4⟩:= if_some q4
    refine gup q7 (by kernel_rfl) ?_
    have e0:= sI0 q4
    subst e0
    rcases q3 with ⟨sn,e,q3'⟩ | ⟨tn,e,_⟩
    ·have e:= Sum.inl.inj e
     subst e
     exact gb bl1 hd (w64 ((i1 : Int) + 1),_) ⟨⟨i1 + 1,w64_succ hlt1 hle1,by omega,q3'⟩,mu_lt hlt1 hle1⟩ (by kernel_rfl)
    cases sum_lr e
   have hlt1 : ¬ i1 < a0.length:= by have:= of_decide_eq_false hc2; omega
   have e:= eachR_out q2 hlt1
   cases e
   exact gb bk1 hd _ rfl (by kernel_rfl)
  subst hy
  dsimp only at hm
  have hm:= bnd_is hm
  let x4 : Bool:= (((decide ((a0.length : Int) ≥ a1)) && (decide ((a0.length : Int) ≤ a2))))
  have e0:= sI0 hm
  subst e0
  exact gend hd (by kernel_rfl)
def m_cert_list_66x_b2  (i1 : Int) (x2 : ByteArray) (s1 : (List (ByteArray × Bool))) : Option (((List (ByteArray × Bool))) ⊕ Bool) :=
 obind (gu (!(lkB s1 x2)) (m_names_Check x2)) fun x3 =>
 if ((lkB s1 x2) || (x3 != 0)) = true then
  some (.inr false)
 else
 if (lkI s1 x2 0).isNone = true then
  some (.inl (s1 ++ [(x2,true)]))
 else none
def m_cert_list_66x (a0 : List ByteArray) (a1 : Int) (a2 : Int) : Option Bool :=
 obind (eachR m_cert_list_66x_b2 a0 0 ([] : List (ByteArray × Bool))) fun x1=> match x1 with
 | .inr r=> some r
 | .inl y1 =>
 bnd (((decide ((a0.length : Int) ≥ a1)) && (decide ((a0.length : Int) ≤ a2)))) fun x4 =>
 some x4
theorem w_cert_list_66x {a0 : List ByteArray} {a1 : Int} {a2 : Int} {r : Bool} (hm : m_cert_list_66x a0 a1 a2 = some r) : Sf prog 64 [sl eS a0,.d (.i a1),.d (.i a2),.fn (.func 66) [] []] (.d (.t r)) :=
 sp call64 func64 rfl ntmps64 rfl fun D0 As η0 m0 hd=> by
  unfold m_cert_list_66x at hm
  refine gmkm (by kernel_rfl) ?_
  obtain ⟨x1,q1,hm⟩:= oY0 hm
  refine glen 0 (E:= eS) (xs:= a0) 13 (by kernel_rfl) fun hle1=> ?_
  refine gjU 0 (fun (y1 : (List (ByteArray × Bool)))=> ⟨[(0,sl eS a0),(1,.d (.i a1)),(2,.d (.i a2)),(12,.ow 0)],[(0,.hp 0 (.mp y1))],[],1⟩) (fun y1=> x1 = .inl y1) (by kernel_rfl) (fun Jp bk1=> ?_) fun y1 hy=> ?_
  ·refine gl hd (fun (p : Int × ((List (ByteArray × Bool))))=> let (p0,p_0):= p; ⟨[(0,sl eS a0),(1,.d (.i a1)),(2,.d (.i a2)),(3,.fn (.func 66) [] []),(9,.ow 0),(13,sl eS a0),(14,.d (.i (a0.length : Int))),(15,.d (.i p0)),(12,.ow 0)],[(0,.hp 0 (.mp p_0))],[],1⟩) (fun p=> ∃ i : Nat,p.1 = (i : Int) ∧ i ≤ a0.length ∧ eachR m_cert_list_66x_b2 (a0.drop i) (i : Int) p.2 = some x1) (fun p=> a0.length - p.1.toNat) (0,([] : List (ByteArray × Bool))) ⟨0,rfl,Nat.zero_le _,q1⟩ (by kernel_rfl) ?_
   rintro ⟨_,s1⟩ ⟨i1,rfl,hi,q2⟩ Jl bl1
   refine gi' (b:= decide ((i1 : Int) < (a0.length : Int))) (by kernel_rfl) (fun hc2=> ?_) fun hc2=> ?_
   ·have hlt1 : i1 < a0.length:= by have:= of_decide_eq_true hc2; omega
    obtain ⟨x2,y2,q5,q4,q3⟩:= eachR_in q2 hlt1
    unfold m_cert_list_66x_b2 at q4
    refine gidx (k:= 1) (E:= eS) (fun _=> rfl) (fun _=> q5) (by kernel_rfl) ?_
    refine glk s1 x2 (by kernel_rfl) ?_
    obtain ⟨x3,q6,q4⟩:= oY0 q4
    refine gcG (fun h=> w_names_Check (gu_t h q6)) (by kernel_rfl) ?_
    refine gi q4 (by kernel_rfl) (fun hc1 q4=> ?_) fun hc1 q4=> ?_
    ·skip
     cases q4
     rcases q3 with ⟨sn,e,_⟩ | ⟨tn,e,e2⟩
     ·cases e
     cases e
     cases e2
     dsimp only at hm
     have e0:= sI0 hm
     subst e0
     exact gend hd (by kernel_rfl)
    obtain ⟨q7,q4⟩:= if_some q4
    refine gup q7 (by kernel_rfl) ?_
    have e0:= sI0 q4
    subst e0
    rcases q3 with ⟨sn,e,q3'⟩ | ⟨tn,e,_⟩
    ·have e:= Sum.inl.inj e
     subst e
     exact gb bl1 hd (w64 ((i1 : Int) + 1),_) ⟨⟨i1 + 1,w64_succ hlt1 hle1,by omega,q3'⟩,mu_lt hlt1 hle1⟩ (by kernel_rfl)
    cases sum_lr e
   have hlt1 : ¬ i1 < a0.length:= by have:= of_decide_eq_false hc2; omega
   have e:= eachR_out q2 hlt1
   cases e
   exact gb bk1 hd _ rfl (by kernel_rfl)
  subst hy
  dsimp only at hm
  have hm:= bnd_is hm
  let x4 : Bool:= (((decide ((a0.length : Int) ≥ a1)) && (decide ((a0.length : Int) ≤ a2))))
  have e0:= sI0 hm
  subst e0
  exact gend hd (by kernel_rfl)
def m_cert_formed_b2  (i1 : Int) (x2 : g_api_Promise) (s1 : Int) : Option ((Int) ⊕ Bool) :=
 obind (m_cert_promised x2) fun x3 =>
 if ((!x3) || (decide (x2.Log ≤ s1))) = true then
  some (.inr false)
 else
 some (.inl x2.Log)
def m_cert_formed (a0 : g_api_Cert) : Option Bool :=
 obind (eachR m_cert_formed_b2 a0.Proms 0 (-1)) fun x1=> match x1 with
 | .inr r=> some r
 | .inl y1 =>
 obind (m_cert_number a0.Serial) fun x4 =>
 obind (gu (!(!x4)) (m_cert_number a0.From)) fun x5 =>
 obind (gu (!((!x4) || (!x5))) (m_cert_number a0.Until)) fun x6 =>
 bnd (((((!x4) || (!x5)) || (!x6)) || (decide (a0.From ≥ a0.Until)))) fun x7 =>
 if x7 = true then
  some false
 else
 obind (m_cert_text a0.Issuer) fun x8 =>
 obind (gu (!((((!x8) || ((a0.Key.toNat : Int) == 0)) || (decide ((a0.Key.toNat : Int) ≥ 2305843009213691579))) || (decide ((a0.Proms.length : Int) > 4)))) (m_cert_signed a0.Sig)) fun x9 =>
 bnd ((((((!x8) || ((a0.Key.toNat : Int) == 0)) || (decide ((a0.Key.toNat : Int) ≥ 2305843009213691579))) || (decide ((a0.Proms.length : Int) > 4))) || (!x9))) fun x10 =>
 if x10 = true then
  some false
 else
 if a0.Ca = true then
  obind (m_cert_text a0.Subject) fun x11 =>
  obind (gu (((x11 && ((a0.Names.length : Int) == 0)) && (decide (a0.Depth ≥ 0))) && (decide (a0.Depth ≤ 4))) (m_cert_list_65x a0.Permit 0 8)) fun x12 =>
  bnd (((((x11 && ((a0.Names.length : Int) == 0)) && (decide (a0.Depth ≥ 0))) && (decide (a0.Depth ≤ 4))) && x12)) fun x13 =>
  some x13
 else
 obind (gu (eqS a0.Subject (⟨#[]⟩ : ByteArray)) (m_cert_list_66x a0.Names 1 8)) fun x14 =>
 bnd (((((eqS a0.Subject (⟨#[]⟩ : ByteArray)) && x14) && (a0.Depth == 0)) && ((a0.Permit.length : Int) == 0))) fun x15 =>
 some x15
theorem w_cert_formed {a0 : g_api_Cert} {r : Bool} (hm : m_cert_formed a0 = some r) : Sf prog 37 [ag (e_api_Cert a0)] (.d (.t r)) :=
 sp call37 func37 rfl ntmps37 rfl fun D0 As η0 m0 hd=> by
  unfold m_cert_formed at hm
  obtain ⟨x1,q1,hm⟩:= oY0 hm
  refine glen 0 (E:= e_api_Promise) (xs:= a0.Proms) 7 (by kernel_rfl) fun hle1=> ?_
  refine gjU 0 (fun (y1 : Int)=> ⟨[(1,.pb 0 0),(3,.d (.i y1))],[(0,.box 0 [.d (.i a0.Serial),.d (.s a0.Issuer),.d (.s a0.Subject),.d (.u a0.Key),sl eS a0.Names,.d (.i a0.From),.d (.i a0.Until),.d (.t a0.Ca),.d (.i a0.Depth),sl eS a0.Permit,sl e_api_Promise a0.Proms,.d (.u a0.Sig.E),.d (.u a0.Sig.S)] 28)],[],1⟩) (fun y1=> x1 = .inl y1) (by kernel_rfl) (fun Jp bk1=> ?_) fun y1 hy=> ?_
  ·refine gl hd (fun (p : Int × (Int))=> let (p0,p_0):= p; ⟨[(1,.pb 0 0),(3,.d (.i p_0)),(7,sl e_api_Promise a0.Proms),(8,.d (.i (a0.Proms.length : Int))),(9,.d (.i p0))],[(0,.box 0 [.d (.i a0.Serial),.d (.s a0.Issuer),.d (.s a0.Subject),.d (.u a0.Key),sl eS a0.Names,.d (.i a0.From),.d (.i a0.Until),.d (.t a0.Ca),.d (.i a0.Depth),sl eS a0.Permit,sl e_api_Promise a0.Proms,.d (.u a0.Sig.E),.d (.u a0.Sig.S)] 28)],[],1⟩) (fun p=> ∃ i : Nat,p.1 = (i : Int) ∧ i ≤ a0.Proms.length ∧ eachR m_cert_formed_b2 (a0.Proms.drop i) (i : Int) p.2 = some x1) (fun p=> a0.Proms.length - p.1.toNat) (0,(-1)) ⟨0,rfl,Nat.zero_le _,q1⟩ (by kernel_rfl) ?_
   rintro ⟨_,s1⟩ ⟨i1,rfl,hi,q2⟩ Jl bl1
   refine gi' (b:= decide ((i1 : Int) < (a0.Proms.length : Int))) (by kernel_rfl) (fun hc2=> ?_) fun hc2=> ?_
   ·have hlt1 : i1 < a0.Proms.length:= by have:= of_decide_eq_true hc2; omega
    obtain ⟨x2,y2,q5,q4,q3⟩:= eachR_in q2 hlt1
    unfold m_cert_formed_b2 at q4
    refine gidx (k:= 6) (E:= e_api_Promise) (fun _=> rfl) (fun _=> q5) (by kernel_rfl) ?_
    obtain ⟨x3,q6,q4⟩:= oY0 q4
    refine gc (fun _=> w_cert_promised q6) (by kernel_rfl) ?_
    refine gi q4 (by kernel_rfl) (fun hc1 q4=> ?_) fun hc1 q4=> ?_
    ·skip
     cases q4
     rcases q3 with ⟨sn,e,_⟩ | ⟨tn,e,e2⟩
     ·cases e
     cases e
     cases e2
     dsimp only at hm
     have e0:= sI0 hm
     subst e0
     exact gend hd (by kernel_rfl)
    have e0:= sI0 q4
    subst e0
    rcases q3 with ⟨sn,e,q3'⟩ | ⟨tn,e,_⟩
    ·have e:= Sum.inl.inj e
     subst e
     exact gb bl1 hd (w64 ((i1 : Int) + 1),_) ⟨⟨i1 + 1,w64_succ hlt1 hle1,by omega,q3'⟩,mu_lt hlt1 hle1⟩ (by kernel_rfl)
    cases sum_lr e
   have hlt1 : ¬ i1 < a0.Proms.length:= by have:= of_decide_eq_false hc2; omega
   have e:= eachR_out q2 hlt1
   cases e
   exact gb bk1 hd _ rfl (by kernel_rfl)
  subst hy
  dsimp only at hm
  obtain ⟨x4,q7,hm⟩:= oY0 hm
  refine gc (fun _=> w_cert_number q7) (by kernel_rfl) ?_
  obtain ⟨x5,q8,hm⟩:= oY0 hm
  refine gcG (fun h=> w_cert_number (gu_t h q8)) (by kernel_rfl) ?_
  obtain ⟨x6,q9,hm⟩:= oY0 hm
  refine gcG (fun h=> w_cert_number (gu_t h q9)) (by kernel_rfl) ?_
  have hm:= bnd_is hm
  let x7 : Bool:= (((((!x4) || (!x5)) || (!x6)) || (decide (a0.From ≥ a0.Until))))
  refine gi hm (by kernel_rfl) (fun hc3 hm=> ?_) fun hc3 hm=> ?_
  ·skip
   have e0:= sI0 hm
   subst e0
   exact gend hd (by kernel_rfl)
  obtain ⟨x8,q11,hm⟩:= oY0 hm
  refine gc (fun _=> w_cert_text q11) (by kernel_rfl) ?_
  obtain ⟨x9,q12,hm⟩:= oY0 hm
  refine gcG (fun h=> w_cert_signed (gu_t h q12)) (by kernel_rfl) ?_
  have hm:= bnd_is hm
  let x10 : Bool:= ((((((!x8) || ((a0.Key.toNat : Int) == 0)) || (decide ((a0.Key.toNat : Int) ≥ 2305843009213691579))) || (decide ((a0.Proms.length : Int) > 4))) || (!x9)))
  refine gi hm (by kernel_rfl) (fun hc4 hm=> ?_) fun hc4 hm=> ?_
  ·skip
   have e0:= sI0 hm
   subst e0
   exact gend hd (by kernel_rfl)
  refine gi hm (by kernel_rfl) (fun hc5 hm=> ?_) fun hc5 hm=> ?_
  ·skip
   obtain ⟨x11,q14,hm⟩:= oY0 hm
   refine gc (fun _=> w_cert_text q14) (by kernel_rfl) ?_
   obtain ⟨x12,q15,hm⟩:= oY0 hm
   refine gcG (fun h=> w_cert_list_65x (gu_t h q15)) (by kernel_rfl) ?_
   have hm:= bnd_is hm
   let x13 : Bool:= (((((x11 && ((a0.Names.length : Int) == 0)) && (decide (a0.Depth ≥ 0))) && (decide (a0.Depth ≤ 4))) && x12))
   have e0:= sI0 hm
   subst e0
   exact gend hd (by kernel_rfl)
  obtain ⟨x14,q17,hm⟩:= oY0 hm
  refine gcG (fun h=> w_cert_list_66x (gu_t h q17)) (by kernel_rfl) ?_
  have hm:= bnd_is hm
  let x15 : Bool:= (((((eqS a0.Subject (⟨#[]⟩ : ByteArray)) && x14) && (a0.Depth == 0)) && ((a0.Permit.length : Int) == 0)))
  have e0:= sI0 hm
  subst e0
  exact gend hd (by kernel_rfl)
def m_der_find_1 (a0 : g_der_kind) (k0 : Int) : Option (Bool × Int) :=
 some ((a0.tag_ == k0),k0)
theorem w_der_find_1 {a0 : g_der_kind} {k0 : Int} {r : Bool × Int} (hm : m_der_find_1 a0 k0 = some r) : Sp prog 156 [ag (e_der_kind a0),.pb 0 0] [.box 0 [.d (.i k0)] 3] 1 (is (.d (.t r.1)) [.box 0 [.d (.i r.2)] 3] 1) :=
 sp call156 func156 rfl ntmps156 rfl fun D0 As η0 m0 hd=> by
  unfold m_der_find_1 at hm
  have e0:= sI0 hm
  subst e0
  exact gend hd (by kernel_rfl)
def m_slices_IndexFunc_der_kind_der_kind_156x_b1 (a0 : List g_der_kind) (i1 : Int) (s1 : Int) : Option ((Int) ⊕ (Int × Int)) :=
 obind (idx a0 (i1 : Int)) fun x3 =>
 obind (m_der_find_1 x3 s1) fun x4 =>
 if x4.1 = true then
  some (.inr ((i1 : Int),x4.2))
 else
 some (.inl x4.2)
def m_slices_IndexFunc_der_kind_der_kind_156x (a0 : List g_der_kind) (k0 : Int) : Option (Int × Int) :=
 obind (eachN (m_slices_IndexFunc_der_kind_der_kind_156x_b1 a0) a0.length 0 k0) fun x1=> match x1 with
 | .inr r=> some r
 | .inl y1 =>
 some ((-1),y1)
theorem w_slices_IndexFunc_der_kind_der_kind_156x {a0 : List g_der_kind} {k0 : Int} {r : Int × Int} (hm : m_slices_IndexFunc_der_kind_der_kind_156x a0 k0 = some r) : Sp prog 155 [sl e_der_kind a0,.fn (.func 156) [] [.pb 0 0]] [.box 0 [.d (.i k0)] 3] 1 (is (.d (.i r.1)) [.box 0 [.d (.i r.2)] 3] 1) :=
 sp call155 func155 rfl ntmps155 rfl fun D0 As η0 m0 hd=> by
  unfold m_slices_IndexFunc_der_kind_der_kind_156x at hm
  obtain ⟨x1,q1,hm⟩:= oY0 hm
  refine glen 0 (E:= e_der_kind) (xs:= a0) 6 (by kernel_rfl) fun hle1=> ?_
  refine gjU 0 (fun (y1 : Int)=> ⟨[],[(0,.box 0 [.d (.i y1)] 3)],[],1⟩) (fun y1=> x1 = .inl y1) (by kernel_rfl) (fun Jp bk1=> ?_) fun y1 hy=> ?_
  ·refine gl hd (fun (p : Int × (Int))=> let (p0,p_0):= p; ⟨[(0,sl e_der_kind a0),(1,.fn (.func 156) [] [.pb 0 0]),(7,.d (.i (a0.length : Int))),(8,.d (.i p0))],[(0,.box 0 [.d (.i p_0)] 3)],[],1⟩) (fun p=> ∃ i : Nat,p.1 = (i : Int) ∧ i ≤ a0.length ∧ eachN (m_slices_IndexFunc_der_kind_der_kind_156x_b1 a0) (a0.length - i) (i : Int) p.2 = some x1) (fun p=> a0.length - p.1.toNat) (0,k0) ⟨0,rfl,Nat.zero_le _,q1⟩ (by kernel_rfl) ?_
   rintro ⟨_,s1⟩ ⟨i1,rfl,hi,q2⟩ Jl bl1
   refine gi' (b:= decide ((i1 : Int) < (a0.length : Int))) (by kernel_rfl) (fun hc2=> ?_) fun hc2=> ?_
   ·have hlt1 : i1 < a0.length:= by have:= of_decide_eq_true hc2; omega
    obtain ⟨y2,q4,q3⟩:= eachN_in q2 hlt1
    unfold m_slices_IndexFunc_der_kind_der_kind_156x_b1 at q4
    obtain ⟨x3,q6,q4⟩:= oY0 q4
    refine gidx (k:= 2) (E:= e_der_kind) (fun _=> rfl) (fun _=> q6) (by kernel_rfl) ?_
    obtain ⟨x4,q7,q4⟩:= oY0 q4
    refine gco (w_der_find_1 q7) (by kernel_rfl) ?_
    refine gi q4 (by kernel_rfl) (fun hc1 q4=> ?_) fun hc1 q4=> ?_
    ·skip
     cases q4
     rcases q3 with ⟨sn,e,_⟩ | ⟨tn,e,e2⟩
     ·cases e
     cases e
     cases e2
     dsimp only at hm
     have e0:= sI0 hm
     subst e0
     exact gend hd (by kernel_rfl)
    have e0:= sI0 q4
    subst e0
    rcases q3 with ⟨sn,e,q3'⟩ | ⟨tn,e,_⟩
    ·have e:= Sum.inl.inj e
     subst e
     exact gb bl1 hd (w64 ((i1 : Int) + 1),_) ⟨⟨i1 + 1,w64_succ hlt1 hle1,by omega,q3'⟩,mu_lt hlt1 hle1⟩ (by kernel_rfl)
    cases sum_lr e
   have hlt1 : ¬ i1 < a0.length:= by have:= of_decide_eq_false hc2; omega
   have e:= eachN_out q2 hlt1
   cases e
   exact gb bk1 hd _ rfl (by kernel_rfl)
  subst hy
  dsimp only at hm
  have e0:= sI0 hm
  subst e0
  exact gend hd (by kernel_rfl)
def m_der_find (a0 : Int) : Option (g_der_kind × Bool) :=
 obind (m_slices_IndexFunc_der_kind_der_kind_156x tab_0 a0) fun x1 =>
 if (decide (x1.1 < 0)) = true then
  some ((⟨0,(-1)⟩ : g_der_kind),false)
 else
 obind (idx tab_0 x1.1) fun x2 =>
 some (x2,true)
theorem w_der_find {a0 : Int} {r : g_der_kind × Bool} (hm : m_der_find a0 = some r) : Sf prog 117 [.d (.i a0)] (.tup [ag (e_der_kind r.1),.d (.t r.2)]) :=
 sp call117 func117 rfl ntmps117 rfl fun D0 As η0 m0 hd=> by
  unfold m_der_find at hm
  refine gslG (k:= 2) (E:= e_der_kind) tab_0 (fun _=> rfl) (by kernel_rfl) ?_
  obtain ⟨x1,q1,hm⟩:= oY0 hm
  refine gco (w_slices_IndexFunc_der_kind_der_kind_156x q1) (by kernel_rfl) ?_
  refine gi hm (by kernel_rfl) (fun hc1 hm=> ?_) fun hc1 hm=> ?_
  ·skip
   have e0:= sI0 hm
   subst e0
   exact gend hd (by kernel_rfl)
  obtain ⟨x2,q2,hm⟩:= oY0 hm
  refine gidG (k:= 2) (E:= e_der_kind) tab_0 (fun _=> rfl) (fun _=> q2) (by kernel_rfl) ?_
  have e0:= sI0 hm
  subst e0
  exact gend hd (by kernel_rfl)
def m_dyn_34 (n : Int) (a0 : List UInt8) : Option Bool :=
 if n = 128 then m_der_least a0 else
 if n = 228 then m_der_kinds_1 a0 else
 if n = 229 then m_der_kinds_2 a0 else
 if n = 230 then m_der_kinds_3 a0 else
 if n = 233 then m_der_kinds_4 a0 else
 none
theorem w_dyn_34 {n : Int} {a0 : List UInt8} {r : Bool} (hm : m_dyn_34 n a0 = some r) : ∃ k : Nat,n = (k : Int) ∧ Sf prog k [sl eB a0] (.d (.t r)):= by
 unfold m_dyn_34 at hm
 split at hm
 ·rename_i h
  exact ⟨128,h,w_der_least hm⟩
 split at hm
 ·rename_i h
  exact ⟨228,h,w_der_kinds_1 hm⟩
 split at hm
 ·rename_i h
  exact ⟨229,h,w_der_kinds_2 hm⟩
 split at hm
 ·rename_i h
  exact ⟨230,h,w_der_kinds_3 hm⟩
 split at hm
 ·rename_i h
  exact ⟨233,h,w_der_kinds_4 hm⟩
 cases hm
def H_der_may (rF : g_api_Item → Int → Option Bool) : Prop:= ∀ {a0 : g_api_Item} {a1 : Int} {r : Bool},rF a0 a1 = some r → Sf prog 67 [ag (e_api_Item a0),.d (.i a1)] (.d (.t r))
def m_der_may_1_r (rF : g_api_Item → Int → Option Bool) (a0 : g_api_Item) (k0 : Int) : Option (Bool × Int) :=
 obind (rF a0 (w64 (k0 - 1))) fun x1 =>
 some ((!x1),k0)
theorem w_der_may_1_r {rF : g_api_Item → Int → Option Bool} (hF : H_der_may rF) {a0 : g_api_Item} {k0 : Int} {r : Bool × Int} (hm : m_der_may_1_r rF a0 k0 = some r) : Sp prog 119 [ag (e_api_Item a0),.pb 0 0] [.box 0 [.d (.i k0)] 3] 1 (is (.d (.t r.1)) [.box 0 [.d (.i r.2)] 3] 1) :=
 sp call119 func119 rfl ntmps119 rfl fun D0 As η0 m0 hd=> by
  unfold m_der_may_1_r at hm
  obtain ⟨x1,q1,hm⟩:= oY0 hm
  refine gc (fun _=> hF q1) (by kernel_rfl) ?_
  have e0:= sI0 hm
  subst e0
  exact gend hd (by kernel_rfl)
def m_slices_IndexFunc_api_Item_api_Item_119x_b1 (rF : g_api_Item → Int → Option Bool) (a0 : List g_api_Item) (i1 : Int) (s1 : Int) : Option ((Int) ⊕ (Int × Int)) :=
 obind (idx a0 (i1 : Int)) fun x3 =>
 obind ((m_der_may_1_r rF) x3 s1) fun x4 =>
 if x4.1 = true then
  some (.inr ((i1 : Int),x4.2))
 else
 some (.inl x4.2)
def m_slices_IndexFunc_api_Item_api_Item_119x_r (rF : g_api_Item → Int → Option Bool) (a0 : List g_api_Item) (k0 : Int) : Option (Int × Int) :=
 obind (eachN ((m_slices_IndexFunc_api_Item_api_Item_119x_b1 rF) a0) a0.length 0 k0) fun x1=> match x1 with
 | .inr r=> some r
 | .inl y1 =>
 some ((-1),y1)
theorem w_slices_IndexFunc_api_Item_api_Item_119x_r {rF : g_api_Item → Int → Option Bool} (hF : H_der_may rF) {a0 : List g_api_Item} {k0 : Int} {r : Int × Int} (hm : m_slices_IndexFunc_api_Item_api_Item_119x_r rF a0 k0 = some r) : Sp prog 157 [sl e_api_Item a0,.fn (.func 119) [] [.pb 0 0]] [.box 0 [.d (.i k0)] 3] 1 (is (.d (.i r.1)) [.box 0 [.d (.i r.2)] 3] 1) :=
 sp call157 func157 rfl ntmps157 rfl fun D0 As η0 m0 hd=> by
  unfold m_slices_IndexFunc_api_Item_api_Item_119x_r at hm
  obtain ⟨x1,q1,hm⟩:= oY0 hm
  refine glen 0 (E:= e_api_Item) (xs:= a0) 6 (by kernel_rfl) fun hle1=> ?_
  refine gjU 0 (fun (y1 : Int)=> ⟨[],[(0,.box 0 [.d (.i y1)] 3)],[],1⟩) (fun y1=> x1 = .inl y1) (by kernel_rfl) (fun Jp bk1=> ?_) fun y1 hy=> ?_
  ·refine gl hd (fun (p : Int × (Int))=> let (p0,p_0):= p; ⟨[(0,sl e_api_Item a0),(1,.fn (.func 119) [] [.pb 0 0]),(7,.d (.i (a0.length : Int))),(8,.d (.i p0))],[(0,.box 0 [.d (.i p_0)] 3)],[],1⟩) (fun p=> ∃ i : Nat,p.1 = (i : Int) ∧ i ≤ a0.length ∧ eachN ((m_slices_IndexFunc_api_Item_api_Item_119x_b1 rF) a0) (a0.length - i) (i : Int) p.2 = some x1) (fun p=> a0.length - p.1.toNat) (0,k0) ⟨0,rfl,Nat.zero_le _,q1⟩ (by kernel_rfl) ?_
   rintro ⟨_,s1⟩ ⟨i1,rfl,hi,q2⟩ Jl bl1
   refine gi' (b:= decide ((i1 : Int) < (a0.length : Int))) (by kernel_rfl) (fun hc2=> ?_) fun hc2=> ?_
   ·have hlt1 : i1 < a0.length:= by have:= of_decide_eq_true hc2; omega
    obtain ⟨y2,q4,q3⟩:= eachN_in q2 hlt1
    unfold m_slices_IndexFunc_api_Item_api_Item_119x_b1 at q4
    obtain ⟨x3,q6,q4⟩:= oY0 q4
    refine gidx (k:= 3) (E:= e_api_Item) (fun _=> rfl) (fun _=> q6) (by kernel_rfl) ?_
    obtain ⟨x4,q7,q4⟩:= oY0 q4
    refine gco (w_der_may_1_r hF q7) (by kernel_rfl) ?_
    refine gi q4 (by kernel_rfl) (fun hc1 q4=> ?_) fun hc1 q4=> ?_
    ·skip
     cases q4
     rcases q3 with ⟨sn,e,_⟩ | ⟨tn,e,e2⟩
     ·cases e
     cases e
     cases e2
     dsimp only at hm
     have e0:= sI0 hm
     subst e0
     exact gend hd (by kernel_rfl)
    have e0:= sI0 q4
    subst e0
    rcases q3 with ⟨sn,e,q3'⟩ | ⟨tn,e,_⟩
    ·have e:= Sum.inl.inj e
     subst e
     exact gb bl1 hd (w64 ((i1 : Int) + 1),_) ⟨⟨i1 + 1,w64_succ hlt1 hle1,by omega,q3'⟩,mu_lt hlt1 hle1⟩ (by kernel_rfl)
    cases sum_lr e
   have hlt1 : ¬ i1 < a0.length:= by have:= of_decide_eq_false hc2; omega
   have e:= eachN_out q2 hlt1
   cases e
   exact gb bk1 hd _ rfl (by kernel_rfl)
  subst hy
  dsimp only at hm
  have e0:= sI0 hm
  subst e0
  exact gend hd (by kernel_rfl)
def m_slices_ContainsFunc_api_Item_api_Item_119x_r (rF : g_api_Item → Int → Option Bool) (a0 : List g_api_Item) (k0 : Int) : Option (Bool × Int) :=
 obind ((m_slices_IndexFunc_api_Item_api_Item_119x_r rF) a0 k0) fun x1 =>
 some ((decide (x1.1 ≥ 0)),x1.2)
theorem w_slices_ContainsFunc_api_Item_api_Item_119x_r {rF : g_api_Item → Int → Option Bool} (hF : H_der_may rF) {a0 : List g_api_Item} {k0 : Int} {r : Bool × Int} (hm : m_slices_ContainsFunc_api_Item_api_Item_119x_r rF a0 k0 = some r) : Sp prog 118 [sl e_api_Item a0,.fn (.func 119) [] [.pb 0 0]] [.box 0 [.d (.i k0)] 3] 1 (is (.d (.t r.1)) [.box 0 [.d (.i r.2)] 3] 1) :=
 sp call118 func118 rfl ntmps118 rfl fun D0 As η0 m0 hd=> by
  unfold m_slices_ContainsFunc_api_Item_api_Item_119x_r at hm
  obtain ⟨x1,q1,hm⟩:= oY0 hm
  refine gco (w_slices_IndexFunc_api_Item_api_Item_119x_r hF q1) (by kernel_rfl) ?_
  have e0:= sI0 hm
  subst e0
  exact gend hd (by kernel_rfl)
def m_der_may_r (rF : g_api_Item → Int → Option Bool) (a0 : g_api_Item) (a1 : Int) : Option Bool :=
 obind (m_der_find a0.Tag) fun x1 =>
 obind (gu (!((!x1.2) || (decide (a1 < 1)))) (m_dyn_34 x1.1.may_ a0.B)) fun x2 =>
 if ((((!x1.2) || (decide (a1 < 1))) || (!x2)) || ((a0.Tag != 48) && (decide ((a0.L.length : Int) > 0)))) = true then
  some false
 else
 obind ((m_slices_ContainsFunc_api_Item_api_Item_119x_r rF) a0.L a1) fun x3 =>
 some (!x3.1)
theorem w_der_may_r {rF : g_api_Item → Int → Option Bool} (hF : H_der_may rF) {a0 : g_api_Item} {a1 : Int} {r : Bool} (hm : m_der_may_r rF a0 a1 = some r) : Sf prog 67 [ag (e_api_Item a0),.d (.i a1)] (.d (.t r)) :=
 sp call67 func67 rfl ntmps67 rfl fun D0 As η0 m0 hd=> by
  unfold m_der_may_r at hm
  obtain ⟨x1,q1,hm⟩:= oY0 hm
  refine gc (fun _=> w_der_find q1) (by kernel_rfl) ?_
  obtain ⟨x2,q2,hm⟩:= oY0 hm
  refine gdynG (fun h=> w_dyn_34 (gu_t h q2)) (by kernel_rfl) ?_
  refine gi hm (by kernel_rfl) (fun hc1 hm=> ?_) fun hc1 hm=> ?_
  ·skip
   have e0:= sI0 hm
   subst e0
   exact gend hd (by kernel_rfl)
  obtain ⟨x3,q3,hm⟩:= oY0 hm
  refine gco (w_slices_ContainsFunc_api_Item_api_Item_119x_r hF q3) (by kernel_rfl) ?_
  have e0:= sI0 hm
  subst e0
  exact gend hd (by kernel_rfl)
def r_der_may : Nat → g_api_Item → Int → Option Bool
 | 0,_,_=> none
 | n + 1,a0,a1=> m_der_may_r (r_der_may n) a0 a1
def m_der_may (a0 : g_api_Item) (a1 : Int) : Option Bool:= r_der_may FUEL a0 a1
theorem wr_der_may : ∀ n,H_der_may (r_der_may n)
 | 0=> fun hm=> by cases hm
 | n + 1=> fun hm=> w_der_may_r (wr_der_may n) hm
theorem w_der_may {a0 : g_api_Item} {a1 : Int} {r : Bool} (hm : m_der_may a0 a1 = some r) : Sf prog 67 [ag (e_api_Item a0),.d (.i a1)] (.d (.t r)):= wr_der_may FUEL hm
def m_slices_Clone_byte_byte (a0 : List UInt8) : Option (List UInt8) :=
 obind (app 1 ([] : List UInt8) a0) fun x1 =>
 some x1
theorem w_slices_Clone_byte_byte {m : Mem} {As : List Ow} {w : World} {a0 : List UInt8} {a0v0 : Value} {r : List UInt8} (S : St m (As) w) (a0h0 : SlR m a0v0 a0) (hm : m_slices_Clone_byte_byte a0 = some r) :
  CallsR Tryz.prog 129 #[a0v0] w fun v w'=> ∃ (M : Mem),m ≤ M ∧ ∃ (rv0 : Value) (rc0 : List Value),St M ((row 1 rv0 rc0 r.length) :: As) w' ∧ v = rv0 ∧ RepL M rc0 r:= by
 unfold m_slices_Clone_byte_byte at hm
 have L0:= Mem.rfl' m
 refine callsR (args:= [a0v0]) Tryz.func129 rfl Tryz.ntmps129 (Nat.le_of_ble_eq_true rfl) ?_
 refine wpc_seq ?_
 refine wpc_region ?_
 refine s_asv (v:= .slice none 0 0) rfl ?_
 refine wpl_nil ?_
 refine nrm ?_
 refine wpc_seq ?_
 refine wpc_seq ?_
 refine wpc_region ?_
 refine s_mvv (v:= a0v0) rfl ?_
 refine s_eqlNil rfl rfl a0h0 Tryz.underlying34 ?_
 refine wpl_nil ?_
 refine nrm ?_
 refine wpc_if (t:= (isNilV a0v0)) rfl (fun hc1=> ?_) (fun hc1=> ?_)
 ·have he1 : a0 = []:= SlR.nilOf a0h0 hc1
  rw [he1] at hm
  replace hm : (some ([] : List UInt8)) = some _:= hm
  refine wpc_seq ?_
  refine wpc_region ?_
  refine s_asv (v:= .slice none 0 0) rfl ?_
  refine wpl_nil ?_
  refine nrm ?_
  refine wpc_ret ?_
  refine thR ?_
  refine outRw ?_
  intro we hpd
  replace S:= St.pd S hpd
  have S1:= St.rowNil S 1
  have h1 : RepL m [] ([] : List UInt8):= RepL.nil
  replace S1 : St _ ((row 1 (.slice none 0 0) [] ([] : List UInt8).length) :: As) _:= S1
  clear S
  have e0:= sI0 hm
  subst e0
  exact outR [_] rfl ⟨rfl,trivial⟩ ⟨_,L0,_,_,S1,rfl,h1⟩
 refine wpc_skip ?_
 refine nrm ?_
 refine wpc_seq ?_
 refine wpc_region ?_
 refine s_litOC (parts:= []) (vs:= []) (cls:= []) (n:= 0) (sz:= 1) S Tryz.underlying34 Tryz.sizeOf5 Tryz.zeroValue5 rfl trivial rfl rfl (by decide) (by decide) ?_
 intro v1 w1 S2
 have h2 : RepL m [] ([] : List UInt8):= RepL.nil
 replace S2 : St _ ((row 1 v1 [] ([] : List UInt8).length) :: As) _:= S2
 clear S
 refine s_mvv (v:= a0v0) rfl ?_
 obtain ⟨x1,q1,hm⟩:= oY0 hm
 refine s_app (i:= 0) (zs:= x1) (bytes:= 1) (ti:= Tryz.t5) S2 rfl rfl h2 rfl rfl a0h0 q1 Tryz.underlying34 Tryz.type5 rfl rfl rfl rfl ?_
 intro v2 c1 w2 S3 h3
 replace S3 : St _ ((row 1 v2 c1 x1.length) :: As) _:= S3
 clear S2
 refine s_asv (v:= v2) rfl ?_
 refine wpl_nil ?_
 refine nrm ?_
 refine wpc_ret ?_
 refine outRw ?_
 intro we hpd
 replace S3:= St.pd S3 hpd
 have e0:= sI0 hm
 subst e0
 exact outR [_] rfl ⟨rfl,trivial⟩ ⟨_,L0,_,_,S3,rfl,h3⟩
theorem s_slices_Clone_byte_byte {a0 : List UInt8} {r : List UInt8} (hm : m_slices_Clone_byte_byte a0 = some r) : Sp prog 129 [sl eB a0] [] 0 (is (.ow 0) [.row 0 1 _ eB r] 1) :=
 ⟨call129,fun η m As w vs hv0 hd S=> by
  have S : St m As w:= S
  obtain ⟨v0,u0,rfl,r0,hv1⟩:= RelL.cons_inv hv0
  have f0:= Br.ofS Br.b r0.dd
  obtain rfl:= RelL.nil_inv hv1
  refine CallsR.mono (w_slices_Clone_byte_byte S f0 hm) ?_
  rintro v w' ⟨M,hle,y0,c0,S0,rfl,h0⟩
  exact ⟨M,(envL [v]),_,_,_,hle,dom0 hd _,⟨rfl,rfl,rfl⟩,envL_dom rfl,(.ow rfl (row_one S0)),(St.impL S0 (sepC (Br.toR Br.b rfl rfl (row_one S0) h0) fun _ h=> h))⟩⟩
def H_der_put (rF : (List UInt8) → g_api_Item → Option (List UInt8)) : Prop:= ∀ {a0 : List UInt8} {a1 : g_api_Item} {r : List UInt8},rF a0 a1 = some r → Sp prog 68 [.ow 0,ag (e_api_Item a1)] [.row 0 1 _ eB a0] 1 (is (.ow 1) [.row 1 1 _ eB r] 2)
def m_der_content_b2 (rF : (List UInt8) → g_api_Item → Option (List UInt8))  (i1 : Int) (x4 : g_api_Item) (s1 : (List UInt8)) : Option ((List UInt8)) :=
 obind (rF s1 x4) fun x5 =>
 some x5
def m_der_content_r (rF : (List UInt8) → g_api_Item → Option (List UInt8)) (a0 : g_api_Item) : Option (List UInt8) :=
 obind (m_slices_Clone_byte_byte a0.B) fun x1 =>
 obind (
  obind (each0 (m_der_content_b2 rF) a0.L 0 x1) fun x3 =>
  some x3
 ) fun x2 =>
 some x2
theorem w_der_content_r {rF : (List UInt8) → g_api_Item → Option (List UInt8)} (hF : H_der_put rF) {a0 : g_api_Item} {r : List UInt8} (hm : m_der_content_r rF a0 = some r) : Sp prog 120 [ag (e_api_Item a0)] [] 0 (is (.ow 0) [.row 0 1 _ eB r] 1) :=
 sp call120 func120 rfl ntmps120 rfl fun D0 As η0 m0 hd=> by
  unfold m_der_content_r at hm
  obtain ⟨x1,q1,hm⟩:= oY0 hm
  refine gco (s_slices_Clone_byte_byte q1) (by kernel_rfl) ?_
  obtain ⟨x2,q2,hm⟩:= oY0 hm
  obtain ⟨x3,q3,q2⟩:= oY0 q2
  refine glen 0 (E:= e_api_Item) (xs:= a0.L) 10 (by kernel_rfl) fun hle1=> ?_
  refine gjU 0 (fun (_ : Unit)=> ⟨[(3,.ow 1),(1,.pb 0 0)],[(0,.row 1 1 _ eB x2),(1,.box 0 [.d (.i a0.Tag),sl eB a0.B,sl e_api_Item a0.L] 56)],[],2⟩) (fun _=> True) (by kernel_rfl) (fun Jp bk1=> ?_) fun _ _=> ?_
  ·refine gjU 0 (fun (_ : Unit)=> ⟨[(3,.ow 1),(1,.pb 0 0)],[(0,.row 1 1 _ eB x3),(1,.box 0 [.d (.i a0.Tag),sl eB a0.B,sl e_api_Item a0.L] 56)],[],2⟩) (fun _=> True) (by kernel_rfl) (fun Jp bk2=> ?_) fun _ _=> ?_
   ·refine gl hd (fun (p : Int × ((List UInt8)))=> let (p0,p_0):= p; ⟨[(3,.ow 1),(10,sl e_api_Item a0.L),(11,.d (.i (a0.L.length : Int))),(12,.d (.i p0)),(1,.pb 0 0)],[(0,.row 1 1 _ eB p_0),(1,.box 0 [.d (.i a0.Tag),sl eB a0.B,sl e_api_Item a0.L] 56)],[],2⟩) (fun p=> ∃ i : Nat,p.1 = (i : Int) ∧ i ≤ a0.L.length ∧ each0 (m_der_content_b2 rF) (a0.L.drop i) (i : Int) p.2 = some x3) (fun p=> a0.L.length - p.1.toNat) (0,x1) ⟨0,rfl,Nat.zero_le _,q3⟩ (by kernel_rfl) ?_
    rintro ⟨_,s1⟩ ⟨i1,rfl,hi,q4⟩ Jl bl1
    refine gi' (b:= decide ((i1 : Int) < (a0.L.length : Int))) (by kernel_rfl) (fun hc1=> ?_) fun hc1=> ?_
    ·have hlt1 : i1 < a0.L.length:= by have:= of_decide_eq_true hc1; omega
     obtain ⟨x4,y1,q7,q6,q5⟩:= each0_in q4 hlt1
     unfold m_der_content_b2 at q6
     refine gidx (k:= 3) (E:= e_api_Item) (fun _=> rfl) (fun _=> q7) (by kernel_rfl) ?_
     obtain ⟨x5,q8,q6⟩:= oY0 q6
     refine gco (hF q8) (by kernel_rfl) ?_
     have e0:= sI0 q6
     subst e0
     exact gb bl1 hd (w64 ((i1 : Int) + 1),x5) ⟨⟨i1 + 1,w64_succ hlt1 hle1,by omega,q5⟩,mu_lt hlt1 hle1⟩ (by kernel_rfl)
    have hlt1 : ¬ i1 < a0.L.length:= by have:= of_decide_eq_false hc1; omega
    have e:= Eq.symm (each0_out q4 hlt1)
    subst e
    exact gb bk2 hd () trivial (by kernel_rfl)
   have e0:= sI0 q2
   subst e0
   exact gb bk1 hd () trivial (by kernel_rfl)
  have e0:= sI0 hm
  subst e0
  exact gend hd (by kernel_rfl)
def m_der_put_r (rF : (List UInt8) → g_api_Item → Option (List UInt8)) (a0 : List UInt8) (a1 : g_api_Item) : Option (List UInt8) :=
 obind ((m_der_content_r rF) a1) fun x1 =>
 obind (app 1 a0 ([(toB a1.Tag)] : List UInt8)) fun x2 =>
 obind (
  bnd ((decide ((x1.length : Int) < 128))) fun x4 =>
  if x4 = true then
   obind (app 1 x2 ([(toB (x1.length : Int))] : List UInt8)) fun x5 =>
   some x5
  else
  bnd ((decide ((x1.length : Int) < 256))) fun x6 =>
  if x6 = true then
   obind (app 1 x2 ([129,(toB (x1.length : Int))] : List UInt8)) fun x7 =>
   some x7
  else
  obind (app 1 x2 ([130,(toB (shr64 (x1.length : Int) 8)),(toB (x1.length : Int))] : List UInt8)) fun x8 =>
  some x8
 ) fun x3 =>
 obind (app 1 x3 x1) fun x9 =>
 some x9
theorem w_der_put_r {rF : (List UInt8) → g_api_Item → Option (List UInt8)} (hF : H_der_put rF) {a0 : List UInt8} {a1 : g_api_Item} {r : List UInt8} (hm : m_der_put_r rF a0 a1 = some r) : Sp prog 68 [.ow 0,ag (e_api_Item a1)] [.row 0 1 _ eB a0] 1 (is (.ow 1) [.row 1 1 _ eB r] 2) :=
 sp call68 func68 rfl ntmps68 rfl fun D0 As η0 m0 hd=> by
  unfold m_der_put_r at hm
  obtain ⟨x1,q1,hm⟩:= oY0 hm
  refine gco (w_der_content_r hF q1) (by kernel_rfl) ?_
  refine glitF (k:= 1) eB ([(toB a1.Tag)] : List UInt8) (fun _=> rfl) (by kernel_rfl) ?_
  obtain ⟨x2,q2,hm⟩:= oY0 hm
  refine gapp (k:= 1) (E:= eB) (fun _=> rfl) q2 (by kernel_rfl) ?_
  obtain ⟨x3,q3,hm⟩:= oY0 hm
  refine gjU 0 (fun (_ : Unit)=> ⟨[(0,.ow 3),(5,.ow 2),(3,.pb 1 0)],[(0,.row 3 1 _ eB x3),(1,.row 2 1 _ eB x1),(2,.box 1 [.d (.i a1.Tag),sl eB a1.B,sl e_api_Item a1.L] 56)],[],4⟩) (fun _=> True) (by kernel_rfl) (fun Jp bk1=> ?_) fun _ _=> ?_
  ·skip
   have q3:= bnd_is q3
   let x4 : Bool:= ((decide ((x1.length : Int) < 128)))
   refine gi q3 (by kernel_rfl) (fun hc1 q3=> ?_) fun hc1 q3=> ?_
   ·refine glitF (k:= 1) eB ([(toB (x1.length : Int))] : List UInt8) (fun _=> rfl) (by kernel_rfl) ?_
    obtain ⟨x5,q5,q3⟩:= oY0 q3
    refine gapp (k:= 1) (E:= eB) (fun _=> rfl) q5 (by kernel_rfl) ?_
    have e0:= sI0 q3
    subst e0
    exact gb bk1 hd () trivial (by kernel_rfl)
   have q3:= bnd_is q3
   let x6 : Bool:= ((decide ((x1.length : Int) < 256)))
   refine gi q3 (by kernel_rfl) (fun hc2 q3=> ?_) fun hc2 q3=> ?_
   ·refine glitF (k:= 1) eB ([129,(toB (x1.length : Int))] : List UInt8) (fun _=> rfl) (by kernel_rfl) ?_
    obtain ⟨x7,q7,q3⟩:= oY0 q3
    refine gapp (k:= 1) (E:= eB) (fun _=> rfl) q7 (by kernel_rfl) ?_
    have e0:= sI0 q3
    subst e0
    exact gb bk1 hd () trivial (by kernel_rfl)
   refine glitF (k:= 1) eB ([130,(toB (shr64 (x1.length : Int) 8)),(toB (x1.length : Int))] : List UInt8) (fun _=> rfl) (by kernel_rfl) ?_
   obtain ⟨x8,q8,q3⟩:= oY0 q3
   refine gapp (k:= 1) (E:= eB) (fun _=> rfl) q8 (by kernel_rfl) ?_
   have e0:= sI0 q3
   subst e0
   exact gb bk1 hd () trivial (by kernel_rfl)
  obtain ⟨x9,q9,hm⟩:= oY0 hm
  refine gapp (k:= 1) (E:= eB) (fun _=> rfl) q9 (by kernel_rfl) ?_
  have e0:= sI0 hm
  subst e0
  exact gend hd (by kernel_rfl)
def r_der_put : Nat → (List UInt8) → g_api_Item → Option (List UInt8)
 | 0,_,_=> none
 | n + 1,a0,a1=> m_der_put_r (r_der_put n) a0 a1
def m_der_put (a0 : List UInt8) (a1 : g_api_Item) : Option (List UInt8):= r_der_put FUEL a0 a1
theorem wr_der_put : ∀ n,H_der_put (r_der_put n)
 | 0=> fun hm=> by cases hm
 | n + 1=> fun hm=> w_der_put_r (wr_der_put n) hm
theorem w_der_put {a0 : List UInt8} {a1 : g_api_Item} {r : List UInt8} (hm : m_der_put a0 a1 = some r) : Sp prog 68 [.ow 0,ag (e_api_Item a1)] [.row 0 1 _ eB a0] 1 (is (.ow 1) [.row 1 1 _ eB r] 2):= wr_der_put FUEL hm
def m_der_Put (a0 : g_api_Item) : Option ((List UInt8) × Int) :=
 obind (m_der_may a0 8) fun x1 =>
 if (!x1) = true then
  some (([] : List UInt8),1)
 else
 obind (m_der_put ([] : List UInt8) a0) fun x2 =>
 if (decide ((x2.length : Int) > 8192)) = true then
  some (([] : List UInt8),2)
 else
 some (x2,0)
theorem w_der_Put {a0 : g_api_Item} {r : (List UInt8) × Int} (hm : m_der_Put a0 = some r) : Sp prog 38 [ag (e_api_Item a0)] [] 0 (is (.tup [.ow 0,.d (.i r.2)]) [.row 0 1 _ eB r.1] 1) :=
 sp call38 func38 rfl ntmps38 rfl fun D0 As η0 m0 hd=> by
  unfold m_der_Put at hm
  obtain ⟨x1,q1,hm⟩:= oY0 hm
  refine gc (fun _=> w_der_may q1) (by kernel_rfl) ?_
  refine gi hm (by kernel_rfl) (fun hc1 hm=> ?_) fun hc1 hm=> ?_
  ·skip
   refine gnil eB 2 1 (by kernel_rfl) ?_
   have e0:= sI0 hm
   subst e0
   exact gend hd (by kernel_rfl)
  obtain ⟨x2,q2,hm⟩:= oY0 hm
  refine gco (Sp.nil0 (w_der_put q2) rfl) (by kernel_rfl) ?_
  refine gi hm (by kernel_rfl) (fun hc2 hm=> ?_) fun hc2 hm=> ?_
  ·skip
   refine gnil eB 2 1 (by kernel_rfl) ?_
   have e0:= sI0 hm
   subst e0
   exact gend hd (by kernel_rfl)
  have e0:= sI0 hm
  subst e0
  exact gend hd (by kernel_rfl)
def m_slices_Clone_api_Item_api_Item (a0 : List g_api_Item) : Option (List g_api_Item) :=
 obind (app 56 ([] : List g_api_Item) a0) fun x1 =>
 some x1
theorem w_slices_Clone_api_Item_api_Item {m : Mem} {As : List Ow} {w : World} {a0 : List g_api_Item} {a0v0 : Value} {r : List g_api_Item} (S : St m (As) w) (a0h0 : SlR m a0v0 a0) (hm : m_slices_Clone_api_Item_api_Item a0 = some r) :
  CallsR Tryz.prog 121 #[a0v0] w fun v w'=> ∃ (M : Mem),m ≤ M ∧ ∃ (rv0 : Value) (rc0 : List Value),St M ((row 3 rv0 rc0 r.length) :: As) w' ∧ v = rv0 ∧ RepL M rc0 r:= by
 unfold m_slices_Clone_api_Item_api_Item at hm
 have L0:= Mem.rfl' m
 refine callsR (args:= [a0v0]) Tryz.func121 rfl Tryz.ntmps121 (Nat.le_of_ble_eq_true rfl) ?_
 refine wpc_seq ?_
 refine wpc_region ?_
 refine s_asv (v:= .slice none 0 0) rfl ?_
 refine wpl_nil ?_
 refine nrm ?_
 refine wpc_seq ?_
 refine wpc_seq ?_
 refine wpc_region ?_
 refine s_mvv (v:= a0v0) rfl ?_
 refine s_eqlNil rfl rfl a0h0 Tryz.underlying54 ?_
 refine wpl_nil ?_
 refine nrm ?_
 refine wpc_if (t:= (isNilV a0v0)) rfl (fun hc1=> ?_) (fun hc1=> ?_)
 ·have he1 : a0 = []:= SlR.nilOf a0h0 hc1
  rw [he1] at hm
  replace hm : (some ([] : List g_api_Item)) = some _:= hm
  refine wpc_seq ?_
  refine wpc_region ?_
  refine s_asv (v:= .slice none 0 0) rfl ?_
  refine wpl_nil ?_
  refine nrm ?_
  refine wpc_ret ?_
  refine thR ?_
  refine outRw ?_
  intro we hpd
  replace S:= St.pd S hpd
  have S1:= St.rowNil S 3
  have h1 : RepL m [] ([] : List g_api_Item):= RepL.nil
  replace S1 : St _ ((row 3 (.slice none 0 0) [] ([] : List g_api_Item).length) :: As) _:= S1
  clear S
  have e0:= sI0 hm
  subst e0
  exact outR [_] rfl ⟨rfl,trivial⟩ ⟨_,L0,_,_,S1,rfl,h1⟩
 refine wpc_skip ?_
 refine nrm ?_
 refine wpc_seq ?_
 refine wpc_region ?_
 refine s_litOC (parts:= []) (vs:= []) (cls:= []) (n:= 0) (sz:= 3) S Tryz.underlying54 Tryz.sizeOf56 Tryz.zeroValue56 rfl trivial rfl rfl (by decide) (by decide) ?_
 intro v1 w1 S2
 have h2 : RepL m [] ([] : List g_api_Item):= RepL.nil
 replace S2 : St _ ((row 3 v1 [] ([] : List g_api_Item).length) :: As) _:= S2
 clear S
 refine s_mvv (v:= a0v0) rfl ?_
 obtain ⟨x1,q1,hm⟩:= oY0 hm
 refine s_app (i:= 0) (zs:= x1) (bytes:= 56) (ti:= Tryz.t56) S2 rfl rfl h2 rfl rfl a0h0 q1 Tryz.underlying54 Tryz.type56 rfl rfl rfl rfl ?_
 intro v2 c1 w2 S3 h3
 replace S3 : St _ ((row 3 v2 c1 x1.length) :: As) _:= S3
 clear S2
 refine s_asv (v:= v2) rfl ?_
 refine wpl_nil ?_
 refine nrm ?_
 refine wpc_ret ?_
 refine outRw ?_
 intro we hpd
 replace S3:= St.pd S3 hpd
 have e0:= sI0 hm
 subst e0
 exact outR [_] rfl ⟨rfl,trivial⟩ ⟨_,L0,_,_,S3,rfl,h3⟩
theorem s_slices_Clone_api_Item_api_Item {a0 : List g_api_Item} {r : List g_api_Item} (hm : m_slices_Clone_api_Item_api_Item a0 = some r) : Sp prog 121 [sl e_api_Item a0] [] 0 (is (.ow 0) [.row 0 3 _ e_api_Item r] 1) :=
 ⟨call121,fun η m As w vs hv0 hd S=> by
  have S : St m As w:= S
  obtain ⟨v0,u0,rfl,r0,hv1⟩:= RelL.cons_inv hv0
  have f0:= Br.ofS b_api_Item r0.dd
  obtain rfl:= RelL.nil_inv hv1
  refine CallsR.mono (w_slices_Clone_api_Item_api_Item S f0 hm) ?_
  rintro v w' ⟨M,hle,y0,c0,S0,rfl,h0⟩
  exact ⟨M,(envL [v]),_,_,_,hle,dom0 hd _,⟨rfl,rfl,rfl⟩,envL_dom rfl,(.ow rfl (row_one S0)),(St.impL S0 (sepC (Br.toR b_api_Item rfl rfl (row_one S0) h0) fun _ h=> h))⟩⟩
def m_der_Seq (a0 : List g_api_Item) : Option g_api_Item :=
 obind (m_slices_Clone_api_Item_api_Item a0) fun x1 =>
 some (⟨48,[],x1⟩ : g_api_Item)
theorem w_der_Seq {a0 : List g_api_Item} {r : g_api_Item} (hm : m_der_Seq a0 = some r) : Sf prog 69 [sl e_api_Item a0] (ag (e_api_Item r)) :=
 sp call69 func69 rfl ntmps69 rfl fun D0 As η0 m0 hd=> by
  unfold m_der_Seq at hm
  obtain ⟨x1,q1,hm⟩:= oY0 hm
  refine gco (s_slices_Clone_api_Item_api_Item q1) (by kernel_rfl) ?_
  have e0:= sI0 hm
  subst e0
  exact gend hd (by kernel_rfl)
def m_der_Int_b3 (a0 : Int) (i1 : Int) (s1 : UInt8 × UInt8 × UInt8 × UInt8 × UInt8 × UInt8 × UInt8 × UInt8) : Option (UInt8 × UInt8 × UInt8 × UInt8 × UInt8 × UInt8 × UInt8 × UInt8) :=
 if (0 : Int) ≤ (w64 (56 - (w64 (8 * (i1 : Int))))) then
  obind (idx [s1.1,s1.2.1,s1.2.2.1,s1.2.2.2.1,s1.2.2.2.2.1,s1.2.2.2.2.2.1,s1.2.2.2.2.2.2.1,s1.2.2.2.2.2.2.2] (i1 : Int)) fun x4 =>
  bnd (if (i1 : Int) = 0 then (toB (shr64 a0 ((w64 (56 - (w64 (8 * (i1 : Int))))).toNat))) else s1.1) fun x5 =>
  bnd (if (i1 : Int) = 1 then (toB (shr64 a0 ((w64 (56 - (w64 (8 * (i1 : Int))))).toNat))) else s1.2.1) fun x6 =>
  bnd (if (i1 : Int) = 2 then (toB (shr64 a0 ((w64 (56 - (w64 (8 * (i1 : Int))))).toNat))) else s1.2.2.1) fun x7 =>
  bnd (if (i1 : Int) = 3 then (toB (shr64 a0 ((w64 (56 - (w64 (8 * (i1 : Int))))).toNat))) else s1.2.2.2.1) fun x8 =>
  bnd (if (i1 : Int) = 4 then (toB (shr64 a0 ((w64 (56 - (w64 (8 * (i1 : Int))))).toNat))) else s1.2.2.2.2.1) fun x9 =>
  bnd (if (i1 : Int) = 5 then (toB (shr64 a0 ((w64 (56 - (w64 (8 * (i1 : Int))))).toNat))) else s1.2.2.2.2.2.1) fun x10 =>
  bnd (if (i1 : Int) = 6 then (toB (shr64 a0 ((w64 (56 - (w64 (8 * (i1 : Int))))).toNat))) else s1.2.2.2.2.2.2.1) fun x11 =>
  bnd (if (i1 : Int) = 7 then (toB (shr64 a0 ((w64 (56 - (w64 (8 * (i1 : Int))))).toNat))) else s1.2.2.2.2.2.2.2) fun x12 =>
  some (x5,x6,x7,x8,x9,x10,x11,x12)
 else none
def m_der_Int_b4  (s2 : (List UInt8)) : Option (((List UInt8)) ⊕ ((List UInt8))) :=
 obind (
  if (decide ((s2.length : Int) > 1)) = true then
   obind (m_der_least s2) fun x18 =>
   some (!x18)
  else
  some false
 ) fun x17 =>
 if x17 = true then
  obind (cut s2 1 (s2.length : Int)) fun x19 =>
  some (.inl x19)
 else
 some (.inr s2)
def m_der_Int (a0 : Int) : Option g_api_Item :=
 obind (
  obind (eachN0 (m_der_Int_b3 a0) 8 0 (0,0,0,0,0,0,0,0)) fun x2 =>
  some (x2.1,x2.2.1,x2.2.2.1,x2.2.2.2.1,x2.2.2.2.2.1,x2.2.2.2.2.2.1,x2.2.2.2.2.2.2.1,x2.2.2.2.2.2.2.2)
 ) fun x1 =>
 obind (
  obind (iter m_der_Int_b4 FUEL ([x1.1,x1.2.1,x1.2.2.1,x1.2.2.2.1,x1.2.2.2.2.1,x1.2.2.2.2.2.1,x1.2.2.2.2.2.2.1,x1.2.2.2.2.2.2.2] : List UInt8)) fun x14 =>
  some x14
 ) fun x13 =>
 obind (m_slices_Clone_byte_byte x13) fun x20 =>
 some (⟨2,x20,[]⟩ : g_api_Item)
theorem w_der_Int {m : Mem} {As : List Ow} {w : World} {a0 : Int} {r : g_api_Item} (S : St m (As) w) (hm : m_der_Int a0 = some r) :
  CallsR Tryz.prog 80 #[vI a0] w fun v w'=> ∃ (M : Mem),m ≤ M ∧ ∃ (rv0_1 : Value) (rv0_2 : Value),St M (As) w' ∧ v = .agg #[vI r.Tag,rv0_1,rv0_2] ∧ SlR M rv0_1 r.B ∧ SlR M rv0_2 r.L:= by
 unfold m_der_Int at hm
 have L0:= Mem.rfl' m
 refine callsR (args:= [vI a0]) Tryz.func80 rfl Tryz.ntmps80 (Nat.le_of_ble_eq_true rfl) ?_
 refine wpc_seq ?_
 refine wpc_region ?_
 refine s_alloc S Tryz.zeroValue56 ?_
 intro b1 w1 S1
 replace S1 : St _ ((bx b1 [vI 0,.slice none 0 0,.slice none 0 0] 56) :: As) _:= S1
 clear S
 refine wpl_nil ?_
 refine nrm ?_
 refine wpc_seq ?_
 refine wpc_region ?_
 refine s_alloc S1 Tryz.zeroValue128 ?_
 intro b2 w2 S2
 replace S2 : St _ ((bx b2 [vB 0,vB 0,vB 0,vB 0,vB 0,vB 0,vB 0,vB 0] 128) :: (bx b1 [vI 0,.slice none 0 0,.slice none 0 0] 56) :: As) _:= S2
 clear S1
 refine wpl_nil ?_
 refine nrm ?_
 obtain ⟨x1,q1,hm⟩:= oY0 hm
 have L1:= Mem.rfl' m
 refine wpc_seq ?_
 refine wpc_join [4,6,7,8,9,10,11,12,13,14,15,16,17] (fun f' w'=> ∃ (M1 : Mem),m ≤ M1 ∧ St M1 ((bx b2 [vB x1.1,vB x1.2.1,vB x1.2.2.1,vB x1.2.2.2.1,vB x1.2.2.2.2.1,vB x1.2.2.2.2.2.1,vB x1.2.2.2.2.2.2.1,vB x1.2.2.2.2.2.2.2] 128) :: (bx b1 [vI 0,.slice none 0 0,.slice none 0 0] 56) :: As) w' ∧ AllAt f' []) ?_ ?_
 ·refine wpc_seq ?_
  refine wpc_region ?_
  refine s_mvv (v:= vI 0) rfl ?_
  refine wpl_nil ?_
  refine nrm ?_
  obtain ⟨x2,q2,q1⟩:= oY0 q1
  have L2:= Mem.rfl' m
  refine wpc_join [4,6,7,8,9,10,11,12,13,14,15,16,17] (fun f' w'=> ∃ (M2 : Mem),m ≤ M2 ∧ St M2 ((bx b2 [vB x2.1,vB x2.2.1,vB x2.2.2.1,vB x2.2.2.2.1,vB x2.2.2.2.2.1,vB x2.2.2.2.2.2.1,vB x2.2.2.2.2.2.2.1,vB x2.2.2.2.2.2.2.2] 128) :: (bx b1 [vI 0,.slice none 0 0,.slice none 0 0] 56) :: As) w' ∧ AllAt f' []) ?_ ?_
  ·refine wpc_block ?_
   refine wpc_rounds [4,6,7,8,9,10,11,12,13,14,15,16,17] (fun n1 f' w'=> ∃ (i1 : Nat) (s1 : UInt8 × UInt8 × UInt8 × UInt8 × UInt8 × UInt8 × UInt8 × UInt8) (m2 : Mem),n1 = 8 - i1 ∧ i1 ≤ 8 ∧ eachN0 (m_der_Int_b3 a0) (8 - i1) (i1 : Int) s1 = some x2 ∧ m ≤ m2 ∧ St m2 ((bx b2 [vB s1.1,vB s1.2.1,vB s1.2.2.1,vB s1.2.2.2.1,vB s1.2.2.2.2.1,vB s1.2.2.2.2.2.1,vB s1.2.2.2.2.2.2.1,vB s1.2.2.2.2.2.2.2] 128) :: (bx b1 [vI 0,.slice none 0 0,.slice none 0 0] 56) :: As) w' ∧ AllAt f' [(6,vI (i1 : Int))]) 8 ⟨0,(0,0,0,0,0,0,0,0),m,rfl,Nat.zero_le _,q2,L2,S2,⟨rfl,trivial⟩⟩ ?_
   rintro n1 f1 w3 ho ⟨i1,s1,m1,hn,hi,q3,L4,S3,ha⟩
   obtain ⟨u1,rfl⟩:= fr_of (N:= 32) ho ha
   clear ho ha
   have L3:= Mem.rfl' m1
   clear S2
   refine wpc_seq ?_
   refine wpc_region ?_
   refine s_lss (m:= (i1 : Int)) (n:= 8) rfl rfl ?_
   refine wpl_nil ?_
   refine nrm ?_
   refine wpc_seq ?_
   refine wpc_if (t:= decide ((i1 : Int) < (8 : Int))) rfl (fun hc1=> ?_) (fun hc1=> ?_)
   ·have hlt1 : i1 < 8:= by have:= of_decide_eq_true hc1; omega
    obtain ⟨y1,q5,q4⟩:= eachN0_in q3 hlt1
    unfold m_der_Int_b3 at q5
    refine wpc_skip ?_
    refine nrm ?_
    refine wpc_seq ?_
    refine wpc_block ?_
    refine wpc_seq ?_
    refine wpc_region ?_
    refine s_mvv (v:= vI (i1 : Int)) rfl ?_
    refine s_asv (v:= vI (i1 : Int)) rfl ?_
    refine wpl_nil ?_
    refine nrm ?_
    refine wpc_region ?_
    refine s_mvv (v:= vI (i1 : Int)) rfl ?_
    refine s_mvv (v:= vI a0) rfl ?_
    refine s_mvv (v:= vI (i1 : Int)) rfl ?_
    refine s_mulI (m:= 8) (n:= (i1 : Int)) rfl rfl ?_
    refine s_subI (m:= 56) (n:= (w64 (8 * (i1 : Int)))) rfl rfl ?_
    obtain ⟨q7,q5⟩:= if_some q5
    refine s_shrI (m:= a0) (n:= (w64 (56 - (w64 (8 * (i1 : Int)))))) rfl rfl q7 ?_
    refine s_convB rfl Tryz.underlying3 Tryz.underlying5 ?_
    obtain ⟨x4,q8,q5⟩:= oY0 q5
    refine s_idxA (i:= (i1 : Int)) rfl rfl Tryz.underlying128 Tryz.sizeOf5 (idx_rng q8).1 (idx_rng q8).2 ?_
    obtain ⟨x5,q9,q5⟩:= bnd_eq q5
    obtain ⟨x6,q10,q5⟩:= bnd_eq q5
    obtain ⟨x7,q11,q5⟩:= bnd_eq q5
    obtain ⟨x8,q12,q5⟩:= bnd_eq q5
    obtain ⟨x9,q13,q5⟩:= bnd_eq q5
    obtain ⟨x10,q14,q5⟩:= bnd_eq q5
    obtain ⟨x11,q15,q5⟩:= bnd_eq q5
    obtain ⟨x12,q16,q5⟩:= bnd_eq q5
    refine s_st (i:= 0) (off:= 0 + (i1 : Int).toNat * 1) S3 rfl rfl rfl Tryz.sizeOf5 (OneL.all (oneC rfl oneN)) (by rcases idx8 q8 with ⟨h,h'⟩ | ⟨h,h'⟩ | ⟨h,h'⟩ | ⟨h,h'⟩ | ⟨h,h'⟩ | ⟨h,h'⟩ | ⟨h,h'⟩ | ⟨h,h'⟩ <;> (rw [h]; exact Nat.le_of_ble_eq_true rfl)) ?_
    intro w4 S4
    replace S4:= St.cellsTo (i:= 0) (l':= [vB x5,vB x6,vB x7,vB x8,vB x9,vB x10,vB x11,vB x12]) S4 (by rcases idx8 q8 with ⟨h,h'⟩ | ⟨h,h'⟩ | ⟨h,h'⟩ | ⟨h,h'⟩ | ⟨h,h'⟩ | ⟨h,h'⟩ | ⟨h,h'⟩ | ⟨h,h'⟩ <;> (simp only [q9,q10,q11,q12,q13,q14,q15,q16,h]; rfl)) rfl
    replace S4 : St _ ((bx b2 [vB x5,vB x6,vB x7,vB x8,vB x9,vB x10,vB x11,vB x12] 128) :: (bx b1 [vI 0,.slice none 0 0,.slice none 0 0] 56) :: As) _:= S4
    clear S3
    refine wpl_nil ?_
    refine nrmB ?_
    refine nrm ?_
    refine wpc_region ?_
    refine s_addI (m:= (i1 : Int)) (n:= 1) rfl rfl ?_
    refine s_mvv (v:= vI (w64 ((i1 : Int) + 1))) rfl ?_
    refine wpl_nil ?_
    refine nrm ?_
    have e0:= sI0 q5
    subst e0
    exact ⟨outP,_,(by omega),⟨i1 + 1,(x5,x6,x7,x8,x9,x10,x11,x12),m1,rfl,hlt1,q4,Mem.tr L4 L3,S4,⟨congrArg (Value.int .i64) (w64_succ hlt1 (by decide)),trivial⟩⟩⟩
   have hlt1 : ¬ i1 < 8:= by have:= of_decide_eq_false hc1; omega
   have e:= Eq.symm (eachN0_out q3 hlt1)
   subst e
   refine wpc_exit ?_
   refine thE ?_
   refine thE ?_
   refine exB ?_
   refine nrm ?_
   exact ⟨outP,m1,Mem.tr L4 L3,S3,trivial⟩
  rintro f2 w5 ho ⟨m3,l1,S5,ha⟩
  obtain ⟨u2,rfl⟩:= fr_of (N:= 32) ho ha
  clear ho ha
  replace L1:= Mem.tr L1 l1
  clear S2
  have e0:= sI0 q1
  subst e0
  exact ⟨outP,m3,L1,S5,trivial⟩
 rintro f3 w6 ho ⟨m4,l2,S6,ha⟩
 obtain ⟨u3,rfl⟩:= fr_of (N:= 32) ho ha
 replace L0:= Mem.tr L0 l2
 clear S2
 refine wpc_seq ?_
 refine wpc_region ?_
 refine s_sliceA (k:= 8) (n:= 8) (sz:= 1) (off:= 0) rfl Tryz.underlying128 Tryz.sizeOf5 (.inl ⟨rfl,rfl⟩) (Nat.le_refl _) ?_
 have S7:= St.bxRow (i:= 0) (sz:= 1) (n:= 8) S6 rfl rfl (by decide)
 have h1 : RepL m4 [vB x1.1,vB x1.2.1,vB x1.2.2.1,vB x1.2.2.2.1,vB x1.2.2.2.2.1,vB x1.2.2.2.2.2.1,vB x1.2.2.2.2.2.2.1,vB x1.2.2.2.2.2.2.2] ([x1.1,x1.2.1,x1.2.2.1,x1.2.2.2.1,x1.2.2.2.2.1,x1.2.2.2.2.2.1,x1.2.2.2.2.2.2.1,x1.2.2.2.2.2.2.2] : List UInt8):= (RepL.cons (c:= [vB x1.1]) rfl (RepL.cons (c:= [vB x1.2.1]) rfl (RepL.cons (c:= [vB x1.2.2.1]) rfl (RepL.cons (c:= [vB x1.2.2.2.1]) rfl (RepL.cons (c:= [vB x1.2.2.2.2.1]) rfl (RepL.cons (c:= [vB x1.2.2.2.2.2.1]) rfl (RepL.cons (c:= [vB x1.2.2.2.2.2.2.1]) rfl (RepL.cons (c:= [vB x1.2.2.2.2.2.2.2]) rfl RepL.nil))))))))
 replace S7 : St _ ((row 1 (.slice (some ⟨b2,0,none⟩) 8 8) [vB x1.1,vB x1.2.1,vB x1.2.2.1,vB x1.2.2.2.1,vB x1.2.2.2.2.1,vB x1.2.2.2.2.2.1,vB x1.2.2.2.2.2.2.1,vB x1.2.2.2.2.2.2.2] ([x1.1,x1.2.1,x1.2.2.1,x1.2.2.2.1,x1.2.2.2.2.1,x1.2.2.2.2.2.1,x1.2.2.2.2.2.2.1,x1.2.2.2.2.2.2.2] : List UInt8).length) :: (bx b1 [vI 0,.slice none 0 0,.slice none 0 0] 56) :: As) _:= S7
 clear S6
 refine s_asv (v:= (.slice (some ⟨b2,0,none⟩) 8 8)) rfl ?_
 refine wpl_nil ?_
 refine nrm ?_
 obtain ⟨x13,q17,hm⟩:= oY0 hm
 have L5:= Mem.rfl' m4
 refine wpc_seq ?_
 refine wpc_join [5,19,20,21,22,23,24,25,26,27,28] (fun f' w'=> ∃ (M3 : Mem) (v1 : Value),m4 ≤ M3 ∧ St M3 ((bx b1 [vI 0,.slice none 0 0,.slice none 0 0] 56) :: As) w' ∧ SlR M3 v1 x13 ∧ AllAt f' [(5,v1)]) ?_ ?_
 ·obtain ⟨x14,q18,q17⟩:= oY0 q17
  have L6:= Mem.rfl' m4
  obtain ⟨m5,l3,h4,S8⟩:= St.rowKeepT (i:= 0) S7 rfl h1 rfl
  replace L6:= Mem.tr L6 l3
  clear S7
  refine wpc_join [5,19,20,21,22,23,24,25,26,27,28] (fun f' w'=> ∃ (M4 : Mem) (v3 : Value),m4 ≤ M4 ∧ St M4 ((bx b1 [vI 0,.slice none 0 0,.slice none 0 0] 56) :: As) w' ∧ SlR M4 v3 x14 ∧ AllAt f' [(5,v3)]) ?_ ?_
  ·refine wpc_block ?_
   refine wpc_rounds [5,19,20,21,22,23,24,25,26,27,28] (fun n2 f' w'=> ∃ (s2 : (List UInt8)) (m10 : Mem) (v2 : Value),iter m_der_Int_b4 n2 s2 = some x14 ∧ m4 ≤ m10 ∧ St m10 ((bx b1 [vI 0,.slice none 0 0,.slice none 0 0] 56) :: As) w' ∧ SlR m10 v2 s2 ∧ AllAt f' [(5,v2)]) FUEL ⟨([x1.1,x1.2.1,x1.2.2.1,x1.2.2.2.1,x1.2.2.2.2.1,x1.2.2.2.2.2.1,x1.2.2.2.2.2.2.1,x1.2.2.2.2.2.2.2] : List UInt8),m5,_,q18,L6,S8,h4,⟨rfl,trivial⟩⟩ ?_
   rintro n2 f4 w7 ho ⟨s2,m6,v2,q19,L8,S9,h3,ha⟩
   obtain ⟨u4,rfl⟩:= fr_of (N:= 32) ho ha
   clear ho ha
   have L7:= Mem.rfl' m6
   clear S8
   cases n2 with
   | zero=> exact (iter_zero q19).elim
   | succ n2 =>
    obtain ⟨y2,q21,q20⟩:= iter_succ q19
    unfold m_der_Int_b4 at q21
    refine wpc_seq ?_
    refine wpc_seq ?_
    refine wpc_region ?_
    refine s_mvv (v:= v2) rfl ?_
    refine s_lenR (xs:= s2) rfl h3 Tryz.underlying34 ?_
    refine s_gtr (m:= (s2.length : Int)) (n:= 1) rfl rfl ?_
    refine s_mvv (v:= vb (decide ((s2.length : Int) > 1))) rfl ?_
    obtain ⟨x17,q24,q21⟩:= oY0 q21
    have L9:= Mem.rfl' m6
    refine wpl_cut 4 [23,24,25,26] (fun f' w'=> ∃ (M5 : Mem),m6 ≤ M5 ∧ St M5 ((bx b1 [vI 0,.slice none 0 0,.slice none 0 0] 56) :: As) w' ∧ AllAt f' [(26,vb x17)]) ?_ ?_
    ·rcases bool_tf (decide ((s2.length : Int) > 1)) with hb1 | hb1
     ·replace q24:= ifT hb1 q24
      refine wpl_yes (d:= 22) rfl rfl (congrArg Value.bool hb1) ?_
      refine s_mvv (v:= v2) rfl ?_
      refine wpl_yes (d:= 22) rfl rfl (congrArg Value.bool hb1) ?_
      obtain ⟨x18,q25,q24⟩:= oY0 q24
      refine s_call Tryz.call128 (v_der_least (a0:= s2) S9 h3 q25) rfl ?_
      rintro _ w9 ⟨m8,l5,S11,rfl⟩
      replace h3:= h3.up l5
      replace L9:= Mem.tr L9 l5
      clear S9
      replace S11 : St _ ((bx b1 [vI 0,.slice none 0 0,.slice none 0 0] 56) :: As) _:= S11
      refine wpl_yes (d:= 22) rfl rfl (congrArg Value.bool hb1) ?_
      refine s_not rfl ?_
      refine s_pickT (congrArg Value.bool hb1) rfl ?_
      refine wpl_nil (nrm ?_)
      have e0:= sI0 q24
      subst e0
      exact ⟨outP,m8,L9,S11,⟨rfl,trivial⟩⟩
     replace q24:= ifF hb1 q24
     refine wpl_no (d:= 22) rfl rfl (congrArg Value.bool hb1) ?_
     refine wpl_no (d:= 22) rfl rfl (congrArg Value.bool hb1) ?_
     refine wpl_no (d:= 22) rfl rfl (congrArg Value.bool hb1) ?_
     refine s_pickF (congrArg Value.bool hb1) rfl ?_
     refine wpl_nil (nrm ?_)
     have e0:= sI0 q24
     subst e0
     exact ⟨outP,m6,L9,S9,⟨rfl,trivial⟩⟩
    rintro f5 w10 ho ⟨m9,l6,S12,ha⟩
    obtain ⟨u5,rfl⟩:= fr_of (N:= 32) ho ha
    replace h3:= h3.up l6
    replace L7:= Mem.tr L7 l6
    clear S9
    refine wpl_nil ?_
    refine nrm ?_
    refine wpc_if (t:= x17) rfl (fun hc2=> ?_) (fun hc2=> ?_)
    ·replace q21:= ifT hc2 q21
     refine wpc_skip ?_
     refine nrm ?_
     refine wpc_block ?_
     refine wpc_region ?_
     refine s_mvv (v:= v2) rfl ?_
     obtain ⟨x19,q26,q21⟩:= oY0 q21
     refine s_cut (ys:= x19) (l:= 1) (h:= (s2.length : Int)) rfl h3 Tryz.underlying34 Tryz.sizeOf5 (.inr ⟨_,rfl⟩) (.inl ⟨rfl,rfl⟩) (.inl rfl) q26 ?_
     intro v4 h6
     refine s_asv (v:= v4) rfl ?_
     refine wpl_nil ?_
     refine nrmB ?_
     refine nrm ?_
     have e0:= sI0 q21
     subst e0
     rcases q20 with ⟨sn,e,q20'⟩ | e
     ·cases e
      exact ⟨outP,_,Nat.lt_succ_self _,⟨_,m9,_,q20',Mem.tr L8 L7,S12,h6,⟨rfl,trivial⟩⟩⟩
     ·cases e
    replace q21:= ifF hc2 q21
    refine wpc_exit ?_
    refine thE ?_
    refine thE ?_
    refine exB ?_
    refine nrm ?_
    have e0:= sI0 q21
    subst e0
    rcases q20 with ⟨sn,e,_⟩ | e
    ·cases e
    ·cases e
     exact ⟨outP,m9,_,Mem.tr L8 L7,S12,h3,⟨rfl,trivial⟩⟩
  rintro f6 w11 ho ⟨m11,v3,l7,S13,h5,ha⟩
  obtain ⟨u6,rfl⟩:= fr_of (N:= 32) ho ha
  clear ho ha
  replace L5:= Mem.tr L5 l7
  clear S8
  have e0:= sI0 q17
  subst e0
  exact ⟨outP,m11,_,L5,S13,h5,⟨rfl,trivial⟩⟩
 rintro f7 w12 ho ⟨m12,v1,l8,S14,h2,ha⟩
 obtain ⟨u7,rfl⟩:= fr_of (N:= 32) ho ha
 replace L0:= Mem.tr L0 l8
 clear S7
 refine wpc_seq ?_
 refine wpc_region ?_
 refine s_mvv (v:= v1) rfl ?_
 obtain ⟨x20,q27,hm⟩:= oY0 hm
 refine s_call Tryz.call129 (w_slices_Clone_byte_byte (a0:= x13) S14 h2 q27) rfl ?_
 rintro v5 w13 ⟨m13,l9,_,c1,S15,rfl,h7⟩
 replace h2:= h2.up l9
 replace L0:= Mem.tr L0 l9
 clear S14
 replace S15 : St _ ((row 1 v5 c1 x20.length) :: (bx b1 [vI 0,.slice none 0 0,.slice none 0 0] 56) :: As) _:= S15
 obtain ⟨m14,l10,h8,S16⟩:= St.rowKeepT (i:= 0) S15 rfl h7 rfl
 replace L0:= Mem.tr L0 l10
 clear S15
 refine s_build (parts:= [(0,.const (.int .i64 2)),(1,.tmp 30)]) (ps:= [(0,vI 2,[vI 2]),(1,v5,[v5])]) (cs:= [vI 2,v5,.slice none 0 0]) Tryz.zeroValue56 (BuildPl.str (ss:= [1,1,1]) Tryz.underlying56 ⟨Tryz.sizeOf3,Tryz.sizeOf34,Tryz.sizeOf54,trivial⟩) rfl ⟨rfl,SlR.cells h8,trivial⟩ rfl ?_
 refine s_stL (i:= 0) S16 rfl rfl rfl Tryz.sizeOf56 (oneC rfl (oneC (SlR.one h8) (oneC rfl oneN))) rfl ?_
 intro w14 S17
 replace S17 : St _ ((bx b1 [vI 2,v5,.slice none 0 0] 56) :: As) _:= S17
 clear S16
 refine wpl_nil ?_
 refine nrm ?_
 refine wpc_ret ?_
 refine outRw ?_
 intro we hpd
 replace S17:= St.pd S17 hpd
 have SR:= S17
 obtain ⟨m15,l11,S18⟩:= St.drop S17 0
 replace h8:= h8.up l11
 replace L0:= Mem.tr L0 l11
 replace S18 : St _ (As) _:= S18
 have e0:= sI0 hm
 subst e0
 exact outR [_] rfl ⟨res_box (i:= 0) (off:= 0) (cs:= [vI 2,v5,.slice none 0 0]) SR rfl rfl Tryz.isAgg56 Tryz.sizeOf56 rfl (fun h=> by cases h),trivial⟩ ⟨_,L0,_,_,S18,rfl,h8,SlR.nil⟩
theorem s_der_Int {a0 : Int} {r : g_api_Item} (hm : m_der_Int a0 = some r) : Sf prog 80 [.d (.i a0)] (ag (e_api_Item r)) :=
 ⟨call80,fun η m As w vs hv0 hd S=> by
  have S : St m As w:= S
  obtain ⟨v0,u0,rfl,r0,hv1⟩:= RelL.cons_inv hv0
  obtain rfl:= r0.i_inv
  obtain rfl:= RelL.nil_inv hv1
  refine CallsR.mono (w_der_Int S  hm) ?_
  rintro v w' ⟨M,hle,y0_0,y0_1,S0,rfl,h0_0,h0_1⟩
  exact ⟨M,none0,_,_,_,hle,dom0 hd _,⟨rfl,rfl,rfl⟩,fun n h=> absurd rfl h,(Br.toA b_api_Item (mk_g_api_Item h0_0 h0_1)),S0⟩⟩
def m_cert_big (a0 : UInt64) : Option g_api_Item :=
 obind (m_der_Int (w64 (a0.toNat : Int))) fun x1 =>
 some x1
theorem w_cert_big {a0 : UInt64} {r : g_api_Item} (hm : m_cert_big a0 = some r) : Sf prog 70 [.d (.u a0)] (ag (e_api_Item r)) :=
 sp call70 func70 rfl ntmps70 rfl fun D0 As η0 m0 hd=> by
  unfold m_cert_big at hm
  obtain ⟨x1,q1,hm⟩:= oY0 hm
  refine gc (fun _=> s_der_Int q1) (by kernel_rfl) ?_
  have e0:= sI0 hm
  subst e0
  exact gend hd (by kernel_rfl)
def m_der_Text (a0 : ByteArray) : Option g_api_Item :=
 obind (app 1 ([] : List UInt8) a0.data.toList) fun x1 =>
 some (⟨12,x1,[]⟩ : g_api_Item)
theorem w_der_Text {a0 : ByteArray} {r : g_api_Item} (hm : m_der_Text a0 = some r) : Sf prog 81 [.d (.s a0)] (ag (e_api_Item r)) :=
 sp call81 func81 rfl ntmps81 rfl fun D0 As η0 m0 hd=> by
  unfold m_der_Text at hm
  obtain ⟨x1,q1,hm⟩:= oY0 hm
  refine gofS q1 (by kernel_rfl) ?_
  have e0:= sI0 hm
  subst e0
  exact gend hd (by kernel_rfl)
def m_der_Bool (a0 : Bool) : Option g_api_Item :=
 obind (
  if a0 = true then
   obind (idx ([0] : List UInt8) 0) fun x2 =>
   bnd (([0] : List UInt8).set (0 : Int).toNat 255) fun x3 =>
   some x3
  else
  some ([0] : List UInt8)
 ) fun x1 =>
 some (⟨1,x1,[]⟩ : g_api_Item)
theorem w_der_Bool {a0 : Bool} {r : g_api_Item} (hm : m_der_Bool a0 = some r) : Sf prog 83 [.d (.t a0)] (ag (e_api_Item r)) :=
 sp call83 func83 rfl ntmps83 rfl fun D0 As η0 m0 hd=> by
  unfold m_der_Bool at hm
  refine glit (k:= 1) eB ([0] : List UInt8) (fun _=> rfl) (by kernel_rfl) ?_
  obtain ⟨x1,q1,hm⟩:= oY0 hm
  refine gj (fun (_ : Unit)=> ⟨[(2,.pb 0 0),(3,.ow 1)],[(0,.row 1 1 _ eB x1),(1,.box 0 [.d (.i 0),sl eB [],sl e_api_Item []] 56)],[],2⟩) (fun _=> True) (by kernel_rfl) (fun Jp bk1=> ?_) fun _ _=> ?_
  ·refine gi q1 (by kernel_rfl) (fun hc1 q1=> ?_) fun hc1 q1=> ?_
   ·obtain ⟨x2,q2,q1⟩:= oY0 q1
    refine gidxO (E:= eB) (fun _=> q2) (by kernel_rfl) ?_
    have q1:= bnd_is q1
    let x3 : List UInt8:= (([0] : List UInt8).set (0 : Int).toNat 255)
    refine gstO (k:= 1) (E:= eB) 255 (fun _=> rfl) q2 (by kernel_rfl) ?_
    have e0:= sI0 q1
    subst e0
    exact gb bk1 hd () trivial (by kernel_rfl)
   have e0:= sI0 q1
   subst e0
   exact gb bk1 hd () trivial (by kernel_rfl)
  have e0:= sI0 hm
  subst e0
  exact gend hd (by kernel_rfl)
def m_cert_seq_string_81x_b2  (i1 : Int) (x3 : ByteArray) (s1 : (List g_api_Item)) : Option ((List g_api_Item)) :=
 obind (m_der_Text x3) fun x4 =>
 obind (app 56 s1 ([x4] : List g_api_Item)) fun x5 =>
 some x5
def m_cert_seq_string_81x (a0 : List ByteArray) : Option g_api_Item :=
 obind (
  obind (each0 m_cert_seq_string_81x_b2 a0 0 ([] : List g_api_Item)) fun x2 =>
  some x2
 ) fun x1 =>
 obind (m_der_Seq x1) fun x6 =>
 some x6
theorem w_cert_seq_string_81x {a0 : List ByteArray} {r : g_api_Item} (hm : m_cert_seq_string_81x a0 = some r) : Sf prog 82 [sl eS a0,.fn (.func 81) [] []] (ag (e_api_Item r)) :=
 sp call82 func82 rfl ntmps82 rfl fun D0 As η0 m0 hd=> by
  unfold m_cert_seq_string_81x at hm
  obtain ⟨x1,q1,hm⟩:= oY0 hm
  obtain ⟨x2,q2,q1⟩:= oY0 q1
  refine gnilU 0 e_api_Item 5 3 (by kernel_rfl) ?_
  refine glen 0 (E:= eS) (xs:= a0) 8 (by kernel_rfl) fun hle1=> ?_
  refine gjU 0 (fun (_ : Unit)=> ⟨[(4,.pb 0 0),(5,.ow 1)],[(0,.row 1 3 _ e_api_Item x1),(1,.box 0 [.d (.i 0),sl eB [],sl e_api_Item []] 56)],[],2⟩) (fun _=> True) (by kernel_rfl) (fun Jp bk1=> ?_) fun _ _=> ?_
  ·refine gjU 0 (fun (_ : Unit)=> ⟨[(4,.pb 0 0),(5,.ow 1)],[(0,.row 1 3 _ e_api_Item x2),(1,.box 0 [.d (.i 0),sl eB [],sl e_api_Item []] 56)],[],2⟩) (fun _=> True) (by kernel_rfl) (fun Jp bk2=> ?_) fun _ _=> ?_
   ·refine gl hd (fun (p : Int × ((List g_api_Item)))=> let (p0,p_0):= p; ⟨[(1,.fn (.func 81) [] []),(4,.pb 0 0),(5,.ow 1),(8,sl eS a0),(9,.d (.i (a0.length : Int))),(10,.d (.i p0))],[(0,.row 1 3 _ e_api_Item p_0),(1,.box 0 [.d (.i 0),sl eB [],sl e_api_Item []] 56)],[],2⟩) (fun p=> ∃ i : Nat,p.1 = (i : Int) ∧ i ≤ a0.length ∧ each0 m_cert_seq_string_81x_b2 (a0.drop i) (i : Int) p.2 = some x2) (fun p=> a0.length - p.1.toNat) (0,([] : List g_api_Item)) ⟨0,rfl,Nat.zero_le _,q2⟩ (by kernel_rfl) ?_
    rintro ⟨_,s1⟩ ⟨i1,rfl,hi,q3⟩ Jl bl1
    refine gi' (b:= decide ((i1 : Int) < (a0.length : Int))) (by kernel_rfl) (fun hc1=> ?_) fun hc1=> ?_
    ·have hlt1 : i1 < a0.length:= by have:= of_decide_eq_true hc1; omega
     obtain ⟨x3,y1,q6,q5,q4⟩:= each0_in q3 hlt1
     unfold m_cert_seq_string_81x_b2 at q5
     refine gidx (k:= 1) (E:= eS) (fun _=> rfl) (fun _=> q6) (by kernel_rfl) ?_
     obtain ⟨x4,q7,q5⟩:= oY0 q5
     refine gc (fun _=> w_der_Text q7) (by kernel_rfl) ?_
     refine glitF (k:= 3) e_api_Item ([x4] : List g_api_Item) (fun _=> rfl) (by kernel_rfl) ?_
     obtain ⟨x5,q8,q5⟩:= oY0 q5
     refine gapp (k:= 3) (E:= e_api_Item) (fun _=> rfl) q8 (by kernel_rfl) ?_
     have e0:= sI0 q5
     subst e0
     exact gb bl1 hd (w64 ((i1 : Int) + 1),x5) ⟨⟨i1 + 1,w64_succ hlt1 hle1,by omega,q4⟩,mu_lt hlt1 hle1⟩ (by kernel_rfl)
    have hlt1 : ¬ i1 < a0.length:= by have:= of_decide_eq_false hc1; omega
    have e:= Eq.symm (each0_out q3 hlt1)
    subst e
    exact gb bk2 hd () trivial (by kernel_rfl)
   have e0:= sI0 q1
   subst e0
   exact gb bk1 hd () trivial (by kernel_rfl)
  obtain ⟨x6,q9,hm⟩:= oY0 hm
  refine gco (w_der_Seq q9) (by kernel_rfl) ?_
  have e0:= sI0 hm
  subst e0
  exact gend hd (by kernel_rfl)
def m_cert_pre (a0 : g_api_Cert) : Option g_api_Item :=
 obind (m_der_Int a0.Serial) fun x1 =>
 obind (m_der_Text a0.Issuer) fun x2 =>
 obind (m_der_Text a0.Subject) fun x3 =>
 obind (m_cert_big a0.Key) fun x4 =>
 obind (m_cert_seq_string_81x a0.Names) fun x5 =>
 obind (m_der_Int a0.From) fun x6 =>
 obind (m_der_Int a0.Until) fun x7 =>
 obind (m_der_Bool a0.Ca) fun x8 =>
 obind (m_der_Int a0.Depth) fun x9 =>
 obind (m_cert_seq_string_81x a0.Permit) fun x10 =>
 obind (m_der_Seq ([x1,x2,x3,x4,x5,x6,x7,x8,x9,x10] : List g_api_Item)) fun x11 =>
 some x11
theorem w_cert_pre {a0 : g_api_Cert} {r : g_api_Item} (hm : m_cert_pre a0 = some r) : Sf prog 47 [ag (e_api_Cert a0)] (ag (e_api_Item r)) :=
 sp call47 func47 rfl ntmps47 rfl fun D0 As η0 m0 hd=> by
  unfold m_cert_pre at hm
  obtain ⟨x1,q1,hm⟩:= oY0 hm
  refine gc (fun _=> s_der_Int q1) (by kernel_rfl) ?_
  obtain ⟨x2,q2,hm⟩:= oY0 hm
  refine gc (fun _=> w_der_Text q2) (by kernel_rfl) ?_
  obtain ⟨x3,q3,hm⟩:= oY0 hm
  refine gc (fun _=> w_der_Text q3) (by kernel_rfl) ?_
  obtain ⟨x4,q4,hm⟩:= oY0 hm
  refine gc (fun _=> w_cert_big q4) (by kernel_rfl) ?_
  obtain ⟨x5,q5,hm⟩:= oY0 hm
  refine gc (fun _=> w_cert_seq_string_81x q5) (by kernel_rfl) ?_
  obtain ⟨x6,q6,hm⟩:= oY0 hm
  refine gc (fun _=> s_der_Int q6) (by kernel_rfl) ?_
  obtain ⟨x7,q7,hm⟩:= oY0 hm
  refine gc (fun _=> s_der_Int q7) (by kernel_rfl) ?_
  obtain ⟨x8,q8,hm⟩:= oY0 hm
  refine gc (fun _=> w_der_Bool q8) (by kernel_rfl) ?_
  obtain ⟨x9,q9,hm⟩:= oY0 hm
  refine gc (fun _=> s_der_Int q9) (by kernel_rfl) ?_
  obtain ⟨x10,q10,hm⟩:= oY0 hm
  refine gc (fun _=> w_cert_seq_string_81x q10) (by kernel_rfl) ?_
  refine glitF (k:= 3) e_api_Item ([x1,x2,x3,x4,x5,x6,x7,x8,x9,x10] : List g_api_Item) (fun _=> rfl) (by kernel_rfl) ?_
  obtain ⟨x11,q11,hm⟩:= oY0 hm
  refine gc (fun _=> w_der_Seq q11) (by kernel_rfl) ?_
  have e0:= sI0 hm
  subst e0
  exact gend hd (by kernel_rfl)
def m_cert_body_1 (a0 : g_api_Promise) : Option g_api_Item :=
 obind (m_der_Int a0.Log) fun x1 =>
 obind (m_der_Int a0.At) fun x2 =>
 obind (m_cert_big a0.Leaf.1) fun x3 =>
 obind (m_cert_big a0.Leaf.2) fun x4 =>
 obind (m_cert_big a0.Sig.E) fun x5 =>
 obind (m_cert_big a0.Sig.S) fun x6 =>
 obind (m_der_Seq ([x1,x2,x3,x4,x5,x6] : List g_api_Item)) fun x7 =>
 some x7
theorem w_cert_body_1 {a0 : g_api_Promise} {r : g_api_Item} (hm : m_cert_body_1 a0 = some r) : Sf prog 89 [ag (e_api_Promise a0)] (ag (e_api_Item r)) :=
 sp call89 func89 rfl ntmps89 rfl fun D0 As η0 m0 hd=> by
  unfold m_cert_body_1 at hm
  obtain ⟨x1,q1,hm⟩:= oY0 hm
  refine gc (fun _=> s_der_Int q1) (by kernel_rfl) ?_
  obtain ⟨x2,q2,hm⟩:= oY0 hm
  refine gc (fun _=> s_der_Int q2) (by kernel_rfl) ?_
  obtain ⟨x3,q3,hm⟩:= oY0 hm
  refine gc (fun _=> w_cert_big q3) (by kernel_rfl) ?_
  obtain ⟨x4,q4,hm⟩:= oY0 hm
  refine gc (fun _=> w_cert_big q4) (by kernel_rfl) ?_
  obtain ⟨x5,q5,hm⟩:= oY0 hm
  refine gc (fun _=> w_cert_big q5) (by kernel_rfl) ?_
  obtain ⟨x6,q6,hm⟩:= oY0 hm
  refine gc (fun _=> w_cert_big q6) (by kernel_rfl) ?_
  refine glitF (k:= 3) e_api_Item ([x1,x2,x3,x4,x5,x6] : List g_api_Item) (fun _=> rfl) (by kernel_rfl) ?_
  obtain ⟨x7,q7,hm⟩:= oY0 hm
  refine gc (fun _=> w_der_Seq q7) (by kernel_rfl) ?_
  have e0:= sI0 hm
  subst e0
  exact gend hd (by kernel_rfl)
def m_cert_seq_api_Promise_89x_b2  (i1 : Int) (x3 : g_api_Promise) (s1 : (List g_api_Item)) : Option ((List g_api_Item)) :=
 obind (m_cert_body_1 x3) fun x4 =>
 obind (app 56 s1 ([x4] : List g_api_Item)) fun x5 =>
 some x5
def m_cert_seq_api_Promise_89x (a0 : List g_api_Promise) : Option g_api_Item :=
 obind (
  obind (each0 m_cert_seq_api_Promise_89x_b2 a0 0 ([] : List g_api_Item)) fun x2 =>
  some x2
 ) fun x1 =>
 obind (m_der_Seq x1) fun x6 =>
 some x6
theorem w_cert_seq_api_Promise_89x {a0 : List g_api_Promise} {r : g_api_Item} (hm : m_cert_seq_api_Promise_89x a0 = some r) : Sf prog 88 [sl e_api_Promise a0,.fn (.func 89) [] []] (ag (e_api_Item r)) :=
 sp call88 func88 rfl ntmps88 rfl fun D0 As η0 m0 hd=> by
  unfold m_cert_seq_api_Promise_89x at hm
  obtain ⟨x1,q1,hm⟩:= oY0 hm
  obtain ⟨x2,q2,q1⟩:= oY0 q1
  refine gnilU 0 e_api_Item 5 3 (by kernel_rfl) ?_
  refine glen 0 (E:= e_api_Promise) (xs:= a0) 8 (by kernel_rfl) fun hle1=> ?_
  refine gjU 0 (fun (_ : Unit)=> ⟨[(4,.pb 0 0),(5,.ow 1)],[(0,.row 1 3 _ e_api_Item x1),(1,.box 0 [.d (.i 0),sl eB [],sl e_api_Item []] 56)],[],2⟩) (fun _=> True) (by kernel_rfl) (fun Jp bk1=> ?_) fun _ _=> ?_
  ·refine gjU 0 (fun (_ : Unit)=> ⟨[(4,.pb 0 0),(5,.ow 1)],[(0,.row 1 3 _ e_api_Item x2),(1,.box 0 [.d (.i 0),sl eB [],sl e_api_Item []] 56)],[],2⟩) (fun _=> True) (by kernel_rfl) (fun Jp bk2=> ?_) fun _ _=> ?_
   ·refine gl hd (fun (p : Int × ((List g_api_Item)))=> let (p0,p_0):= p; ⟨[(1,.fn (.func 89) [] []),(4,.pb 0 0),(5,.ow 1),(8,sl e_api_Promise a0),(9,.d (.i (a0.length : Int))),(10,.d (.i p0))],[(0,.row 1 3 _ e_api_Item p_0),(1,.box 0 [.d (.i 0),sl eB [],sl e_api_Item []] 56)],[],2⟩) (fun p=> ∃ i : Nat,p.1 = (i : Int) ∧ i ≤ a0.length ∧ each0 m_cert_seq_api_Promise_89x_b2 (a0.drop i) (i : Int) p.2 = some x2) (fun p=> a0.length - p.1.toNat) (0,([] : List g_api_Item)) ⟨0,rfl,Nat.zero_le _,q2⟩ (by kernel_rfl) ?_
    rintro ⟨_,s1⟩ ⟨i1,rfl,hi,q3⟩ Jl bl1
    refine gi' (b:= decide ((i1 : Int) < (a0.length : Int))) (by kernel_rfl) (fun hc1=> ?_) fun hc1=> ?_
    ·have hlt1 : i1 < a0.length:= by have:= of_decide_eq_true hc1; omega
     obtain ⟨x3,y1,q6,q5,q4⟩:= each0_in q3 hlt1
     unfold m_cert_seq_api_Promise_89x_b2 at q5
     refine gidx (k:= 6) (E:= e_api_Promise) (fun _=> rfl) (fun _=> q6) (by kernel_rfl) ?_
     obtain ⟨x4,q7,q5⟩:= oY0 q5
     refine gc (fun _=> w_cert_body_1 q7) (by kernel_rfl) ?_
     refine glitF (k:= 3) e_api_Item ([x4] : List g_api_Item) (fun _=> rfl) (by kernel_rfl) ?_
     obtain ⟨x5,q8,q5⟩:= oY0 q5
     refine gapp (k:= 3) (E:= e_api_Item) (fun _=> rfl) q8 (by kernel_rfl) ?_
     have e0:= sI0 q5
     subst e0
     exact gb bl1 hd (w64 ((i1 : Int) + 1),x5) ⟨⟨i1 + 1,w64_succ hlt1 hle1,by omega,q4⟩,mu_lt hlt1 hle1⟩ (by kernel_rfl)
    have hlt1 : ¬ i1 < a0.length:= by have:= of_decide_eq_false hc1; omega
    have e:= Eq.symm (each0_out q3 hlt1)
    subst e
    exact gb bk2 hd () trivial (by kernel_rfl)
   have e0:= sI0 q1
   subst e0
   exact gb bk1 hd () trivial (by kernel_rfl)
  obtain ⟨x6,q9,hm⟩:= oY0 hm
  refine gco (w_der_Seq q9) (by kernel_rfl) ?_
  have e0:= sI0 hm
  subst e0
  exact gend hd (by kernel_rfl)
def m_cert_body (a0 : g_api_Cert) : Option g_api_Item :=
 obind (m_cert_pre a0) fun x1 =>
 obind (m_cert_seq_api_Promise_89x a0.Proms) fun x2 =>
 obind (m_der_Seq ([x1,x2] : List g_api_Item)) fun x3 =>
 some x3
theorem w_cert_body {a0 : g_api_Cert} {r : g_api_Item} (hm : m_cert_body a0 = some r) : Sf prog 50 [ag (e_api_Cert a0)] (ag (e_api_Item r)) :=
 sp call50 func50 rfl ntmps50 rfl fun D0 As η0 m0 hd=> by
  unfold m_cert_body at hm
  obtain ⟨x1,q1,hm⟩:= oY0 hm
  refine gc (fun _=> w_cert_pre q1) (by kernel_rfl) ?_
  obtain ⟨x2,q2,hm⟩:= oY0 hm
  refine gc (fun _=> w_cert_seq_api_Promise_89x q2) (by kernel_rfl) ?_
  refine glitF (k:= 3) e_api_Item ([x1,x2] : List g_api_Item) (fun _=> rfl) (by kernel_rfl) ?_
  obtain ⟨x3,q3,hm⟩:= oY0 hm
  refine gc (fun _=> w_der_Seq q3) (by kernel_rfl) ?_
  have e0:= sI0 hm
  subst e0
  exact gend hd (by kernel_rfl)
def m_cert_whole (a0 : g_api_Cert) : Option g_api_Item :=
 obind (m_cert_body a0) fun x1 =>
 obind (m_cert_big a0.Sig.E) fun x2 =>
 obind (m_cert_big a0.Sig.S) fun x3 =>
 obind (m_der_Seq ([x2,x3] : List g_api_Item)) fun x4 =>
 obind (m_der_Seq ([x1,x4] : List g_api_Item)) fun x5 =>
 some x5
theorem w_cert_whole {a0 : g_api_Cert} {r : g_api_Item} (hm : m_cert_whole a0 = some r) : Sf prog 39 [ag (e_api_Cert a0)] (ag (e_api_Item r)) :=
 sp call39 func39 rfl ntmps39 rfl fun D0 As η0 m0 hd=> by
  unfold m_cert_whole at hm
  obtain ⟨x1,q1,hm⟩:= oY0 hm
  refine gc (fun _=> w_cert_body q1) (by kernel_rfl) ?_
  obtain ⟨x2,q2,hm⟩:= oY0 hm
  refine gc (fun _=> w_cert_big q2) (by kernel_rfl) ?_
  obtain ⟨x3,q3,hm⟩:= oY0 hm
  refine gc (fun _=> w_cert_big q3) (by kernel_rfl) ?_
  refine glitF (k:= 3) e_api_Item ([x2,x3] : List g_api_Item) (fun _=> rfl) (by kernel_rfl) ?_
  obtain ⟨x4,q4,hm⟩:= oY0 hm
  refine gc (fun _=> w_der_Seq q4) (by kernel_rfl) ?_
  refine glitF (k:= 3) e_api_Item ([x1,x4] : List g_api_Item) (fun _=> rfl) (by kernel_rfl) ?_
  obtain ⟨x5,q5,hm⟩:= oY0 hm
  refine gc (fun _=> w_der_Seq q5) (by kernel_rfl) ?_
  have e0:= sI0 hm
  subst e0
  exact gend hd (by kernel_rfl)
def m_cert_Check (a0 : g_api_Cert) : Option Int :=
 obind (m_cert_formed a0) fun x1 =>
 if (!x1) = true then
  some 1
 else
 obind (m_cert_whole a0) fun x2 =>
 obind (m_der_Put x2) fun x3 =>
 if ((x3.2 != 0) || (decide ((x3.1.length : Int) > 2048))) = true then
  some 2
 else
 some 0
theorem w_cert_Check {a0 : g_api_Cert} {r : Int} (hm : m_cert_Check a0 = some r) : Sf prog 14 [ag (e_api_Cert a0)] (.d (.i r)) :=
 sp call14 func14 rfl ntmps14 rfl fun D0 As η0 m0 hd=> by
  unfold m_cert_Check at hm
  obtain ⟨x1,q1,hm⟩:= oY0 hm
  refine gc (fun _=> w_cert_formed q1) (by kernel_rfl) ?_
  refine gi hm (by kernel_rfl) (fun hc1 hm=> ?_) fun hc1 hm=> ?_
  ·skip
   have e0:= sI0 hm
   subst e0
   exact gend hd (by kernel_rfl)
  obtain ⟨x2,q2,hm⟩:= oY0 hm
  refine gc (fun _=> w_cert_whole q2) (by kernel_rfl) ?_
  obtain ⟨x3,q3,hm⟩:= oY0 hm
  refine gco (w_der_Put q3) (by kernel_rfl) ?_
  refine gi hm (by kernel_rfl) (fun hc2 hm=> ?_) fun hc2 hm=> ?_
  ·skip
   have e0:= sI0 hm
   subst e0
   exact gend hd (by kernel_rfl)
  have e0:= sI0 hm
  subst e0
  exact gend hd (by kernel_rfl)
def m_slices_Equal_string_string_b1 (a0 : List ByteArray) (a1 : List ByteArray) (i1 : Int) (s1 : Unit) : Option ((Unit) ⊕ Bool) :=
 obind (idx a0 (i1 : Int)) fun x3 =>
 obind (idx a1 (i1 : Int)) fun x4 =>
 if (!eqS x3 x4) = true then
  some (.inr false)
 else
 some (.inl ())
def m_slices_Equal_string_string (a0 : List ByteArray) (a1 : List ByteArray) : Option Bool :=
 if ((a0.length : Int) != (a1.length : Int)) = true then
  some false
 else
 obind (eachN (m_slices_Equal_string_string_b1 a0 a1) a0.length 0 ()) fun x1=> match x1 with
 | .inr r=> some r
 | .inl y1 =>
 some true
theorem w_slices_Equal_string_string {a0 : List ByteArray} {a1 : List ByteArray} {r : Bool} (hm : m_slices_Equal_string_string a0 a1 = some r) : Sf prog 43 [sl eS a0,sl eS a1] (.d (.t r)) :=
 sp call43 func43 rfl ntmps43 rfl fun D0 As η0 m0 hd=> by
  unfold m_slices_Equal_string_string at hm
  refine gi hm (by kernel_rfl) (fun hc1 hm=> ?_) fun hc1 hm=> ?_
  ·skip
   have e0:= sI0 hm
   subst e0
   exact gend hd (by kernel_rfl)
  obtain ⟨x1,q1,hm⟩:= oY0 hm
  refine glen 0 (E:= eS) (xs:= a0) 11 (by kernel_rfl) fun hle1=> ?_
  refine gjU 0 (fun (y1 : Unit)=> ⟨[],[],[],0⟩) (fun y1=> x1 = .inl y1) (by kernel_rfl) (fun Jp bk1=> ?_) fun y1 hy=> ?_
  ·refine gl hd (fun (p : Int × (Unit))=> let (p0,_):= p; ⟨[(0,sl eS a0),(1,sl eS a1),(12,.d (.i (a0.length : Int))),(13,.d (.i p0))],[],[],0⟩) (fun p=> ∃ i : Nat,p.1 = (i : Int) ∧ i ≤ a0.length ∧ eachN (m_slices_Equal_string_string_b1 a0 a1) (a0.length - i) (i : Int) p.2 = some x1) (fun p=> a0.length - p.1.toNat) (0,()) ⟨0,rfl,Nat.zero_le _,q1⟩ (by kernel_rfl) ?_
   rintro ⟨_,s1⟩ ⟨i1,rfl,hi,q2⟩ Jl bl1
   refine gi' (b:= decide ((i1 : Int) < (a0.length : Int))) (by kernel_rfl) (fun hc3=> ?_) fun hc3=> ?_
   ·have hlt1 : i1 < a0.length:= by have:= of_decide_eq_true hc3; omega
    obtain ⟨y2,q4,q3⟩:= eachN_in q2 hlt1
    unfold m_slices_Equal_string_string_b1 at q4
    obtain ⟨x3,q6,q4⟩:= oY0 q4
    refine gidx (k:= 1) (E:= eS) (fun _=> rfl) (fun _=> q6) (by kernel_rfl) ?_
    obtain ⟨x4,q7,q4⟩:= oY0 q4
    refine gidx (k:= 1) (E:= eS) (fun _=> rfl) (fun _=> q7) (by kernel_rfl) ?_
    refine gi q4 (by kernel_rfl) (fun hc2 q4=> ?_) fun hc2 q4=> ?_
    ·skip
     cases q4
     rcases q3 with ⟨sn,e,_⟩ | ⟨tn,e,e2⟩
     ·cases e
     cases e
     cases e2
     dsimp only at hm
     have e0:= sI0 hm
     subst e0
     exact gend hd (by kernel_rfl)
    have e0:= sI0 q4
    subst e0
    rcases q3 with ⟨sn,e,q3'⟩ | ⟨tn,e,_⟩
    ·have e:= Sum.inl.inj e
     subst e
     exact gb bl1 hd (w64 ((i1 : Int) + 1),_) ⟨⟨i1 + 1,w64_succ hlt1 hle1,by omega,q3'⟩,mu_lt hlt1 hle1⟩ (by kernel_rfl)
    cases sum_lr e
   have hlt1 : ¬ i1 < a0.length:= by have:= of_decide_eq_false hc3; omega
   have e:= eachN_out q2 hlt1
   cases e
   exact gb bk1 hd _ rfl (by kernel_rfl)
  subst hy
  dsimp only at hm
  have e0:= sI0 hm
  subst e0
  exact gend hd (by kernel_rfl)
def m_slices_Equal_api_Promise_api_Promise_b1 (a0 : List g_api_Promise) (a1 : List g_api_Promise) (i1 : Int) (s1 : Unit) : Option ((Unit) ⊕ Bool) :=
 obind (idx a0 (i1 : Int)) fun x3 =>
 obind (idx a1 (i1 : Int)) fun x4 =>
 if (!eq_api_Promise x3 x4) = true then
  some (.inr false)
 else
 some (.inl ())
def m_slices_Equal_api_Promise_api_Promise (a0 : List g_api_Promise) (a1 : List g_api_Promise) : Option Bool :=
 if ((a0.length : Int) != (a1.length : Int)) = true then
  some false
 else
 obind (eachN (m_slices_Equal_api_Promise_api_Promise_b1 a0 a1) a0.length 0 ()) fun x1=> match x1 with
 | .inr r=> some r
 | .inl y1 =>
 some true
theorem w_slices_Equal_api_Promise_api_Promise {a0 : List g_api_Promise} {a1 : List g_api_Promise} {r : Bool} (hm : m_slices_Equal_api_Promise_api_Promise a0 a1 = some r) : Sf prog 44 [sl e_api_Promise a0,sl e_api_Promise a1] (.d (.t r)) :=
 sp call44 func44 rfl ntmps44 rfl fun D0 As η0 m0 hd=> by
  unfold m_slices_Equal_api_Promise_api_Promise at hm
  refine gi hm (by kernel_rfl) (fun hc1 hm=> ?_) fun hc1 hm=> ?_
  ·skip
   have e0:= sI0 hm
   subst e0
   exact gend hd (by kernel_rfl)
  obtain ⟨x1,q1,hm⟩:= oY0 hm
  refine glen 0 (E:= e_api_Promise) (xs:= a0) 11 (by kernel_rfl) fun hle1=> ?_
  refine gjU 0 (fun (y1 : Unit)=> ⟨[],[],[],0⟩) (fun y1=> x1 = .inl y1) (by kernel_rfl) (fun Jp bk1=> ?_) fun y1 hy=> ?_
  ·refine gl hd (fun (p : Int × (Unit))=> let (p0,_):= p; ⟨[(0,sl e_api_Promise a0),(1,sl e_api_Promise a1),(12,.d (.i (a0.length : Int))),(13,.d (.i p0))],[],[],0⟩) (fun p=> ∃ i : Nat,p.1 = (i : Int) ∧ i ≤ a0.length ∧ eachN (m_slices_Equal_api_Promise_api_Promise_b1 a0 a1) (a0.length - i) (i : Int) p.2 = some x1) (fun p=> a0.length - p.1.toNat) (0,()) ⟨0,rfl,Nat.zero_le _,q1⟩ (by kernel_rfl) ?_
   rintro ⟨_,s1⟩ ⟨i1,rfl,hi,q2⟩ Jl bl1
   refine gi' (b:= decide ((i1 : Int) < (a0.length : Int))) (by kernel_rfl) (fun hc3=> ?_) fun hc3=> ?_
   ·have hlt1 : i1 < a0.length:= by have:= of_decide_eq_true hc3; omega
    obtain ⟨y2,q4,q3⟩:= eachN_in q2 hlt1
    unfold m_slices_Equal_api_Promise_api_Promise_b1 at q4
    obtain ⟨x3,q6,q4⟩:= oY0 q4
    refine gidx (k:= 6) (E:= e_api_Promise) (fun _=> rfl) (fun _=> q6) (by kernel_rfl) ?_
    obtain ⟨x4,q7,q4⟩:= oY0 q4
    refine gidx (k:= 6) (E:= e_api_Promise) (fun _=> rfl) (fun _=> q7) (by kernel_rfl) ?_
    refine gi q4 (by kernel_rfl) (fun hc2 q4=> ?_) fun hc2 q4=> ?_
    ·skip
     cases q4
     rcases q3 with ⟨sn,e,_⟩ | ⟨tn,e,e2⟩
     ·cases e
     cases e
     cases e2
     dsimp only at hm
     have e0:= sI0 hm
     subst e0
     exact gend hd (by kernel_rfl)
    have e0:= sI0 q4
    subst e0
    rcases q3 with ⟨sn,e,q3'⟩ | ⟨tn,e,_⟩
    ·have e:= Sum.inl.inj e
     subst e
     exact gb bl1 hd (w64 ((i1 : Int) + 1),_) ⟨⟨i1 + 1,w64_succ hlt1 hle1,by omega,q3'⟩,mu_lt hlt1 hle1⟩ (by kernel_rfl)
    cases sum_lr e
   have hlt1 : ¬ i1 < a0.length:= by have:= of_decide_eq_false hc3; omega
   have e:= eachN_out q2 hlt1
   cases e
   exact gb bk1 hd _ rfl (by kernel_rfl)
  subst hy
  dsimp only at hm
  have e0:= sI0 hm
  subst e0
  exact gend hd (by kernel_rfl)
def m_cert_Same (a0 : g_api_Cert) (a1 : g_api_Cert) : Option Bool :=
 obind (gu ((((a0.Serial == a1.Serial) && (eqS a0.Issuer a1.Issuer)) && (eqS a0.Subject a1.Subject)) && ((a0.Key.toNat : Int) == (a1.Key.toNat : Int))) (m_slices_Equal_string_string a0.Names a1.Names)) fun x1 =>
 obind (gu (((((((((a0.Serial == a1.Serial) && (eqS a0.Issuer a1.Issuer)) && (eqS a0.Subject a1.Subject)) && ((a0.Key.toNat : Int) == (a1.Key.toNat : Int))) && x1) && (a0.From == a1.From)) && (a0.Until == a1.Until)) && (a0.Ca == a1.Ca)) && (a0.Depth == a1.Depth)) (m_slices_Equal_string_string a0.Permit a1.Permit)) fun x2 =>
 obind (gu ((((((((((a0.Serial == a1.Serial) && (eqS a0.Issuer a1.Issuer)) && (eqS a0.Subject a1.Subject)) && ((a0.Key.toNat : Int) == (a1.Key.toNat : Int))) && x1) && (a0.From == a1.From)) && (a0.Until == a1.Until)) && (a0.Ca == a1.Ca)) && (a0.Depth == a1.Depth)) && x2) (m_slices_Equal_api_Promise_api_Promise a0.Proms a1.Proms)) fun x3 =>
 bnd (((((((((((((a0.Serial == a1.Serial) && (eqS a0.Issuer a1.Issuer)) && (eqS a0.Subject a1.Subject)) && ((a0.Key.toNat : Int) == (a1.Key.toNat : Int))) && x1) && (a0.From == a1.From)) && (a0.Until == a1.Until)) && (a0.Ca == a1.Ca)) && (a0.Depth == a1.Depth)) && x2) && x3) && (eq_api_Sig a0.Sig a1.Sig))) fun x4 =>
 some x4
theorem w_cert_Same {a0 : g_api_Cert} {a1 : g_api_Cert} {r : Bool} (hm : m_cert_Same a0 a1 = some r) : Sf prog 16 [ag (e_api_Cert a0),ag (e_api_Cert a1)] (.d (.t r)) :=
 sp call16 func16 rfl ntmps16 rfl fun D0 As η0 m0 hd=> by
  unfold m_cert_Same at hm
  obtain ⟨x1,q1,hm⟩:= oY0 hm
  refine gcG (fun h=> w_slices_Equal_string_string (gu_t h q1)) (by kernel_rfl) ?_
  obtain ⟨x2,q2,hm⟩:= oY0 hm
  refine gcG (fun h=> w_slices_Equal_string_string (gu_t h q2)) (by kernel_rfl) ?_
  obtain ⟨x3,q3,hm⟩:= oY0 hm
  refine gcG (fun h=> w_slices_Equal_api_Promise_api_Promise (gu_t h q3)) (by kernel_rfl) ?_
  have hm:= bnd_is hm
  let x4 : Bool:= (((((((((((((a0.Serial == a1.Serial) && (eqS a0.Issuer a1.Issuer)) && (eqS a0.Subject a1.Subject)) && ((a0.Key.toNat : Int) == (a1.Key.toNat : Int))) && x1) && (a0.From == a1.From)) && (a0.Until == a1.Until)) && (a0.Ca == a1.Ca)) && (a0.Depth == a1.Depth)) && x2) && x3) && (eq_api_Sig a0.Sig a1.Sig)))
  have e0:= sI0 hm
  subst e0
  exact gend hd (by kernel_rfl)
def m_cert_bytes_47x (a0 : g_api_Cert) : Option ((List UInt8) × Int) :=
 obind (m_cert_Check a0) fun x1 =>
 if (x1 != 0) = true then
  some (([] : List UInt8),x1)
 else
 obind (m_cert_pre a0) fun x2 =>
 obind (m_der_Put x2) fun x3 =>
 some (x3.1,x3.2)
theorem w_cert_bytes_47x {a0 : g_api_Cert} {r : (List UInt8) × Int} (hm : m_cert_bytes_47x a0 = some r) : Sp prog 46 [ag (e_api_Cert a0),.fn (.func 47) [] []] [] 0 (is (.tup [.ow 0,.d (.i r.2)]) [.row 0 1 _ eB r.1] 1) :=
 sp call46 func46 rfl ntmps46 rfl fun D0 As η0 m0 hd=> by
  unfold m_cert_bytes_47x at hm
  obtain ⟨x1,q1,hm⟩:= oY0 hm
  refine gc (fun _=> w_cert_Check q1) (by kernel_rfl) ?_
  refine gi hm (by kernel_rfl) (fun hc1 hm=> ?_) fun hc1 hm=> ?_
  ·skip
   refine gnil eB 4 1 (by kernel_rfl) ?_
   have e0:= sI0 hm
   subst e0
   exact gend hd (by kernel_rfl)
  obtain ⟨x2,q2,hm⟩:= oY0 hm
  refine gc (fun _=> w_cert_pre q2) (by kernel_rfl) ?_
  obtain ⟨x3,q3,hm⟩:= oY0 hm
  refine gco (w_der_Put q3) (by kernel_rfl) ?_
  have e0:= sI0 hm
  subst e0
  exact gend hd (by kernel_rfl)
def m_cert_Pre (a0 : g_api_Cert) : Option ((List UInt8) × Int) :=
 obind (m_cert_bytes_47x a0) fun x1 =>
 some (x1.1,x1.2)
theorem w_cert_Pre {a0 : g_api_Cert} {r : (List UInt8) × Int} (hm : m_cert_Pre a0 = some r) : Sp prog 18 [ag (e_api_Cert a0)] [] 0 (is (.tup [.ow 0,.d (.i r.2)]) [.row 0 1 _ eB r.1] 1) :=
 sp call18 func18 rfl ntmps18 rfl fun D0 As η0 m0 hd=> by
  unfold m_cert_Pre at hm
  obtain ⟨x1,q1,hm⟩:= oY0 hm
  refine gco (w_cert_bytes_47x q1) (by kernel_rfl) ?_
  have e0:= sI0 hm
  subst e0
  exact gend hd (by kernel_rfl)
theorem d_cert_Pre {a0 : g_api_Cert} {r : (List UInt8) × Int} (hm : m_cert_Pre a0 = some r) : Sf prog 18 [ag (e_api_Cert a0)] (.tup [sl eB r.1,.d (.i r.2)]):= Sp.fz (w_cert_Pre hm) (by kernel_rfl)
def m_cert_bytes_50x (a0 : g_api_Cert) : Option ((List UInt8) × Int) :=
 obind (m_cert_Check a0) fun x1 =>
 if (x1 != 0) = true then
  some (([] : List UInt8),x1)
 else
 obind (m_cert_body a0) fun x2 =>
 obind (m_der_Put x2) fun x3 =>
 some (x3.1,x3.2)
theorem w_cert_bytes_50x {a0 : g_api_Cert} {r : (List UInt8) × Int} (hm : m_cert_bytes_50x a0 = some r) : Sp prog 46 [ag (e_api_Cert a0),.fn (.func 50) [] []] [] 0 (is (.tup [.ow 0,.d (.i r.2)]) [.row 0 1 _ eB r.1] 1) :=
 sp call46 func46 rfl ntmps46 rfl fun D0 As η0 m0 hd=> by
  unfold m_cert_bytes_50x at hm
  obtain ⟨x1,q1,hm⟩:= oY0 hm
  refine gc (fun _=> w_cert_Check q1) (by kernel_rfl) ?_
  refine gi hm (by kernel_rfl) (fun hc1 hm=> ?_) fun hc1 hm=> ?_
  ·skip
   refine gnil eB 4 1 (by kernel_rfl) ?_
   have e0:= sI0 hm
   subst e0
   exact gend hd (by kernel_rfl)
  obtain ⟨x2,q2,hm⟩:= oY0 hm
  refine gc (fun _=> w_cert_body q2) (by kernel_rfl) ?_
  obtain ⟨x3,q3,hm⟩:= oY0 hm
  refine gco (w_der_Put q3) (by kernel_rfl) ?_
  have e0:= sI0 hm
  subst e0
  exact gend hd (by kernel_rfl)
def m_cert_Body (a0 : g_api_Cert) : Option ((List UInt8) × Int) :=
 obind (m_cert_bytes_50x a0) fun x1 =>
 some (x1.1,x1.2)
theorem w_cert_Body {a0 : g_api_Cert} {r : (List UInt8) × Int} (hm : m_cert_Body a0 = some r) : Sp prog 20 [ag (e_api_Cert a0)] [] 0 (is (.tup [.ow 0,.d (.i r.2)]) [.row 0 1 _ eB r.1] 1) :=
 sp call20 func20 rfl ntmps20 rfl fun D0 As η0 m0 hd=> by
  unfold m_cert_Body at hm
  obtain ⟨x1,q1,hm⟩:= oY0 hm
  refine gco (w_cert_bytes_50x q1) (by kernel_rfl) ?_
  have e0:= sI0 hm
  subst e0
  exact gend hd (by kernel_rfl)
theorem d_cert_Body {a0 : g_api_Cert} {r : (List UInt8) × Int} (hm : m_cert_Body a0 = some r) : Sf prog 20 [ag (e_api_Cert a0)] (.tup [sl eB r.1,.d (.i r.2)]):= Sp.fz (w_cert_Body hm) (by kernel_rfl)
def m_cert_bytes_39x (a0 : g_api_Cert) : Option ((List UInt8) × Int) :=
 obind (m_cert_Check a0) fun x1 =>
 if (x1 != 0) = true then
  some (([] : List UInt8),x1)
 else
 obind (m_cert_whole a0) fun x2 =>
 obind (m_der_Put x2) fun x3 =>
 some (x3.1,x3.2)
theorem w_cert_bytes_39x {a0 : g_api_Cert} {r : (List UInt8) × Int} (hm : m_cert_bytes_39x a0 = some r) : Sp prog 46 [ag (e_api_Cert a0),.fn (.func 39) [] []] [] 0 (is (.tup [.ow 0,.d (.i r.2)]) [.row 0 1 _ eB r.1] 1) :=
 sp call46 func46 rfl ntmps46 rfl fun D0 As η0 m0 hd=> by
  unfold m_cert_bytes_39x at hm
  obtain ⟨x1,q1,hm⟩:= oY0 hm
  refine gc (fun _=> w_cert_Check q1) (by kernel_rfl) ?_
  refine gi hm (by kernel_rfl) (fun hc1 hm=> ?_) fun hc1 hm=> ?_
  ·skip
   refine gnil eB 4 1 (by kernel_rfl) ?_
   have e0:= sI0 hm
   subst e0
   exact gend hd (by kernel_rfl)
  obtain ⟨x2,q2,hm⟩:= oY0 hm
  refine gc (fun _=> w_cert_whole q2) (by kernel_rfl) ?_
  obtain ⟨x3,q3,hm⟩:= oY0 hm
  refine gco (w_der_Put q3) (by kernel_rfl) ?_
  have e0:= sI0 hm
  subst e0
  exact gend hd (by kernel_rfl)
def m_cert_Put (a0 : g_api_Cert) : Option ((List UInt8) × Int) :=
 obind (m_cert_bytes_39x a0) fun x1 =>
 some (x1.1,x1.2)
theorem w_cert_Put {a0 : g_api_Cert} {r : (List UInt8) × Int} (hm : m_cert_Put a0 = some r) : Sp prog 22 [ag (e_api_Cert a0)] [] 0 (is (.tup [.ow 0,.d (.i r.2)]) [.row 0 1 _ eB r.1] 1) :=
 sp call22 func22 rfl ntmps22 rfl fun D0 As η0 m0 hd=> by
  unfold m_cert_Put at hm
  obtain ⟨x1,q1,hm⟩:= oY0 hm
  refine gco (w_cert_bytes_39x q1) (by kernel_rfl) ?_
  have e0:= sI0 hm
  subst e0
  exact gend hd (by kernel_rfl)
theorem d_cert_Put {a0 : g_api_Cert} {r : (List UInt8) × Int} (hm : m_cert_Put a0 = some r) : Sf prog 22 [ag (e_api_Cert a0)] (.tup [sl eB r.1,.d (.i r.2)]):= Sp.fz (w_cert_Put hm) (by kernel_rfl)
def m_hash_put_b1 (a1 : UInt64) (s1 : (List UInt8) × Int) : Option (((List UInt8) × Int) ⊕ ((List UInt8))) :=
 if (decide (s1.2 ≥ 0)) = true then
  if (0 : Int) ≤ (w64 (8 * s1.2)) then
   obind (app 1 s1.1 ([(toB ((shrU a1 ((w64 (8 * s1.2)).toNat)).toNat : Int))] : List UInt8)) fun x4 =>
   some (.inl (x4,(w64 (s1.2 - 1))))
  else none
 else
 some (.inr s1.1)
def m_hash_put (a0 : List UInt8) (a1 : UInt64) (a2 : Int) : Option (List UInt8) :=
 obind (
  obind (iter (m_hash_put_b1 a1) FUEL (a0,(w64 (a2 - 1)))) fun x2 =>
  some x2
 ) fun x1 =>
 some x1
theorem w_hash_put {a0 : List UInt8} {a1 : UInt64} {a2 : Int} {r : List UInt8} (hm : m_hash_put a0 a1 a2 = some r) : Sp prog 109 [.ow 0,.d (.u a1),.d (.i a2)] [.row 0 1 _ eB a0] 1 (is (.ow 1) [.row 1 1 _ eB r] 2) :=
 sp call109 func109 rfl ntmps109 rfl fun D0 As η0 m0 hd=> by
  unfold m_hash_put at hm
  obtain ⟨x1,q1,hm⟩:= oY0 hm
  obtain ⟨x2,q2,q1⟩:= oY0 q1
  refine gjU 0 (fun (_ : Unit)=> ⟨[(0,.ow 1)],[(0,.row 1 1 _ eB x1)],[],2⟩) (fun _=> True) (by kernel_rfl) (fun Jp bk1=> ?_) fun _ _=> ?_
  ·refine gjU 0 (fun (_ : Unit)=> ⟨[(0,.ow 1)],[(0,.row 1 1 _ eB x2)],[],2⟩) (fun _=> True) (by kernel_rfl) (fun Jp bk2=> ?_) fun _ _=> ?_
   ·refine gl hd (fun (p : Nat × ((List UInt8) × Int))=> let (p0,p_0,p_1):= p; ⟨[(0,.ow 1),(1,.d (.u a1)),(2,.d (.i p_1))],[(0,.row 1 1 _ eB p_0)],[],2⟩) (fun p=> iter (m_hash_put_b1 a1) p.1 p.2 = some x2) (fun p=> p.1) (FUEL,(a0,(w64 (a2 - 1)))) q2 (by kernel_rfl) ?_
    rintro ⟨n1,s1⟩ q3 Jl bl1
    cases n1 with
    | zero=> exact (iter_zero q3).elim
    | succ n1 =>
     obtain ⟨y1,q5,q4⟩:= iter_succ q3
     unfold m_hash_put_b1 at q5
     refine gi q5 (by kernel_rfl) (fun hc1 q5=> ?_) fun hc1 q5=> ?_
     ·skip
      obtain ⟨q7,q5⟩:= if_some q5
      refine gsh (r:= .u (shrU a1 ((w64 (8 * s1.2)).toNat))) (fun h=> q7) (by kernel_rfl) ?_
      refine glitF (k:= 1) eB ([(toB ((shrU a1 ((w64 (8 * s1.2)).toNat)).toNat : Int))] : List UInt8) (fun _=> rfl) (by kernel_rfl) ?_
      obtain ⟨x4,q8,q5⟩:= oY0 q5
      refine gapp (k:= 1) (E:= eB) (fun _=> rfl) q8 (by kernel_rfl) ?_
      have e0:= sI0 q5
      subst e0
      rcases q4 with ⟨sn,e,q4'⟩ | e
      ·have e:= Sum.inl.inj e
       subst e
       exact gb bl1 hd (n1,_) ⟨q4',Nat.lt_succ_self _⟩ (by kernel_rfl)
      cases sum_lr e
     have e0:= sI0 q5
     subst e0
     rcases q4 with ⟨sn,e,_⟩ | e
     ·cases sum_rl e
     have e:= Sum.inr.inj e
     subst e
     exact gb bk2 hd () trivial (by kernel_rfl)
   have e0:= sI0 q1
   subst e0
   exact gb bk1 hd () trivial (by kernel_rfl)
  have e0:= sI0 hm
  subst e0
  exact gend hd (by kernel_rfl)
def m_slices_Chunk_byte_byte_1_b1 {σ : Type} (p0 : σ → (List UInt8) → Option (Bool × σ)) (k0 : List UInt8) (k1 : Int) (s1 : Int × σ) : Option ((Int × σ) ⊕ ((σ) ⊕ ((List UInt8) × Int × σ))) :=
 if (decide (s1.1 < (k0.length : Int))) = true then
  obind (cut k0 s1.1 (k0.length : Int)) fun x3 =>
  obind (cut k0 s1.1 (w64 (s1.1 + (minI k1 (x3.length : Int))))) fun x4 =>
  obind (p0 s1.2 x4) fun x5 =>
  if (!x5.1) = true then
   some (.inr (.inr (k0,k1,x5.2)))
  else
  some (.inl ((w64 (s1.1 + k1)),x5.2))
 else
 some (.inr (.inl s1.2))
def m_slices_Chunk_byte_byte_1 {σ : Type} (p0 : σ → (List UInt8) → Option (Bool × σ)) (k0 : List UInt8) (k1 : Int) (s0 : σ) : Option ((List UInt8) × Int × σ) :=
 obind (iter (m_slices_Chunk_byte_byte_1_b1 p0 k0 k1) FUEL (0,s0)) fun x1=> match x1 with
 | .inr r=> some r
 | .inl y1 =>
 some (k0,k1,y1)
theorem w_slices_Chunk_byte_byte_1 {m : Mem} {As : List Ow} {w : World} {σ : Type} {R : σ → Mem → List Ow → Prop} {p0 : σ → (List UInt8) → Option (Bool × σ)} {f0 : Value} {kb0 : Nat} {k0 : List UInt8} {k0v0 : Value} {kb1 : Nat} {k1 : Int} {s0 : σ} {X0 : List Ow} {r : (List UInt8) × Int × σ} (S : St m ((bx kb0 [k0v0] 34) :: (bx kb1 [vI k1] 3) :: (X0 ++ As)) w) (hup : ∀ {s M M' X},M ≤ M' → R s M X → R s M' X) (hX0 : R s0 m X0) (cb0 : ∀ {m' : Mem} {As' : List Ow} {w' : World} {s : σ} {X : List Ow} {b0 : List UInt8} {b0v0 : Value} {r : Bool × σ},St m' (X ++ As') w' → R s m' X → SlR m' b0v0 b0 → p0 s b0 = some r → CallV Tryz.prog f0 [b0v0] w' fun v w''=> ∃ (M : Mem) (X' : List Ow),m' ≤ M ∧ St M (X' ++ As') w'' ∧ R r.2 M X' ∧ v = vb r.1) (fc0 : f0.cells = #[f0]) (k0h0 : SlR m k0v0 k0) (hm : m_slices_Chunk_byte_byte_1 p0 k0 k1 s0 = some r) :
  CallsR Tryz.prog 189 #[f0,pt kb0 0,pt kb1 0] w fun v w'=> ∃ (M : Mem),m ≤ M ∧ ∃ (rb0_0 : Value) (X : List Ow),St M ((bx kb0 [rb0_0] 34) :: (bx kb1 [vI r.2.1] 3) :: (X ++ As)) w' ∧ v = .tuple #[] ∧ SlR M rb0_0 r.1 ∧ R r.2.2 M X:= by
 unfold m_slices_Chunk_byte_byte_1 at hm
 have L0:= Mem.rfl' m
 refine callsR (args:= [f0,pt kb0 0,pt kb1 0]) Tryz.func189 rfl Tryz.ntmps189 (Nat.le_of_ble_eq_true rfl) ?_
 refine wpc_seq ?_
 refine wpc_region ?_
 refine s_asv (v:= vI 0) rfl ?_
 refine wpl_nil ?_
 refine nrm ?_
 obtain ⟨x1,q1,hm⟩:= oY0 hm
 have L1:= Mem.rfl' m
 refine wpc_wrap ?_
 refine wpc_join [4,5,6,7,8,9,10,11,12,13,14,15,16,17,18,19,20,21,22,23,24,25,26,27,28,29,30] (fun f' w'=> ∃ (M1 : Mem) (y1 : σ) (X2 : List Ow),x1 = .inl y1 ∧ m ≤ M1 ∧ St M1 ((bx kb0 [k0v0] 34) :: (bx kb1 [vI k1] 3) :: (X2 ++ As)) w' ∧ R y1 M1 X2 ∧ AllAt f' []) ?_ ?_
 ·refine wpc_block ?_
  refine wpc_rounds [4,5,6,7,8,9,10,11,12,13,14,15,16,17,18,19,20,21,22,23,24,25,26,27,28,29,30] (fun n1 f' w'=> ∃ (s1 : Int × σ) (m9 : Mem) (X1 : List Ow),iter (m_slices_Chunk_byte_byte_1_b1 p0 k0 k1) n1 s1 = some x1 ∧ m ≤ m9 ∧ St m9 ((bx kb0 [k0v0] 34) :: (bx kb1 [vI k1] 3) :: (X1 ++ As)) w' ∧ R s1.2 m9 X1 ∧ AllAt f' [(4,vI s1.1)]) FUEL ⟨(0,s0),m,_,q1,L1,S,hX0,⟨rfl,trivial⟩⟩ ?_
  rintro n1 f1 w1 ho ⟨s1,m1,X1,q2,L3,S1,h1,ha⟩
  obtain ⟨u1,rfl⟩:= fr_of (N:= 31) ho ha
  clear ho ha
  replace k0h0:= k0h0.up L3
  have L2:= Mem.rfl' m1
  clear S
  cases n1 with
  | zero=> exact (iter_zero q2).elim
  | succ n1 =>
   obtain ⟨y2,q4,q3⟩:= iter_succ q2
   unfold m_slices_Chunk_byte_byte_1_b1 at q4
   refine wpc_seq ?_
   refine wpc_seq ?_
   refine wpc_region ?_
   refine s_mvv (v:= vI s1.1) rfl ?_
   refine s_ld (i:= 0) (cs:= [k0v0]) S1 rfl rfl Tryz.isAgg34 Tryz.sizeOf34 rfl (fun _=> rfl) ?_
   refine s_lenR (xs:= k0) rfl k0h0 Tryz.underlying34 ?_
   refine s_lss (m:= s1.1) (n:= (k0.length : Int)) rfl rfl ?_
   refine wpl_nil ?_
   refine nrm ?_
   refine wpc_if (t:= (decide (s1.1 < (k0.length : Int)))) rfl (fun hc1=> ?_) (fun hc1=> ?_)
   ·replace q4:= ifT hc1 q4
    refine wpc_skip ?_
    refine nrm ?_
    refine wpc_seq ?_
    refine wpc_block ?_
    refine wpc_seq ?_
    obtain ⟨x3,q6,q4⟩:= oY0 q4
    have HM : MonoAll [(13,fv (vI k1)),(14,fv k0v0),(15,fv (vI s1.1)),(16,fun (M : Mem) (v : Value)=> ∃ (v1 : Value),v = v1 ∧ SlR M v1 x3),(17,fv (vI (x3.length : Int)))]:= ⟨mv,mv,mv,(fun _ _ _ l ⟨v1,e,h3⟩=> ⟨v1,e,h3.up l⟩),mv,trivial⟩
    refine wpc_flowG HM 5 mixed rfl rfl rfl [13,14,15,16,17] (fun L f M w=> St M ((bx kb0 [k0v0] 34) :: (bx kb1 [vI k1] 3) :: (X1 ++ As)) w) (St.drew S1 _) ?_ ?_
    ·refine ⟨?_,?_,?_,?_,?_,trivial⟩
     ·exact flp HM rfl [] (fun _ _=> trivial) (fun _ S2 q=> s_ld (i:= 1) (cs:= [vI k1]) S2 rfl rfl Tryz.isAgg3 Tryz.sizeOf3 rfl (fun _=> rfl) q) rfl
     ·exact flp HM rfl [] (fun _ _=> trivial) (fun _ S3 q=> s_ld (i:= 0) (cs:= [k0v0]) S3 rfl rfl Tryz.isAgg34 Tryz.sizeOf34 rfl (fun _=> rfl) q) rfl
     ·exact flp HM rfl [] (fun _ _=> trivial) (fun _ _ q=> s_mvv (v:= vI s1.1) rfl q) rfl
     ·intro L f5 w5 hL hd hc ⟨m5,L10,S5,K,hO⟩
      have d1 : L 1 = true:= dep hd rfl
      have e1:= K 1 d1
      have d2 : L 2 = true:= dep hd rfl
      have e2:= K 2 d2
      obtain ⟨u5,rfl⟩:= fr_of (N:= 31) (L:= [(14,k0v0),(15,vI s1.1)]) hO ⟨e1,e2,trivial⟩
      replace S5 : St _ ((bx kb0 [k0v0] 34) :: (bx kb1 [vI k1] 3) :: (X1 ++ As)) _:= S5
      replace k0h0:= k0h0.up L10
      replace h1:= hup L10 h1
      have L11:= Mem.rfl' m5
      refine s_cut (ys:= x3) (l:= s1.1) (h:= (k0.length : Int)) rfl k0h0 Tryz.underlying34 Tryz.sizeOf5 (.inr ⟨_,rfl⟩) (.inl ⟨rfl,rfl⟩) (.inl rfl) q6 ?_
      intro v1 h3
      refine wpn ?_
      refine ⟨m5,Mem.tr L10 L11,?_,facts_step HM rfl K L11 rfl rfl ⟨v1,rfl,h3⟩,outP⟩
      exact S5
     ·intro L f6 w6 hL hd hc ⟨m6,L12,S6,K,hO⟩
      have d3 : L 3 = true:= dep hd rfl
      obtain ⟨v2,e3,h4⟩:= K 3 d3
      obtain ⟨u6,rfl⟩:= fr_of (N:= 31) (L:= [(16,v2)]) hO ⟨e3,trivial⟩
      replace S6 : St _ ((bx kb0 [k0v0] 34) :: (bx kb1 [vI k1] 3) :: (X1 ++ As)) _:= S6
      replace k0h0:= k0h0.up L12
      replace h1:= hup L12 h1
      have L13:= Mem.rfl' m6
      refine s_lenR (xs:= x3) rfl h4 Tryz.underlying34 ?_
      refine wpn ?_
      refine ⟨m6,Mem.tr L12 L13,?_,facts_step HM rfl K L13 rfl rfl rfl,outP⟩
      exact S6
    intro L f7 w7 hall ⟨m7,L14,S7,K,hO⟩
    have d0 : L 0 = true:= hall 0 (by decide)
    have e4:= K 0 d0
    have d4 : L 4 = true:= hall 4 (by decide)
    have e5:= K 4 d4
    obtain ⟨u7,rfl⟩:= fr_of (N:= 31) (L:= [(13,vI k1),(17,vI (x3.length : Int))]) hO ⟨e4,e5,trivial⟩
    replace S7 : St _ ((bx kb0 [k0v0] 34) :: (bx kb1 [vI k1] 3) :: (X1 ++ As)) _:= S7
    replace k0h0:= k0h0.up L14
    replace h1:= hup L14 h1
    replace L2:= Mem.tr L2 L14
    clear S1
    refine s_minI rfl rfl ?_
    refine s_asv (v:= vI (minI k1 (x3.length : Int))) rfl ?_
    refine wpl_nil ?_
    refine nrm ?_
    refine wpc_seq ?_
    refine wpc_region ?_
    refine s_mvv (v:= f0) rfl ?_
    refine s_ld (i:= 0) (cs:= [k0v0]) S7 rfl rfl Tryz.isAgg34 Tryz.sizeOf34 rfl (fun _=> rfl) ?_
    refine s_mvv (v:= vI s1.1) rfl ?_
    refine s_mvv (v:= vI s1.1) rfl ?_
    refine s_mvv (v:= vI (minI k1 (x3.length : Int))) rfl ?_
    refine s_addI (m:= s1.1) (n:= (minI k1 (x3.length : Int))) rfl rfl ?_
    refine s_mvv (v:= vI s1.1) rfl ?_
    refine s_mvv (v:= vI (minI k1 (x3.length : Int))) rfl ?_
    refine s_addI (m:= s1.1) (n:= (minI k1 (x3.length : Int))) rfl rfl ?_
    obtain ⟨x4,q7,q4⟩:= oY0 q4
    refine s_cut (ys:= x4) (l:= s1.1) (h:= (w64 (s1.1 + (minI k1 (x3.length : Int))))) rfl k0h0 Tryz.underlying34 Tryz.sizeOf5 (.inr ⟨_,rfl⟩) (.inr ⟨_,rfl⟩) (.inr ⟨(fun h=> by cases h),_,rfl⟩) q7 ?_
    intro v3 h5
    obtain ⟨x5,q8,q4⟩:= oY0 q4
    have S8:= St.absF (L:= [bx kb0 [k0v0] 34,bx kb1 [vI k1] 3]) (X:= X1) (As:= As) S7
    refine s_callV rfl (cb0 S8 h1 h5 q8) rfl ?_
    rintro _ w8 ⟨m8,X3,l1,S9,h6,rfl⟩
    replace S9:= St.absF (L:= X3) (X:= [bx kb0 [k0v0] 34,bx kb1 [vI k1] 3]) (As:= As) S9
    clear S8
    replace h5:= h5.up l1
    replace k0h0:= k0h0.up l1
    replace L2:= Mem.tr L2 l1
    replace S9 : St _ ((bx kb0 [k0v0] 34) :: (bx kb1 [vI k1] 3) :: (X3 ++ As)) _:= S9
    clear S7
    refine s_not rfl ?_
    refine wpl_nil ?_
    refine nrm ?_
    refine wpc_if (t:= (!x5.1)) rfl (fun hc2=> ?_) (fun hc2=> ?_)
    ·replace q4:= ifT hc2 q4
     refine wpc_ret ?_
     refine blR ?_
     refine thR ?_
     refine thR ?_
     refine blR ?_
     refine thR ?_
     refine outRw ?_
     intro we hpd
     replace S9:= St.pd S9 hpd
     cases q4
     rcases q3 with ⟨sn,e,_⟩ | e
     ·cases e
     cases e
     dsimp only at hm
     have e0:= sI0 hm
     subst e0
     exact outR [] rfl trivial ⟨_,(Mem.tr L0 (Mem.tr L3 L2)),_,_,S9,rfl,k0h0,h6⟩
    replace q4:= ifF hc2 q4
    refine wpc_skip ?_
    refine nrmB ?_
    refine nrm ?_
    refine wpc_region ?_
    refine s_mvv (v:= vI s1.1) rfl ?_
    refine s_ld (i:= 1) (cs:= [vI k1]) S9 rfl rfl Tryz.isAgg3 Tryz.sizeOf3 rfl (fun _=> rfl) ?_
    refine s_addI (m:= s1.1) (n:= k1) rfl rfl ?_
    refine s_asv (v:= vI (w64 (s1.1 + k1))) rfl ?_
    refine wpl_nil ?_
    refine nrm ?_
    have e0:= sI0 q4
    subst e0
    rcases q3 with ⟨sn,e,q3'⟩ | e
    ·cases e
     exact ⟨outP,_,Nat.lt_succ_self _,⟨_,m8,_,q3',Mem.tr L3 L2,S9,h6,⟨rfl,trivial⟩⟩⟩
    ·cases e
   replace q4:= ifF hc1 q4
   refine wpc_exit ?_
   refine thE ?_
   refine thE ?_
   refine exB ?_
   refine nrm ?_
   have e0:= sI0 q4
   subst e0
   rcases q3 with ⟨sn,e,_⟩ | e
   ·cases e
   ·cases e
    exact ⟨outP,m1,_,_,rfl,Mem.tr L3 L2,S1,h1,trivial⟩
 rintro f8 w9 ho ⟨m10,y1,X2,rfl,l2,S10,h2,ha⟩
 obtain ⟨u8,rfl⟩:= fr_of (N:= 31) ho ha
 clear ho ha
 dsimp only at hm
 replace k0h0:= k0h0.up l2
 replace L0:= Mem.tr L0 l2
 clear S
 refine outNw ?_
 intro we hpd
 replace S10:= St.pd S10 hpd
 have e0:= sI0 hm
 subst e0
 exact outR [] rfl trivial ⟨_,L0,_,_,S10,rfl,k0h0,h2⟩
def m_slices_Chunk_byte_byte (a0 : List UInt8) (a1 : Int) : Option ((List UInt8) × Int) :=
 obind (
  if (decide (a1 < 1)) = true then
   none
  else
  some ()
 ) fun x1 =>
 some (a0,a1)
theorem w_slices_Chunk_byte_byte {m : Mem} {As : List Ow} {w : World} {a0 : List UInt8} {a0v0 : Value} {a1 : Int} {r : (List UInt8) × Int} (S : St m (As) w) (a0h0 : SlR m a0v0 a0) (hm : m_slices_Chunk_byte_byte a0 a1 = some r) :
  CallsR Tryz.prog 176 #[a0v0,vI a1] w fun v w'=> ∃ (M : Mem),m ≤ M ∧ ∃ (rk0_0 : Nat) (rc0_0_0 : Value) (rk0_1 : Nat),St M ((bx rk0_0 [rc0_0_0] 34) :: (bx rk0_1 [vI r.2] 3) :: As) w' ∧ v = .func (.func 189) #[] #[pt rk0_0 0,pt rk0_1 0] ∧ SlR M rc0_0_0 r.1:= by
 unfold m_slices_Chunk_byte_byte at hm
 have L0:= Mem.rfl' m
 refine callsR (args:= [a0v0,vI a1]) Tryz.func176 rfl Tryz.ntmps176 (Nat.le_of_ble_eq_true rfl) ?_
 refine wpc_seq ?_
 refine wpc_region ?_
 refine s_boxS S rfl (SlR.cells a0h0) ?_
 intro b1 w1 S1
 replace S1 : St _ ((bx b1 [a0v0] 34) :: As) _:= S1
 clear S
 refine s_box S1 rfl ?_
 intro b2 w2 S2
 replace S2 : St _ ((bx b2 [vI a1] 3) :: (bx b1 [a0v0] 34) :: As) _:= S2
 clear S1
 refine s_asv (v:= .nilFunc) rfl ?_
 refine wpl_nil ?_
 refine nrm ?_
 obtain ⟨x1,q1,hm⟩:= oY0 hm
 have L1:= Mem.rfl' m
 refine wpc_seq ?_
 refine wpc_join [5,6,7] (fun f' w'=> ∃ (M1 : Mem),m ≤ M1 ∧ St M1 ((bx b2 [vI a1] 3) :: (bx b1 [a0v0] 34) :: As) w' ∧ AllAt f' []) ?_ ?_
 ·refine wpc_seq ?_
  refine wpc_region ?_
  refine s_ld (i:= 0) (cs:= [vI a1]) S2 rfl rfl Tryz.isAgg3 Tryz.sizeOf3 rfl (fun _=> rfl) ?_
  refine s_lss (m:= a1) (n:= 1) rfl rfl ?_
  refine wpl_nil ?_
  refine nrm ?_
  refine wpc_if (t:= (decide (a1 < 1))) rfl (fun hc1=> ?_) (fun hc1=> ?_)
  ·replace q1:= ifT hc1 q1
   cases q1
  replace q1:= ifF hc1 q1
  refine wpc_skip ?_
  refine nrm ?_
  have e0:= sI0 q1
  subst e0
  exact ⟨outP,m,L1,S2,trivial⟩
 rintro f1 w3 ho ⟨m1,l1,S3,ha⟩
 obtain ⟨u1,rfl⟩:= fr_of (N:= 9) ho ha
 replace a0h0:= a0h0.up l1
 replace L0:= Mem.tr L0 l1
 clear S2
 refine wpc_seq ?_
 refine wpc_region ?_
 refine s_funcC (caps:= [pt b1 0,pt b2 0]) rfl ?_
 refine s_asv (v:= .func (.func 189) #[] #[pt b1 0,pt b2 0]) rfl ?_
 refine wpl_nil ?_
 refine nrm ?_
 refine wpc_ret ?_
 refine outRw ?_
 intro we hpd
 replace S3:= St.pd S3 hpd
 have S4 : St _ ((bx b1 [a0v0] 34) :: (bx b2 [vI a1] 3) :: As) _:= St.perm S3 (List.Perm.swap _ _ _)
 have e0:= sI0 hm
 subst e0
 exact outR [_] rfl ⟨rfl,trivial⟩ ⟨_,L0,_,_,_,S4,rfl,a0h0⟩
def m_field_Of_b6 (b5 : List UInt8) (i1 : Int) (s2 : UInt64) : Option (UInt64) :=
 obind (idx b5 (i1 : Int)) fun x6 =>
 if (0 : Int) ≤ (w64 (8 * (i1 : Int))) then
  bnd ((s2 ||| (shlU (toU (x6.toNat : Int)) ((w64 (8 * (i1 : Int))).toNat)))) fun x7 =>
  some x7
 else none
def m_field_Of_b4 (b5 : List UInt8) (s1 : (List UInt64)) : Option ((List UInt64)) :=
 obind (
  obind (eachN0 (m_field_Of_b6 b5) b5.length 0 0) fun x4 =>
  some x4
 ) fun x3 =>
 obind (app 8 s1 ([x3] : List UInt64)) fun x8 =>
 some x8
def m_field_Of (a0 : List UInt8) : Option (List UInt64) :=
 obind (m_slices_Chunk_byte_byte a0 7) fun x1 =>
 obind (m_slices_Chunk_byte_byte_1 (fun (s : (List UInt64)) (b0 : List UInt8)=> obind (m_field_Of_b4 b0 s) fun y=> some (true,y)) x1.1 x1.2 ([] : List UInt64)) fun x2 =>
 some x2.2.2
theorem w_field_Of {m : Mem} {As : List Ow} {w : World} {a0 : List UInt8} {a0v0 : Value} {r : List UInt64} (S : St m (As) w) (a0h0 : SlR m a0v0 a0) (hm : m_field_Of a0 = some r) :
  CallsR Tryz.prog 149 #[a0v0] w fun v w'=> ∃ (M : Mem),m ≤ M ∧ ∃ (rv0 : Value) (rc0 : List Value),St M ((row 1 rv0 rc0 r.length) :: As) w' ∧ v = rv0 ∧ RepL M rc0 r:= by
 unfold m_field_Of at hm
 have L0:= Mem.rfl' m
 refine callsR (args:= [a0v0]) Tryz.func149 rfl Tryz.ntmps149 (Nat.le_of_ble_eq_true rfl) ?_
 refine wpc_seq ?_
 refine wpc_region ?_
 refine s_asv (v:= .slice none 0 0) rfl ?_
 refine wpl_nil ?_
 refine nrm ?_
 refine wpc_seq ?_
 refine wpc_region ?_
 refine s_alloc S Tryz.zeroValue112 ?_
 intro b1 w1 S1
 replace S1 : St _ ((bx b1 [.slice none 0 0] 112) :: As) _:= S1
 clear S
 refine wpl_nil ?_
 refine nrm ?_
 refine wpc_seq ?_
 refine wpc_seq ?_
 refine wpc_region ?_
 refine s_mvv (v:= a0v0) rfl ?_
 obtain ⟨x1,q1,hm⟩:= oY0 hm
 refine s_call Tryz.call176 (w_slices_Chunk_byte_byte (a0:= a0) (a1:= 7) S1 a0h0 q1) rfl ?_
 rintro _ w2 ⟨m1,l1,b2,v1,b3,S2,rfl,h1⟩
 replace a0h0:= a0h0.up l1
 replace L0:= Mem.tr L0 l1
 clear S1
 replace S2 : St _ ((bx b2 [v1] 34) :: (bx b3 [vI x1.2] 3) :: (bx b1 [.slice none 0 0] 112) :: As) _:= S2
 refine wpl_nil ?_
 refine nrm ?_
 refine wpc_block ?_
 obtain ⟨x2,q2,hm⟩:= oY0 hm
 refine wpc_rangeFunc S2 rfl Tryz.call189 ?_
 intro lp1 rip2 w3 h2 S3
 replace S3 : St _ ((Lp lp1 rip2 .ready none) :: (bx b2 [v1] 34) :: (bx b3 [vI x1.2] 3) :: (bx b1 [.slice none 0 0] 112) :: As) _:= S3
 clear S2
 have S4:= St.rowNil S3 1
 have h4 : RepL m1 [] ([] : List UInt64):= RepL.nil
 replace S4 : St _ ((row 1 (.slice none 0 0) [] ([] : List UInt64).length) :: (Lp lp1 rip2 .ready none) :: (bx b2 [v1] 34) :: (bx b3 [vI x1.2] 3) :: (bx b1 [.slice none 0 0] 112) :: As) _:= S4
 clear S3
 have S5 : St _ ((bx b2 [v1] 34) :: (bx b3 [vI x1.2] 3) :: (Lp lp1 rip2 .ready none) :: (row 1 (.slice none 0 0) [] ([] : List UInt64).length) :: (bx b1 [(.slice none 0 0)] 112) :: As) _:= St.perm S4 (List.Perm.trans (List.Perm.cons _ (List.Perm.swap _ _ _)) (List.Perm.trans (List.Perm.swap _ _ _) (List.Perm.trans (List.Perm.cons _ (List.Perm.cons _ (List.Perm.swap _ _ _))) (List.Perm.trans (List.Perm.cons _ (List.Perm.swap _ _ _)) (List.Perm.cons _ (List.Perm.cons _ (List.Perm.swap _ _ _)))))))
 clear S4
 have hcb1 : ∀ {m' : Mem} {As' : List Ow} {w' : World} {s : (List UInt64)} {X : List Ow} {b0 : List UInt8} {b0v0 : Value} {r : Bool × (List UInt64)},St m' (X ++ As') w' → (∃ (v3 : Value) (c2 : List Value),m1 ≤ m' ∧ X = Lp lp1 rip2 .ready none :: (row 1 v3 c2 (s).length) :: (bx b1 [v3] 112) :: [] ∧ RepL m' c2 (s)) → SlR m' b0v0 b0 → (fun (s : (List UInt64)) (b0 : List UInt8)=> obind (m_field_Of_b4 b0 s) fun y=> some (true,y)) s b0 = some r → CallV Tryz.prog (.func (.yield lp1) #[] #[]) [b0v0] w' fun v w''=> ∃ (M : Mem) (X' : List Ow),m' ≤ M ∧ St M (X' ++ As') w'' ∧ (∃ (v3 : Value) (c2 : List Value),m1 ≤ M ∧ X' = Lp lp1 rip2 .ready none :: (row 1 v3 c2 (r.2).length) :: (bx b1 [v3] 112) :: [] ∧ RepL M c2 (r.2)) ∧ v = vb r.1:= by
  intro m2 As1 w4 s1 X1 b5 v4 r4 S6 h6 h7 hm1
  obtain ⟨v5,c3,L2,rfl,h8⟩:= h6
  obtain ⟨y1,q3,hm1⟩:= oY0 hm1
  cases hm1
  unfold m_field_Of_b4 at q3
  replace S6 : St _ ((Lp lp1 rip2 .ready none) :: (row 1 v5 c3 s1.length) :: (bx b1 [v5] 112) :: As1) _:= S6
  have L1:= Mem.rfl' m2
  refine CallV.round h2 rfl S6 ?_
  refine wpc_region ?_
  refine s_asv (v:= v4) rfl ?_
  refine wpl_nil ?_
  refine nrm ?_
  refine ⟨_,_,S6,?_⟩
  intro w5 S7
  clear S6
  replace S7 : St _ ((Lp lp1 rip2 .busy none) :: (row 1 v5 c3 s1.length) :: (bx b1 [v5] 112) :: As1) _:= S7
  refine wpc_block ?_
  refine wpc_seq ?_
  refine wpc_region ?_
  refine s_asv (v:= vU 0) rfl ?_
  refine wpl_nil ?_
  refine nrm ?_
  obtain ⟨x3,q4,q3⟩:= oY0 q3
  have L3:= Mem.rfl' m2
  refine wpc_seq ?_
  refine wpc_join [5,6,7,11,12,13,14,15,16,17,18,19,20,21,22,23,24,25] (fun f' w'=> ∃ (M1 : Mem),m2 ≤ M1 ∧ St M1 ((Lp lp1 rip2 .busy none) :: (row 1 v5 c3 s1.length) :: (bx b1 [v5] 112) :: As1) w' ∧ AllAt f' [(5,vU x3)]) ?_ ?_
  ·refine wpc_seq ?_
   refine wpc_region ?_
   refine s_mvv (v:= v4) rfl ?_
   refine s_lenR (xs:= b5) rfl h7 Tryz.underlying34 ?_
   refine s_mvv (v:= vI 0) rfl ?_
   refine wpl_nil ?_
   refine nrm ?_
   obtain ⟨x4,q5,q4⟩:= oY0 q4
   have L4:= Mem.rfl' m2
   refine wpc_join [5,6,7,13,14,15,16,17,18,19,20,21,22,23,24,25] (fun f' w'=> ∃ (M2 : Mem),m2 ≤ M2 ∧ St M2 ((Lp lp1 rip2 .busy none) :: (row 1 v5 c3 s1.length) :: (bx b1 [v5] 112) :: As1) w' ∧ AllAt f' [(5,vU x4)]) ?_ ?_
   ·refine wpc_block ?_
    refine wpc_rounds [5,6,7,13,14,15,16,17,18,19,20,21,22,23,24,25] (fun n1 f' w'=> ∃ (i1 : Nat) (s2 : UInt64) (m4 : Mem),n1 = b5.length - i1 ∧ i1 ≤ b5.length ∧ eachN0 (m_field_Of_b6 b5) (b5.length - i1) (i1 : Int) s2 = some x4 ∧ m2 ≤ m4 ∧ St m4 ((Lp lp1 rip2 .busy none) :: (row 1 v5 c3 s1.length) :: (bx b1 [v5] 112) :: As1) w' ∧ AllAt f' [(13,vI (i1 : Int)),(5,vU s2)]) b5.length ⟨0,0,m2,rfl,Nat.zero_le _,q5,L4,S7,⟨rfl,rfl,trivial⟩⟩ ?_
    rintro n1 f1 w6 ho ⟨i1,s2,m3,hn,hi,q6,L6,S8,ha⟩
    obtain ⟨u1,rfl⟩:= fr_of (N:= 31) ho ha
    clear ho ha
    replace h7:= h7.up L6
    replace h8:= RepL.up L6 h8
    have L5:= Mem.rfl' m3
    clear S7
    refine wpc_seq ?_
    refine wpc_region ?_
    refine s_lss (m:= (i1 : Int)) (n:= (b5.length : Int)) rfl rfl ?_
    refine wpl_nil ?_
    refine nrm ?_
    refine wpc_seq ?_
    refine wpc_if (t:= decide ((i1 : Int) < (b5.length : Int))) rfl (fun hc1=> ?_) (fun hc1=> ?_)
    ·have hlt1 : i1 < b5.length:= by have:= of_decide_eq_true hc1; omega
     obtain ⟨y2,q8,q7⟩:= eachN0_in q6 hlt1
     unfold m_field_Of_b6 at q8
     refine wpc_skip ?_
     refine nrm ?_
     refine wpc_seq ?_
     refine wpc_block ?_
     refine wpc_seq ?_
     refine wpc_region ?_
     refine s_mvv (v:= vI (i1 : Int)) rfl ?_
     obtain ⟨x6,q10,q8⟩:= oY0 q8
     refine s_idx (q:= x6) rfl rfl h7 q10 Tryz.underlying34 Tryz.sizeOf5 ?_
     intro p3 c4 h9 r5
     obtain rfl : c4 = [vB x6]:= r5
     refine s_ldM (cs:= [vB x6]) S8 rfl h9 rfl Tryz.isAgg5 Tryz.sizeOf5 (fun _=> rfl) ?_
     refine s_asv (v:= vI (i1 : Int)) rfl ?_
     refine s_asv (v:= vB x6) rfl ?_
     refine wpl_nil ?_
     refine nrm ?_
     refine wpc_region ?_
     refine s_mvv (v:= vU s2) rfl ?_
     refine s_mvv (v:= vB x6) rfl ?_
     refine s_convU rfl Tryz.underlying5 Tryz.underlying22 ?_
     refine s_mvv (v:= vI (i1 : Int)) rfl ?_
     refine s_mulI (m:= 8) (n:= (i1 : Int)) rfl rfl ?_
     obtain ⟨q11,q8⟩:= if_some q8
     refine s_shlU (m:= (toU (x6.toNat : Int))) (n:= (w64 (8 * (i1 : Int)))) rfl rfl q11 ?_
     refine s_orU (m:= s2) (n:= (shlU (toU (x6.toNat : Int)) ((w64 (8 * (i1 : Int))).toNat))) rfl rfl ?_
     obtain ⟨x7,q12,q8⟩:= bnd_eq q8
     refine s_asv (v:= vU x7) (congrArg (fun z=> vU z) q12.symm) ?_
     refine wpl_nil ?_
     refine nrmB ?_
     refine nrm ?_
     refine wpc_region ?_
     refine s_addI (m:= (i1 : Int)) (n:= 1) rfl rfl ?_
     refine s_mvv (v:= vI (w64 ((i1 : Int) + 1))) rfl ?_
     refine wpl_nil ?_
     refine nrm ?_
     have e0:= sI0 q8
     subst e0
     exact ⟨outP,_,(by omega),⟨i1 + 1,x7,m3,rfl,hlt1,q7,Mem.tr L6 L5,S8,⟨congrArg (Value.int .i64) (w64_succ hlt1 (SlR.le h7)),rfl,trivial⟩⟩⟩
    have hlt1 : ¬ i1 < b5.length:= by have:= of_decide_eq_false hc1; omega
    have e:= Eq.symm (eachN0_out q6 hlt1)
    subst e
    refine wpc_exit ?_
    refine thE ?_
    refine thE ?_
    refine exB ?_
    refine nrm ?_
    exact ⟨outP,m3,Mem.tr L6 L5,S8,⟨rfl,trivial⟩⟩
   rintro f2 w7 ho ⟨m5,l2,S9,ha⟩
   obtain ⟨u2,rfl⟩:= fr_of (N:= 31) ho ha
   clear ho ha
   replace h8:= RepL.up l2 h8
   replace L3:= Mem.tr L3 l2
   clear S7
   have e0:= sI0 q4
   subst e0
   exact ⟨outP,m5,L3,S9,⟨rfl,trivial⟩⟩
  rintro f3 w8 ho ⟨m6,l3,S10,ha⟩
  obtain ⟨u3,rfl⟩:= fr_of (N:= 31) ho ha
  replace h8:= RepL.up l3 h8
  replace L1:= Mem.tr L1 l3
  clear S7
  refine wpc_region ?_
  refine s_ld (i:= 2) (cs:= [v5]) S10 rfl rfl Tryz.isAgg112 Tryz.sizeOf112 rfl (fun _=> rfl) ?_
  refine s_mvv (v:= vU x3) rfl ?_
  refine s_litC (parts:= [.tmp 27]) (vs:= [vU x3]) (cls:= [[vU x3]]) (xs:= ([x3] : List UInt64)) (n:= 1) S10 Tryz.underlying112 Tryz.sizeOf22 Tryz.zeroValue22 rfl ⟨rfl,trivial⟩ (RepL.cons (c:= [vU x3]) (x:= x3) rfl RepL.nil) rfl rfl rfl (by decide) (by decide) ?_
  intro v6 m7 w9 l4 S11 h10
  replace h8:= RepL.up l4 h8
  replace L1:= Mem.tr L1 l4
  clear S10
  obtain ⟨x8,q13,q3⟩:= oY0 q3
  refine s_app (i:= 1) (zs:= x8) (bytes:= 8) (ti:= Tryz.t22) S11 rfl rfl h8 rfl rfl h10 q13 Tryz.underlying112 Tryz.type22 rfl rfl rfl rfl ?_
  intro v7 c5 w10 S12 h11
  replace S12 : St _ ((Lp lp1 rip2 .busy none) :: (row 1 v7 c5 x8.length) :: (bx b1 [v5] 112) :: As1) _:= S12
  clear S11
  refine s_stS (i:= 2) S12 rfl rfl rfl Tryz.sizeOf112 (St.rowCells (i:= 1) S12 rfl) rfl ?_
  intro w11 S13
  replace S13 : St _ ((Lp lp1 rip2 .busy none) :: (row 1 v7 c5 x8.length) :: (bx b1 [v7] 112) :: As1) _:= S13
  clear S12
  refine wpl_nil ?_
  refine nrmB ?_
  have S14 : St _ ((row 1 v7 c5 x8.length) :: (Lp lp1 rip2 .busy none) :: (bx b1 [v7] 112) :: As1) _:= St.perm S13 (List.Perm.swap _ _ _)
  clear S13
  have S15 : St _ ((Lp lp1 rip2 .busy none) :: (row 1 v7 c5 x8.length) :: (bx b1 [v7] 112) :: As1) _:= St.perm S14 (List.Perm.swap _ _ _)
  clear S14
  refine ⟨_,_,S15,?_⟩
  intro w12 S16
  have e0:= sI0 q3
  subst e0
  exact ⟨_,Lp lp1 rip2 .ready none :: (row 1 v7 c5 x8.length) :: (bx b1 [v7] 112) :: [],L1,S16,⟨_,_,Mem.tr L2 L1,rfl,h11⟩,rfl⟩
 refine CallsR.mono (w_slices_Chunk_byte_byte_1 (p0:= (fun (s : (List UInt64)) (b0 : List UInt8)=> obind (m_field_Of_b4 b0 s) fun y=> some (true,y))) (k0:= x1.1) (k1:= x1.2) (s0:= ([] : List UInt64)) (R:= (fun (s : (List UInt64)) (M : Mem) (X : List Ow)=> (∃ (v3 : Value) (c2 : List Value),m1 ≤ M ∧ X = Lp lp1 rip2 .ready none :: (row 1 v3 c2 (s).length) :: (bx b1 [v3] 112) :: [] ∧ RepL M c2 (s)))) (X0:= ((Lp lp1 rip2 .ready none) :: (row 1 (.slice none 0 0) [] ([] : List UInt64).length) :: (bx b1 [(.slice none 0 0)] 112) :: [])) (As:= As) S5 (fun l h=> by obtain ⟨v3,c2,Lm,e,h5⟩:= h; exact ⟨_,_,Mem.tr Lm l,e,RepL.up l h5⟩) ⟨_,_,Mem.rfl' _,rfl,h4⟩ @hcb1 rfl h1 q2) ?_
 rintro _ w13 ⟨m8,l5,v8,X2,S17,rfl,h12,⟨v9,c6,L7,rfl,h13⟩⟩
 replace S17 : St _ ((bx b2 [v8] 34) :: (bx b3 [vI x2.2.1] 3) :: (Lp lp1 rip2 .ready none) :: (row 1 v9 c6 x2.2.2.length) :: (bx b1 [v9] 112) :: As) _:= S17
 have S18 : St _ ((Lp lp1 rip2 .ready none) :: (bx b2 [v8] 34) :: (bx b3 [vI x2.2.1] 3) :: (row 1 v9 c6 x2.2.2.length) :: (bx b1 [v9] 112) :: As) _:= St.perm S17 (List.Perm.trans (List.Perm.cons _ (List.Perm.swap _ _ _)) (List.Perm.swap _ _ _))
 clear S17
 refine ⟨_,.ready,none,_,l5,(fun h=> by cases h),S18,?_⟩
 intro m9 w14 l6 S19
 have l7:= Mem.tr l5 l6
 replace h12:= h12.up l6
 replace h13:= RepL.up l6 h13
 replace L0:= Mem.tr L0 l7
 replace S19 : St _ ((bx b2 [v8] 34) :: (bx b3 [vI x2.2.1] 3) :: (row 1 v9 c6 x2.2.2.length) :: (bx b1 [v9] 112) :: As) _:= S19
 refine nrmB ?_
 refine nrm ?_
 refine wpc_seq ?_
 refine wpc_region ?_
 refine s_ld (i:= 3) (cs:= [v9]) S19 rfl rfl Tryz.isAgg112 Tryz.sizeOf112 rfl (fun _=> rfl) ?_
 refine s_asv (v:= v9) rfl ?_
 refine wpl_nil ?_
 refine nrm ?_
 refine wpc_ret ?_
 refine outRw ?_
 intro we hpd
 replace S19:= St.pd S19 hpd
 obtain ⟨m10,l8,S20⟩:= St.drop S19 0
 replace h13:= RepL.up l8 h13
 replace L0:= Mem.tr L0 l8
 clear S19
 replace S20 : St _ ((bx b3 [vI x2.2.1] 3) :: (row 1 v9 c6 x2.2.2.length) :: (bx b1 [v9] 112) :: As) _:= S20
 obtain ⟨m11,l9,S21⟩:= St.drop S20 0
 replace h13:= RepL.up l9 h13
 replace L0:= Mem.tr L0 l9
 clear S20
 replace S21 : St _ ((row 1 v9 c6 x2.2.2.length) :: (bx b1 [v9] 112) :: As) _:= S21
 obtain ⟨m12,l10,S22⟩:= St.drop S21 1
 replace h13:= RepL.up l10 h13
 replace L0:= Mem.tr L0 l10
 clear S21
 replace S22 : St _ ((row 1 v9 c6 x2.2.2.length) :: As) _:= S22
 have e0:= sI0 hm
 subst e0
 exact outR [_] rfl ⟨rfl,trivial⟩ ⟨_,L0,_,_,S22,rfl,h13⟩
def m_field_fold (a0 : UInt64) (a1 : UInt64) : Option UInt64 :=
 bnd (((a1 &&& 2305843009213693951) + ((shlU a0 3) ||| (shrU a1 61)))) fun x1 =>
 bnd (((x1 &&& 2305843009213693951) + (shrU x1 61))) fun x2 =>
 obind (
  if (decide ((x2.toNat : Int) ≥ 2305843009213693951)) = true then
   some (x2 - 2305843009213693951)
  else
  some x2
 ) fun x3 =>
 some x3
theorem w_field_fold {a0 : UInt64} {a1 : UInt64} {r : UInt64} (hm : m_field_fold a0 a1 = some r) : Sf prog 190 [.d (.u a0),.d (.u a1)] (.d (.u r)) :=
 sp call190 func190 rfl ntmps190 rfl fun D0 As η0 m0 hd=> by
  unfold m_field_fold at hm
  have hm:= bnd_is hm
  let x1 : UInt64:= (((a1 &&& 2305843009213693951) + ((shlU a0 3) ||| (shrU a1 61))))
  have hm:= bnd_is hm
  let x2 : UInt64:= (((x1 &&& 2305843009213693951) + (shrU x1 61)))
  obtain ⟨x3,q3,hm⟩:= oY0 hm
  refine gj (fun (_ : Unit)=> ⟨[(5,.d (.u x3))],[],[],0⟩) (fun _=> True) (by kernel_rfl) (fun Jp bk1=> ?_) fun _ _=> ?_
  ·refine gi q3 (by kernel_rfl) (fun hc1 q3=> ?_) fun hc1 q3=> ?_
   ·skip
    have e0:= sI0 q3
    subst e0
    exact gb bk1 hd () trivial (by kernel_rfl)
   have e0:= sI0 q3
   subst e0
   exact gb bk1 hd () trivial (by kernel_rfl)
  have e0:= sI0 hm
  subst e0
  exact gend hd (by kernel_rfl)
def m_field_one (a0 : UInt64) : Option UInt64 :=
 obind (m_field_fold 0 a0) fun x1 =>
 some x1
theorem w_field_one {a0 : UInt64} {r : UInt64} (hm : m_field_one a0 = some r) : Sf prog 177 [.d (.u a0)] (.d (.u r)) :=
 sp call177 func177 rfl ntmps177 rfl fun D0 As η0 m0 hd=> by
  unfold m_field_one at hm
  obtain ⟨x1,q1,hm⟩:= oY0 hm
  refine gc (fun _=> w_field_fold q1) (by kernel_rfl) ?_
  have e0:= sI0 hm
  subst e0
  exact gend hd (by kernel_rfl)
def m_field_Add (a0 : UInt64) (a1 : UInt64) : Option UInt64 :=
 obind (m_field_one a0) fun x1 =>
 obind (m_field_one a1) fun x2 =>
 obind (m_field_one (x1 + x2)) fun x3 =>
 some x3
theorem w_field_Add {a0 : UInt64} {a1 : UInt64} {r : UInt64} (hm : m_field_Add a0 a1 = some r) : Sf prog 150 [.d (.u a0),.d (.u a1)] (.d (.u r)) :=
 sp call150 func150 rfl ntmps150 rfl fun D0 As η0 m0 hd=> by
  unfold m_field_Add at hm
  obtain ⟨x1,q1,hm⟩:= oY0 hm
  refine gc (fun _=> w_field_one q1) (by kernel_rfl) ?_
  obtain ⟨x2,q2,hm⟩:= oY0 hm
  refine gc (fun _=> w_field_one q2) (by kernel_rfl) ?_
  obtain ⟨x3,q3,hm⟩:= oY0 hm
  refine gc (fun _=> w_field_one q3) (by kernel_rfl) ?_
  have e0:= sI0 hm
  subst e0
  exact gend hd (by kernel_rfl)
theorem v_field_Add {m : Mem} {As : List Ow} {w : World} {a0 : UInt64} {a1 : UInt64} {r : UInt64} (S : St m As w) (hm : m_field_Add a0 a1 = some r) :
  CallsR prog 150 #[vU a0,vU a1] w fun v w'=> ∃ (M : Mem),m ≤ M ∧ St M (As) w' ∧ v = vU r:= by
 refine CallsR.mono ((w_field_Add hm).2 none0 m As w [vU a0,vU a1] (.cons (.d (.u _)) (.cons (.d (.u _)) .nil)) (fun n h=> absurd rfl h) S) ?_
 rintro v w' ⟨M,η',r',obs',n1,hle,_,⟨rfl,rfl,rfl⟩,hdom,hR,S'⟩
 obtain rfl:= hR.u_inv
 exact ⟨M,hle,S',rfl⟩
def m_hash_state_each_b1 {σ : Type} (p1 : σ → Int → UInt64 → Option (UInt64 × σ)) (i1 : Int) (s1 : UInt64 × UInt64 × UInt64 × σ) : Option (UInt64 × UInt64 × UInt64 × σ) :=
 obind (idx [s1.1,s1.2.1,s1.2.2.1] (i1 : Int)) fun x3 =>
 obind (p1 s1.2.2.2 (i1 : Int) x3) fun x4 =>
 obind (idx [s1.1,s1.2.1,s1.2.2.1] (i1 : Int)) fun x5 =>
 bnd (if (i1 : Int) = 0 then x4.1 else s1.1) fun x6 =>
 bnd (if (i1 : Int) = 1 then x4.1 else s1.2.1) fun x7 =>
 bnd (if (i1 : Int) = 2 then x4.1 else s1.2.2.1) fun x8 =>
 some (x6,x7,x8,x4.2)
def m_hash_state_each {σ : Type} (a0 : UInt64 × UInt64 × UInt64) (p1 : σ → Int → UInt64 → Option (UInt64 × σ)) (s0 : σ) : Option ((UInt64 × UInt64 × UInt64) × σ) :=
 obind (eachN0 (m_hash_state_each_b1 p1) 3 0 (a0.1,a0.2.1,a0.2.2,s0)) fun x1 =>
 some ((x1.1,x1.2.1,x1.2.2.1),x1.2.2.2)
theorem w_hash_state_each {m : Mem} {As : List Ow} {w : World} {σ : Type} {R : σ → Mem → List Ow → Prop} {pb0 : Nat} {a0 : UInt64 × UInt64 × UInt64} {p1 : σ → Int → UInt64 → Option (UInt64 × σ)} {f1 : Value} {s0 : σ} {X0 : List Ow} {r : (UInt64 × UInt64 × UInt64) × σ} (S : St m ((bx pb0 [vU a0.1,vU a0.2.1,vU a0.2.2] 179) :: (X0 ++ As)) w) (hup : ∀ {s M M' X},M ≤ M' → R s M X → R s M' X) (hX0 : R s0 m X0) (cb1 : ∀ {m' : Mem} {As' : List Ow} {w' : World} {s : σ} {X : List Ow} {b0 : Int} {b1 : UInt64} {r : UInt64 × σ},St m' (X ++ As') w' → R s m' X → p1 s b0 b1 = some r → CallV Tryz.prog f1 [vI b0,vU b1] w' fun v w''=> ∃ (M : Mem) (X' : List Ow),m' ≤ M ∧ St M (X' ++ As') w'' ∧ R r.2 M X' ∧ v = vU r.1) (fc1 : f1.cells = #[f1]) (hm : m_hash_state_each a0 p1 s0 = some r) :
  CallsR Tryz.prog 178 #[pt pb0 0,f1] w fun v w'=> ∃ (M : Mem),m ≤ M ∧ ∃ (X : List Ow),St M ((bx pb0 [vU r.1.1,vU r.1.2.1,vU r.1.2.2] 179) :: (X ++ As)) w' ∧ v = .tuple #[] ∧ R r.2 M X:= by
 unfold m_hash_state_each at hm
 have L0:= Mem.rfl' m
 refine callsR (args:= [pt pb0 0,f1]) Tryz.func178 rfl Tryz.ntmps178 (Nat.le_of_ble_eq_true rfl) ?_
 refine wpc_seq ?_
 refine wpc_region ?_
 refine s_mvv (v:= pt pb0 0) rfl ?_
 refine s_mvv (v:= vI 0) rfl ?_
 refine wpl_nil ?_
 refine nrm ?_
 obtain ⟨x1,q1,hm⟩:= oY0 hm
 have L1:= Mem.rfl' m
 refine wpc_wrap ?_
 refine wpc_join [4,5,7,8,9,10,11,12,13,14,15,16,17,18,19,20,21] (fun f' w'=> ∃ (M1 : Mem) (X2 : List Ow),m ≤ M1 ∧ St M1 ((bx pb0 [vU x1.1,vU x1.2.1,vU x1.2.2.1] 179) :: (X2 ++ As)) w' ∧ R x1.2.2.2 M1 X2 ∧ AllAt f' []) ?_ ?_
 ·refine wpc_block ?_
  refine wpc_rounds [4,5,7,8,9,10,11,12,13,14,15,16,17,18,19,20,21] (fun n1 f' w'=> ∃ (i1 : Nat) (s1 : UInt64 × UInt64 × UInt64 × σ) (m17 : Mem) (X1 : List Ow),n1 = 3 - i1 ∧ i1 ≤ 3 ∧ eachN0 (m_hash_state_each_b1 p1) (3 - i1) (i1 : Int) s1 = some x1 ∧ m ≤ m17 ∧ St m17 ((bx pb0 [vU s1.1,vU s1.2.1,vU s1.2.2.1] 179) :: (X1 ++ As)) w' ∧ R s1.2.2.2 m17 X1 ∧ AllAt f' [(7,vI (i1 : Int))]) 3 ⟨0,(a0.1,a0.2.1,a0.2.2,s0),m,_,rfl,Nat.zero_le _,q1,L1,S,hX0,⟨rfl,trivial⟩⟩ ?_
  rintro n1 f1 w1 ho ⟨i1,s1,m1,X1,hn,hi,q2,L3,S1,h1,ha⟩
  obtain ⟨u1,rfl⟩:= fr_of (N:= 22) ho ha
  clear ho ha
  have L2:= Mem.rfl' m1
  clear S
  refine wpc_seq ?_
  refine wpc_region ?_
  refine s_lss (m:= (i1 : Int)) (n:= 3) rfl rfl ?_
  refine wpl_nil ?_
  refine nrm ?_
  refine wpc_seq ?_
  refine wpc_if (t:= decide ((i1 : Int) < (3 : Int))) rfl (fun hc1=> ?_) (fun hc1=> ?_)
  ·have hlt1 : i1 < 3:= by have:= of_decide_eq_true hc1; omega
   obtain ⟨y1,q4,q3⟩:= eachN0_in q2 hlt1
   unfold m_hash_state_each_b1 at q4
   refine wpc_skip ?_
   refine nrm ?_
   refine wpc_seq ?_
   refine wpc_block ?_
   refine wpc_seq ?_
   obtain ⟨x3,q6,q4⟩:= oY0 q4
   have HM : MonoAll [(9,fv (vI (i1 : Int))),(10,fv (pt pb0 0)),(11,fv (pt pb0 (0 + (i1 : Int).toNat * 1))),(12,fv (vU x3)),(4,fv (vI (i1 : Int)))]:= ⟨mv,mv,mv,mv,mv,trivial⟩
   refine wpc_flowG HM 5 mixed rfl rfl rfl [4,9,10,11,12] (fun L f M w=> St M ((bx pb0 [vU s1.1,vU s1.2.1,vU s1.2.2.1] 179) :: (X1 ++ As)) w) (St.drew S1 _) ?_ ?_
   ·refine ⟨?_,?_,?_,?_,?_,trivial⟩
    ·exact flp HM rfl [] (fun _ _=> trivial) (fun _ _ q=> s_mvv (v:= vI (i1 : Int)) rfl q) rfl
    ·exact flp HM rfl [] (fun _ _=> trivial) (fun _ _ q=> s_nilc rfl q) rfl
    ·exact flp HM rfl [(10,_)] (fun K _=> ⟨K 1 rfl,trivial⟩) (fun _ _ q=> s_idxA (i:= (i1 : Int)) rfl rfl Tryz.underlying179 Tryz.sizeOf22 (idx_rng q6).1 (idx_rng q6).2 q) rfl
    ·exact flp HM rfl [(11,_)] (fun K _=> ⟨K 2 rfl,trivial⟩) (fun _ S5 q=> s_ld (i:= 0) (off:= 0 + (i1 : Int).toNat * 1) (cs:= [vU x3]) S5 rfl rfl Tryz.isAgg22 Tryz.sizeOf22 (by rcases idx3 q6 with ⟨h,h'⟩ | ⟨h,h'⟩ | ⟨h,h'⟩ <;> (rw [h,h']; rfl)) (fun _=> rfl) q) rfl
    ·exact flp HM rfl [(9,_)] (fun K _=> ⟨K 0 rfl,trivial⟩) (fun _ _ q=> s_asv (v:= vI (i1 : Int)) rfl q) rfl
   intro L f7 w7 hall ⟨m7,L14,S7,K,hO⟩
   have d4 : L 4 = true:= hall 4 (by decide)
   have e4:= K 4 d4
   have d3 : L 3 = true:= hall 3 (by decide)
   have e5:= K 3 d3
   obtain ⟨u7,rfl⟩:= fr_of (N:= 22) (L:= [(4,vI (i1 : Int)),(12,vU x3)]) hO ⟨e4,e5,trivial⟩
   replace S7 : St _ ((bx pb0 [vU s1.1,vU s1.2.1,vU s1.2.2.1] 179) :: (X1 ++ As)) _:= S7
   replace h1:= hup L14 h1
   replace L2:= Mem.tr L2 L14
   clear S1
   refine s_asv (v:= vU x3) rfl ?_
   refine wpl_nil ?_
   refine nrm ?_
   obtain ⟨x4,q7,q4⟩:= oY0 q4
   have HM : MonoAll [(13,fv (pt pb0 0)),(14,fv (vI (i1 : Int))),(15,fv f1),(16,fv (vI (i1 : Int))),(17,fv (vU x3)),(18,fv (vU x4.1)),(19,fv (pt pb0 0))]:= ⟨mv,mv,mv,mv,mv,mv,mv,trivial⟩
   refine wpc_flowG HM 7 mixed rfl rfl rfl [13,14,15,16,17,18,19] (fun L f M w=> ∃ (X3 : List Ow),((L 5 = false → R s1.2.2.2 M X3) ∧ (L 5 = true → R x4.2 M X3)) ∧ St M ((bx pb0 [vU s1.1,vU s1.2.1,vU s1.2.2.1] 179) :: (X3 ++ As)) w) (⟨X1,⟨fun _=> h1,fun hx=> ff hx⟩,St.drew S7 _⟩) ?_ ?_
   ·refine ⟨?_,?_,?_,?_,?_,?_,?_,trivial⟩
    ·exact flp HM rfl [] (fun _ _=> trivial) (fun _ _ q=> s_mvv (v:= pt pb0 0) rfl q) rfl
    ·exact flp HM rfl [] (fun _ _=> trivial) (fun _ _ q=> s_mvv (v:= vI (i1 : Int)) rfl q) rfl
    ·exact flp HM rfl [] (fun _ _=> trivial) (fun _ _ q=> s_mvv (v:= f1) rfl q) rfl
    ·exact flp HM rfl [] (fun _ _=> trivial) (fun _ _ q=> s_mvv (v:= vI (i1 : Int)) rfl q) rfl
    ·exact flp HM rfl [] (fun _ _=> trivial) (fun _ _ q=> s_mvv (v:= vU x3) rfl q) rfl
    ·intro L f13 w13 hL hd hc ⟨m13,L25,⟨X3,C6,S13⟩,K,hO⟩
     have d2 : L 2 = true:= dep hd rfl
     have e6:= K 2 d2
     have d3 : L 3 = true:= dep hd rfl
     have e7:= K 3 d3
     have d4 : L 4 = true:= dep hd rfl
     have e8:= K 4 d4
     have d5 : L 5 = false:= hL
     obtain ⟨u13,rfl⟩:= fr_of (N:= 22) (L:= [(15,f1),(16,vI (i1 : Int)),(17,vU x3)]) hO ⟨e6,e7,e8,trivial⟩
     replace S13 : St _ ((bx pb0 [vU s1.1,vU s1.2.1,vU s1.2.2.1] 179) :: (X3 ++ As)) _:= S13
     have h3:= C6.1 d5
     replace S13 : St _ ((bx pb0 [vU s1.1,vU s1.2.1,vU s1.2.2.1] 179) :: (X3 ++ As)) _:= S13
     have L26:= Mem.rfl' m13
     have S14:= St.absF (L:= [bx pb0 [vU s1.1,vU s1.2.1,vU s1.2.2.1] 179]) (X:= X3) (As:= As) S13
     refine s_callV rfl (cb1 S14 h3 q7) rfl ?_
     rintro _ w14 ⟨m14,X4,l1,S15,h4,rfl⟩
     replace S15:= St.absF (L:= X4) (X:= [bx pb0 [vU s1.1,vU s1.2.1,vU s1.2.2.1] 179]) (As:= As) S15
     clear S14
     replace L26:= Mem.tr L26 l1
     replace S15 : St _ ((bx pb0 [vU s1.1,vU s1.2.1,vU s1.2.2.1] 179) :: (X4 ++ As)) _:= S15
     clear S13
     refine wpn ?_
     refine ⟨m14,Mem.tr L25 L26,⟨X4,⟨fun hx=> tf rfl hx,fun _=> h4⟩,?_⟩,facts_step HM rfl K L26 rfl rfl rfl,outP⟩
     exact S15
    ·exact flp HM rfl [(13,_)] (fun K _=> ⟨K 0 rfl,trivial⟩) (fun _ _ q=> s_nilc rfl q) rfl
   intro L f15 w16 hall ⟨m16,L29,⟨X3,C8,S17⟩,K,hO⟩
   have d1 : L 1 = true:= hall 1 (by decide)
   have e10:= K 1 d1
   have d5 : L 5 = true:= hall 5 (by decide)
   have e11:= K 5 d5
   have d6 : L 6 = true:= hall 6 (by decide)
   have e12:= K 6 d6
   obtain ⟨u15,rfl⟩:= fr_of (N:= 22) (L:= [(14,vI (i1 : Int)),(18,vU x4.1),(19,pt pb0 0)]) hO ⟨e10,e11,e12,trivial⟩
   replace S17 : St _ ((bx pb0 [vU s1.1,vU s1.2.1,vU s1.2.2.1] 179) :: (X3 ++ As)) _:= S17
   have h5:= C8.2 d5
   replace S17 : St _ ((bx pb0 [vU s1.1,vU s1.2.1,vU s1.2.2.1] 179) :: (X3 ++ As)) _:= S17
   replace L2:= Mem.tr L2 L29
   clear S7
   obtain ⟨x5,q8,q4⟩:= oY0 q4
   refine s_idxA (i:= (i1 : Int)) rfl rfl Tryz.underlying179 Tryz.sizeOf22 (idx_rng q8).1 (idx_rng q8).2 ?_
   obtain ⟨x6,q9,q4⟩:= bnd_eq q4
   obtain ⟨x7,q10,q4⟩:= bnd_eq q4
   obtain ⟨x8,q11,q4⟩:= bnd_eq q4
   refine s_st (i:= 0) (off:= 0 + (i1 : Int).toNat * 1) S17 rfl rfl rfl Tryz.sizeOf22 (OneL.all (oneC rfl oneN)) (by rcases idx3 q8 with ⟨h,h'⟩ | ⟨h,h'⟩ | ⟨h,h'⟩ <;> (rw [h]; exact Nat.le_of_ble_eq_true rfl)) ?_
   intro w17 S18
   replace S18:= St.cellsTo (i:= 0) (l':= [vU x6,vU x7,vU x8]) S18 (by rcases idx3 q8 with ⟨h,h'⟩ | ⟨h,h'⟩ | ⟨h,h'⟩ <;> (simp only [q9,q10,q11,h]; rfl)) rfl
   replace S18 : St _ ((bx pb0 [vU x6,vU x7,vU x8] 179) :: (X3 ++ As)) _:= S18
   clear S17
   refine wpl_nil ?_
   refine nrmB ?_
   refine nrm ?_
   refine wpc_region ?_
   refine s_addI (m:= (i1 : Int)) (n:= 1) rfl rfl ?_
   refine s_mvv (v:= vI (w64 ((i1 : Int) + 1))) rfl ?_
   refine wpl_nil ?_
   refine nrm ?_
   have e0:= sI0 q4
   subst e0
   exact ⟨outP,_,(by omega),⟨i1 + 1,(x6,x7,x8,x4.2),m16,_,rfl,hlt1,q3,Mem.tr L3 L2,S18,h5,⟨congrArg (Value.int .i64) (w64_succ hlt1 (by decide)),trivial⟩⟩⟩
  have hlt1 : ¬ i1 < 3:= by have:= of_decide_eq_false hc1; omega
  have e:= Eq.symm (eachN0_out q2 hlt1)
  subst e
  refine wpc_exit ?_
  refine thE ?_
  refine thE ?_
  refine exB ?_
  refine nrm ?_
  exact ⟨outP,m1,_,Mem.tr L3 L2,S1,h1,trivial⟩
 rintro f16 w18 ho ⟨m18,X2,l2,S19,h2,ha⟩
 obtain ⟨u16,rfl⟩:= fr_of (N:= 22) ho ha
 clear ho ha
 replace L0:= Mem.tr L0 l2
 clear S
 refine outNw ?_
 intro we hpd
 replace S19:= St.pd S19 hpd
 have e0:= sI0 hm
 subst e0
 exact outR [] rfl trivial ⟨_,L0,_,S19,rfl,h2⟩
def m_bits_Mul64 (a0 : UInt64) (a1 : UInt64) : Option (UInt64 × UInt64) :=
 bnd (((a0 &&& 4294967295) * (a1 &&& 4294967295))) fun x1 =>
 bnd ((((shrU a0 32) * (a1 &&& 4294967295)) + (shrU x1 32))) fun x2 =>
 bnd (((x2 &&& 4294967295) + ((a0 &&& 4294967295) * (shrU a1 32)))) fun x3 =>
 bnd (((((shrU a0 32) * (shrU a1 32)) + (shrU x2 32)) + (shrU x3 32))) fun x4 =>
 some (x4,(a0 * a1))
theorem w_bits_Mul64 {a0 : UInt64} {a1 : UInt64} {r : UInt64 × UInt64} (hm : m_bits_Mul64 a0 a1 = some r) : Sf prog 200 [.d (.u a0),.d (.u a1)] (.tup [.d (.u r.1),.d (.u r.2)]) :=
 sp call200 func200 rfl ntmps200 rfl fun D0 As η0 m0 hd=> by
  unfold m_bits_Mul64 at hm
  have hm:= bnd_is hm
  let x1 : UInt64:= (((a0 &&& 4294967295) * (a1 &&& 4294967295)))
  have hm:= bnd_is hm
  let x2 : UInt64:= ((((shrU a0 32) * (a1 &&& 4294967295)) + (shrU x1 32)))
  have hm:= bnd_is hm
  let x3 : UInt64:= (((x2 &&& 4294967295) + ((a0 &&& 4294967295) * (shrU a1 32))))
  have hm:= bnd_is hm
  let x4 : UInt64:= (((((shrU a0 32) * (shrU a1 32)) + (shrU x2 32)) + (shrU x3 32)))
  have e0:= sI0 hm
  subst e0
  exact gend hd (by kernel_rfl)
def m_field_Mul (a0 : UInt64) (a1 : UInt64) : Option UInt64 :=
 obind (m_field_one a0) fun x1 =>
 obind (m_field_one a1) fun x2 =>
 obind (m_bits_Mul64 x1 x2) fun x3 =>
 obind (m_field_fold x3.1 x3.2) fun x4 =>
 some x4
theorem w_field_Mul {a0 : UInt64} {a1 : UInt64} {r : UInt64} (hm : m_field_Mul a0 a1 = some r) : Sf prog 191 [.d (.u a0),.d (.u a1)] (.d (.u r)) :=
 sp call191 func191 rfl ntmps191 rfl fun D0 As η0 m0 hd=> by
  unfold m_field_Mul at hm
  obtain ⟨x1,q1,hm⟩:= oY0 hm
  refine gc (fun _=> w_field_one q1) (by kernel_rfl) ?_
  obtain ⟨x2,q2,hm⟩:= oY0 hm
  refine gc (fun _=> w_field_one q2) (by kernel_rfl) ?_
  obtain ⟨x3,q3,hm⟩:= oY0 hm
  refine gc (fun _=> w_bits_Mul64 q3) (by kernel_rfl) ?_
  obtain ⟨x4,q4,hm⟩:= oY0 hm
  refine gc (fun _=> w_field_fold q4) (by kernel_rfl) ?_
  have e0:= sI0 hm
  subst e0
  exact gend hd (by kernel_rfl)
def m_hash_seventeen_b1  (i1 : Int) (s1 : UInt64) : Option (UInt64) :=
 obind (m_field_Mul s1 s1) fun x4 =>
 some x4
def m_hash_seventeen (a0 : UInt64) : Option UInt64 :=
 obind (
  obind (eachN0 m_hash_seventeen_b1 4 0 a0) fun x2 =>
  some x2
 ) fun x1 =>
 obind (m_field_Mul a0 x1) fun x5 =>
 some x5
theorem w_hash_seventeen {a0 : UInt64} {r : UInt64} (hm : m_hash_seventeen a0 = some r) : Sf prog 180 [.d (.u a0)] (.d (.u r)) :=
 sp call180 func180 rfl ntmps180 rfl fun D0 As η0 m0 hd=> by
  unfold m_hash_seventeen at hm
  obtain ⟨x1,q1,hm⟩:= oY0 hm
  obtain ⟨x2,q2,q1⟩:= oY0 q1
  refine gjU 0 (fun (_ : Unit)=> ⟨[(0,.d (.u a0)),(3,.d (.u x1))],[],[],0⟩) (fun _=> True) (by kernel_rfl) (fun Jp bk1=> ?_) fun _ _=> ?_
  ·refine gjU 0 (fun (_ : Unit)=> ⟨[(0,.d (.u a0)),(3,.d (.u x2))],[],[],0⟩) (fun _=> True) (by kernel_rfl) (fun Jp bk2=> ?_) fun _ _=> ?_
   ·refine gl hd (fun (p : Int × (UInt64))=> let (p0,p_0):= p; ⟨[(0,.d (.u a0)),(3,.d (.u p_0)),(5,.d (.i p0))],[],[],0⟩) (fun p=> ∃ i : Nat,p.1 = (i : Int) ∧ i ≤ 4 ∧ eachN0 m_hash_seventeen_b1 (4 - i) (i : Int) p.2 = some x2) (fun p=> 4 - p.1.toNat) (0,a0) ⟨0,rfl,Nat.zero_le _,q2⟩ (by kernel_rfl) ?_
    rintro ⟨_,s1⟩ ⟨i1,rfl,hi,q3⟩ Jl bl1
    refine gi' (b:= decide ((i1 : Int) < (4 : Int))) (by kernel_rfl) (fun hc1=> ?_) fun hc1=> ?_
    ·have hlt1 : i1 < 4:= by have:= of_decide_eq_true hc1; omega
     obtain ⟨y1,q5,q4⟩:= eachN0_in q3 hlt1
     unfold m_hash_seventeen_b1 at q5
     obtain ⟨x4,q7,q5⟩:= oY0 q5
     refine gc (fun _=> w_field_Mul q7) (by kernel_rfl) ?_
     have e0:= sI0 q5
     subst e0
     exact gb bl1 hd (w64 ((i1 : Int) + 1),x4) ⟨⟨i1 + 1,w64_succ hlt1 (by decide),by omega,q4⟩,mu_lt hlt1 (by decide)⟩ (by kernel_rfl)
    have hlt1 : ¬ i1 < 4:= by have:= of_decide_eq_false hc1; omega
    have e:= Eq.symm (eachN0_out q3 hlt1)
    subst e
    exact gb bk2 hd () trivial (by kernel_rfl)
   have e0:= sI0 q1
   subst e0
   exact gb bk1 hd () trivial (by kernel_rfl)
  obtain ⟨x5,q8,hm⟩:= oY0 hm
  refine gc (fun _=> w_field_Mul q8) (by kernel_rfl) ?_
  have e0:= sI0 hm
  subst e0
  exact gend hd (by kernel_rfl)
theorem v_hash_seventeen {m : Mem} {As : List Ow} {w : World} {a0 : UInt64} {r : UInt64} (S : St m As w) (hm : m_hash_seventeen a0 = some r) :
  CallsR prog 180 #[vU a0] w fun v w'=> ∃ (M : Mem),m ≤ M ∧ St M (As) w' ∧ v = vU r:= by
 refine CallsR.mono ((w_hash_seventeen hm).2 none0 m As w [vU a0] (.cons (.d (.u _)) .nil) (fun n h=> absurd rfl h) S) ?_
 rintro v w' ⟨M,η',r',obs',n1,hle,_,⟨rfl,rfl,rfl⟩,hdom,hR,S'⟩
 obtain rfl:= hR.u_inv
 exact ⟨M,hle,S',rfl⟩
def m_hash_Mix_1 (a0 : Int) (a1 : UInt64) (k0 : Int) (k1 : UInt64) : Option (UInt64 × Int × UInt64) :=
 bnd ((toU (w64 ((w64 ((w64 (3 * k0)) + a0)) + 1)))) fun x1 =>
 obind (m_field_Add a1 (((x1 * x1) * x1) + 7)) fun x2 =>
 obind (m_hash_seventeen x2) fun x3 =>
 obind (m_field_Add k1 x3) fun x4 =>
 some (x3,k0,x4)
theorem w_hash_Mix_1 {m : Mem} {As : List Ow} {w : World} {a0 : Int} {a1 : UInt64} {kb0 : Nat} {k0 : Int} {kb1 : Nat} {k1 : UInt64} {r : UInt64 × Int × UInt64} (S : St m ((bx kb0 [vI k0] 3) :: (bx kb1 [vU k1] 22) :: As) w) (hm : m_hash_Mix_1 a0 a1 k0 k1 = some r) :
  CallsR Tryz.prog 179 #[vI a0,vU a1,pt kb0 0,pt kb1 0] w fun v w'=> ∃ (M : Mem),m ≤ M ∧ St M ((bx kb0 [vI r.2.1] 3) :: (bx kb1 [vU r.2.2] 22) :: As) w' ∧ v = vU r.1:= by
 unfold m_hash_Mix_1 at hm
 have L0:= Mem.rfl' m
 refine callsR (args:= [vI a0,vU a1,pt kb0 0,pt kb1 0]) Tryz.func179 rfl Tryz.ntmps179 (Nat.le_of_ble_eq_true rfl) ?_
 refine wpc_seq ?_
 refine wpc_region ?_
 refine s_asv (v:= vU 0) rfl ?_
 refine wpl_nil ?_
 refine nrm ?_
 refine wpc_seq ?_
 refine wpc_region ?_
 refine s_ld (i:= 0) (cs:= [vI k0]) S rfl rfl Tryz.isAgg3 Tryz.sizeOf3 rfl (fun _=> rfl) ?_
 refine s_mulI (m:= 3) (n:= k0) rfl rfl ?_
 refine s_mvv (v:= vI a0) rfl ?_
 refine s_addI (m:= (w64 (3 * k0))) (n:= a0) rfl rfl ?_
 refine s_addI (m:= (w64 ((w64 (3 * k0)) + a0))) (n:= 1) rfl rfl ?_
 refine s_convU rfl Tryz.underlying3 Tryz.underlying22 ?_
 obtain ⟨x1,q1,hm⟩:= bnd_eq hm
 refine s_asv (v:= vU x1) (congrArg (fun z=> vU z) q1.symm) ?_
 refine wpl_nil ?_
 refine nrm ?_
 refine wpc_seq ?_
 refine wpc_region ?_
 refine s_mvv (v:= vU a1) rfl ?_
 refine s_mvv (v:= vU x1) rfl ?_
 refine s_mvv (v:= vU x1) rfl ?_
 refine s_mulU (m:= x1) (n:= x1) rfl rfl ?_
 refine s_mvv (v:= vU x1) rfl ?_
 refine s_mulU (m:= (x1 * x1)) (n:= x1) rfl rfl ?_
 refine s_addU (m:= ((x1 * x1) * x1)) (n:= 7) rfl rfl ?_
 obtain ⟨x2,q2,hm⟩:= oY0 hm
 refine s_call Tryz.call150 (v_field_Add (a0:= a1) (a1:= (((x1 * x1) * x1) + 7)) S  q2) rfl ?_
 rintro _ w1 ⟨m1,l1,S1,rfl⟩
 replace L0:= Mem.tr L0 l1
 clear S
 replace S1 : St _ ((bx kb0 [vI k0] 3) :: (bx kb1 [vU k1] 22) :: As) _:= S1
 obtain ⟨x3,q3,hm⟩:= oY0 hm
 refine s_call Tryz.call180 (v_hash_seventeen (a0:= x2) S1  q3) rfl ?_
 rintro _ w2 ⟨m2,l2,S2,rfl⟩
 replace L0:= Mem.tr L0 l2
 clear S1
 replace S2 : St _ ((bx kb0 [vI k0] 3) :: (bx kb1 [vU k1] 22) :: As) _:= S2
 refine s_asv (v:= vU x3) rfl ?_
 refine wpl_nil ?_
 refine nrm ?_
 refine wpc_seq ?_
 refine wpc_region ?_
 refine s_ld (i:= 1) (cs:= [vU k1]) S2 rfl rfl Tryz.isAgg22 Tryz.sizeOf22 rfl (fun _=> rfl) ?_
 refine s_mvv (v:= vU x3) rfl ?_
 obtain ⟨x4,q4,hm⟩:= oY0 hm
 refine s_call Tryz.call150 (v_field_Add (a0:= k1) (a1:= x3) S2  q4) rfl ?_
 rintro _ w3 ⟨m3,l3,S3,rfl⟩
 replace L0:= Mem.tr L0 l3
 clear S2
 replace S3 : St _ ((bx kb0 [vI k0] 3) :: (bx kb1 [vU k1] 22) :: As) _:= S3
 refine s_stL (i:= 1) S3 rfl rfl rfl Tryz.sizeOf22 (oneC rfl oneN) rfl ?_
 intro w4 S4
 replace S4 : St _ ((bx kb0 [vI k0] 3) :: (bx kb1 [vU x4] 22) :: As) _:= S4
 clear S3
 refine wpl_nil ?_
 refine nrm ?_
 refine wpc_seq ?_
 refine wpc_region ?_
 refine s_mvv (v:= vU x3) rfl ?_
 refine s_asv (v:= vU x3) rfl ?_
 refine wpl_nil ?_
 refine nrm ?_
 refine wpc_ret ?_
 refine outRw ?_
 intro we hpd
 replace S4:= St.pd S4 hpd
 have e0:= sI0 hm
 subst e0
 exact outR [_] rfl ⟨rfl,trivial⟩ ⟨_,L0,S4,rfl⟩
def m_hash_Mix_2 (a0 : Int) (a1 : UInt64) (k0 : UInt64) : Option (UInt64 × UInt64) :=
 obind (m_field_Add a1 k0) fun x1 =>
 some (x1,k0)
theorem w_hash_Mix_2 {m : Mem} {As : List Ow} {w : World} {a0 : Int} {a1 : UInt64} {kb0 : Nat} {k0 : UInt64} {r : UInt64 × UInt64} (S : St m ((bx kb0 [vU k0] 22) :: As) w) (hm : m_hash_Mix_2 a0 a1 k0 = some r) :
  CallsR Tryz.prog 181 #[vI a0,vU a1,pt kb0 0] w fun v w'=> ∃ (M : Mem),m ≤ M ∧ St M ((bx kb0 [vU r.2] 22) :: As) w' ∧ v = vU r.1:= by
 unfold m_hash_Mix_2 at hm
 have L0:= Mem.rfl' m
 refine callsR (args:= [vI a0,vU a1,pt kb0 0]) Tryz.func181 rfl Tryz.ntmps181 (Nat.le_of_ble_eq_true rfl) ?_
 refine wpc_seq ?_
 refine wpc_region ?_
 refine s_asv (v:= vU 0) rfl ?_
 refine wpl_nil ?_
 refine nrm ?_
 refine wpc_seq ?_
 refine wpc_region ?_
 refine s_mvv (v:= vU a1) rfl ?_
 refine s_ld (i:= 0) (cs:= [vU k0]) S rfl rfl Tryz.isAgg22 Tryz.sizeOf22 rfl (fun _=> rfl) ?_
 obtain ⟨x1,q1,hm⟩:= oY0 hm
 refine s_call Tryz.call150 (v_field_Add (a0:= a1) (a1:= k0) S  q1) rfl ?_
 rintro _ w1 ⟨m1,l1,S1,rfl⟩
 replace L0:= Mem.tr L0 l1
 clear S
 replace S1 : St _ ((bx kb0 [vU k0] 22) :: As) _:= S1
 refine s_asv (v:= vU x1) rfl ?_
 refine wpl_nil ?_
 refine nrm ?_
 refine wpc_ret ?_
 refine outRw ?_
 intro we hpd
 replace S1:= St.pd S1 hpd
 have e0:= sI0 hm
 subst e0
 exact outR [_] rfl ⟨rfl,trivial⟩ ⟨_,L0,S1,rfl⟩
def m_hash_Mix_b4  (i1 : Int) (s1 : UInt64 × UInt64 × UInt64) : Option (UInt64 × UInt64 × UInt64) :=
 obind (m_hash_state_each s1 (fun (s2 : Int × UInt64) (b7 : Int) (b8 : UInt64)=> obind (m_hash_Mix_1 b7 b8 ((s2).1) ((s2).2)) fun x4=> some (x4.1,(x4.2.1,x4.2.2))) ((i1 : Int),0)) fun x5 =>
 obind (m_hash_state_each x5.1 (fun (s3 : UInt64) (b9 : Int) (b10 : UInt64)=> obind (m_hash_Mix_2 b9 b10 s3) fun x6=> some (x6.1,x6.2)) x5.2.2) fun x7 =>
 some (x7.1.1,x7.1.2.1,x7.1.2.2)
def m_hash_Mix (a0 : UInt64 × UInt64 × UInt64) : Option (UInt64 × UInt64 × UInt64) :=
 obind (
  obind (eachN0 m_hash_Mix_b4 8 0 (a0.1,a0.2.1,a0.2.2)) fun x2 =>
  some (x2.1,x2.2.1,x2.2.2)
 ) fun x1 =>
 some x1
theorem w_hash_Mix {m : Mem} {As : List Ow} {w : World} {a0 : UInt64 × UInt64 × UInt64} {r : UInt64 × UInt64 × UInt64} (S : St m (As) w) (hm : m_hash_Mix a0 = some r) :
  CallsR Tryz.prog 151 #[.agg #[vU a0.1,vU a0.2.1,vU a0.2.2]] w fun v w'=> ∃ (M : Mem),m ≤ M ∧ St M (As) w' ∧ v = .agg #[vU r.1,vU r.2.1,vU r.2.2]:= by
 unfold m_hash_Mix at hm
 have L0:= Mem.rfl' m
 refine callsR (args:= [.agg #[vU a0.1,vU a0.2.1,vU a0.2.2]]) Tryz.func151 rfl Tryz.ntmps151 (Nat.le_of_ble_eq_true rfl) ?_
 refine wpc_seq ?_
 refine wpc_region ?_
 refine s_box S rfl ?_
 intro b1 w1 S1
 replace S1 : St _ ((bx b1 [vU a0.1,vU a0.2.1,vU a0.2.2] 150) :: As) _:= S1
 clear S
 refine s_alloc S1 Tryz.zeroValue150 ?_
 intro b2 w2 S2
 replace S2 : St _ ((bx b2 [vU 0,vU 0,vU 0] 150) :: (bx b1 [vU a0.1,vU a0.2.1,vU a0.2.2] 150) :: As) _:= S2
 clear S1
 refine wpl_nil ?_
 refine nrm ?_
 refine wpc_seq ?_
 refine wpc_region ?_
 refine s_ld (i:= 1) (cs:= [vU a0.1,vU a0.2.1,vU a0.2.2]) S2 rfl rfl Tryz.isAgg150 Tryz.sizeOf150 rfl (fun h=> by cases h) ?_
 refine s_alloc S2 Tryz.zeroValue179 ?_
 intro b3 w3 S3
 replace S3 : St _ ((bx b3 [vU 0,vU 0,vU 0] 179) :: (bx b2 [vU 0,vU 0,vU 0] 150) :: (bx b1 [vU a0.1,vU a0.2.1,vU a0.2.2] 150) :: As) _:= S3
 clear S2
 refine s_stL (i:= 0) S3 rfl rfl rfl Tryz.sizeOf179 (oneC rfl (oneC rfl (oneC rfl oneN))) rfl ?_
 intro w4 S4
 replace S4 : St _ ((bx b3 [vU a0.1,vU a0.2.1,vU a0.2.2] 179) :: (bx b2 [vU 0,vU 0,vU 0] 150) :: (bx b1 [vU a0.1,vU a0.2.1,vU a0.2.2] 150) :: As) _:= S4
 clear S3
 refine wpl_nil ?_
 refine nrm ?_
 obtain ⟨x1,q1,hm⟩:= oY0 hm
 have L1:= Mem.rfl' m
 refine wpc_seq ?_
 refine wpc_join [4,5,7,8,9,10,11,12,13,14] (fun f' w'=> ∃ (M1 : Mem),m ≤ M1 ∧ St M1 ((bx b3 [vU x1.1,vU x1.2.1,vU x1.2.2] 179) :: (bx b2 [vU 0,vU 0,vU 0] 150) :: (bx b1 [vU a0.1,vU a0.2.1,vU a0.2.2] 150) :: As) w' ∧ AllAt f' []) ?_ ?_
 ·refine wpc_seq ?_
  refine wpc_region ?_
  refine s_mvv (v:= vI 0) rfl ?_
  refine wpl_nil ?_
  refine nrm ?_
  obtain ⟨x2,q2,q1⟩:= oY0 q1
  have L2:= Mem.rfl' m
  refine wpc_join [4,5,7,8,9,10,11,12,13,14] (fun f' w'=> ∃ (M2 : Mem),m ≤ M2 ∧ St M2 ((bx b3 [vU x2.1,vU x2.2.1,vU x2.2.2] 179) :: (bx b2 [vU 0,vU 0,vU 0] 150) :: (bx b1 [vU a0.1,vU a0.2.1,vU a0.2.2] 150) :: As) w' ∧ AllAt f' []) ?_ ?_
  ·refine wpc_block ?_
   refine wpc_rounds [4,5,7,8,9,10,11,12,13,14] (fun n1 f' w'=> ∃ (i1 : Nat) (s1 : UInt64 × UInt64 × UInt64) (m10 : Mem),n1 = 8 - i1 ∧ i1 ≤ 8 ∧ eachN0 m_hash_Mix_b4 (8 - i1) (i1 : Int) s1 = some x2 ∧ m ≤ m10 ∧ St m10 ((bx b3 [vU s1.1,vU s1.2.1,vU s1.2.2] 179) :: (bx b2 [vU 0,vU 0,vU 0] 150) :: (bx b1 [vU a0.1,vU a0.2.1,vU a0.2.2] 150) :: As) w' ∧ AllAt f' [(7,vI (i1 : Int))]) 8 ⟨0,(a0.1,a0.2.1,a0.2.2),m,rfl,Nat.zero_le _,q2,L2,S4,⟨rfl,trivial⟩⟩ ?_
   rintro n1 f1 w5 ho ⟨i1,s1,m1,hn,hi,q3,L4,S5,ha⟩
   obtain ⟨u1,rfl⟩:= fr_of (N:= 16) ho ha
   clear ho ha
   have L3:= Mem.rfl' m1
   clear S4
   refine wpc_seq ?_
   refine wpc_region ?_
   refine s_lss (m:= (i1 : Int)) (n:= 8) rfl rfl ?_
   refine wpl_nil ?_
   refine nrm ?_
   refine wpc_seq ?_
   refine wpc_if (t:= decide ((i1 : Int) < (8 : Int))) rfl (fun hc1=> ?_) (fun hc1=> ?_)
   ·have hlt1 : i1 < 8:= by have:= of_decide_eq_true hc1; omega
    obtain ⟨y1,q5,q4⟩:= eachN0_in q3 hlt1
    unfold m_hash_Mix_b4 at q5
    refine wpc_skip ?_
    refine nrm ?_
    refine wpc_seq ?_
    refine wpc_block ?_
    refine wpc_seq ?_
    refine wpc_region ?_
    refine s_mvv (v:= vI (i1 : Int)) rfl ?_
    refine s_alloc S5 Tryz.zeroValue3 ?_
    intro b5 w6 S6
    replace S6 : St _ ((bx b5 [vI 0] 3) :: (bx b3 [vU s1.1,vU s1.2.1,vU s1.2.2] 179) :: (bx b2 [vU 0,vU 0,vU 0] 150) :: (bx b1 [vU a0.1,vU a0.2.1,vU a0.2.2] 150) :: As) _:= S6
    clear S5
    refine s_stL (i:= 0) S6 rfl rfl rfl Tryz.sizeOf3 (oneC rfl oneN) rfl ?_
    intro w7 S7
    replace S7 : St _ ((bx b5 [vI (i1 : Int)] 3) :: (bx b3 [vU s1.1,vU s1.2.1,vU s1.2.2] 179) :: (bx b2 [vU 0,vU 0,vU 0] 150) :: (bx b1 [vU a0.1,vU a0.2.1,vU a0.2.2] 150) :: As) _:= S7
    clear S6
    refine wpl_nil ?_
    refine nrm ?_
    refine wpc_seq ?_
    refine wpc_region ?_
    refine s_alloc S7 Tryz.zeroValue22 ?_
    intro b6 w8 S8
    replace S8 : St _ ((bx b6 [vU 0] 22) :: (bx b5 [vI (i1 : Int)] 3) :: (bx b3 [vU s1.1,vU s1.2.1,vU s1.2.2] 179) :: (bx b2 [vU 0,vU 0,vU 0] 150) :: (bx b1 [vU a0.1,vU a0.2.1,vU a0.2.2] 150) :: As) _:= S8
    clear S7
    refine wpl_nil ?_
    refine nrm ?_
    refine wpc_seq ?_
    refine wpc_region ?_
    refine s_funcC (caps:= [pt b5 0,pt b6 0]) rfl ?_
    have hcb1 : ∀ {m' : Mem} {As' : List Ow} {w' : World} {s : Int × UInt64} {X : List Ow} {b0 : Int} {b1 : UInt64} {r : UInt64 × (Int × UInt64)},St m' (X ++ As') w' → (X = [bx b5 [vI ((s).1)] 3,bx b6 [vU ((s).2)] 22]) → (fun (s2 : Int × UInt64) (b7 : Int) (b8 : UInt64)=> obind (m_hash_Mix_1 b7 b8 ((s2).1) ((s2).2)) fun x4=> some (x4.1,(x4.2.1,x4.2.2))) s b0 b1 = some r → CallV Tryz.prog (.func (.func 179) #[] #[pt b5 0,pt b6 0]) [vI b0,vU b1] w' fun v w''=> ∃ (M : Mem) (X' : List Ow),m' ≤ M ∧ St M (X' ++ As') w'' ∧ (X' = [bx b5 [vI ((r.2).1)] 3,bx b6 [vU ((r.2).2)] 22]) ∧ v = vU r.1:= by
     intro m2 As1 w9 s2 X1 b7 b8 r1 S9 h1 hm1
     subst h1
     replace S9 : St _ ((bx b5 [vI ((s2).1)] 3) :: (bx b6 [vU ((s2).2)] 22) :: As1) _:= S9
     have L5:= Mem.rfl' m2
     obtain ⟨x4,q7,hm1⟩:= oY0 hm1
     refine CallV.mono (CallV.clo (pre:= []) Tryz.call179 rfl (w_hash_Mix_1 (a0:= b7) (a1:= b8) (k0:= ((s2).1)) (k1:= ((s2).2)) S9  q7)) ?_
     rintro _ w10 ⟨m3,l1,S10,rfl⟩
     replace L5:= Mem.tr L5 l1
     clear S9
     replace S10 : St _ ((bx b5 [vI x4.2.1] 3) :: (bx b6 [vU x4.2.2] 22) :: As1) _:= S10
     have e0:= sI0 hm1
     subst e0
     exact ⟨_,[bx b5 [vI x4.2.1] 3,bx b6 [vU x4.2.2] 22],L5,S10,rfl,rfl⟩
    have S11 : St _ ((bx b3 [vU s1.1,vU s1.2.1,vU s1.2.2] 179) :: (bx b5 [vI (i1 : Int)] 3) :: (bx b6 [vU 0] 22) :: (bx b2 [vU 0,vU 0,vU 0] 150) :: (bx b1 [vU a0.1,vU a0.2.1,vU a0.2.2] 150) :: As) _:= St.perm S8 (List.Perm.trans (List.Perm.cons _ (List.Perm.swap _ _ _)) (List.Perm.trans (List.Perm.swap _ _ _) (List.Perm.cons _ (List.Perm.swap _ _ _))))
    clear S8
    obtain ⟨x5,q8,q5⟩:= oY0 q5
    refine s_call Tryz.call178 (w_hash_state_each (a0:= s1) (p1:= (fun (s2 : Int × UInt64) (b7 : Int) (b8 : UInt64)=> obind (m_hash_Mix_1 b7 b8 ((s2).1) ((s2).2)) fun x4=> some (x4.1,(x4.2.1,x4.2.2)))) (s0:= ((i1 : Int),0)) (R:= (fun (s : Int × UInt64) (M : Mem) (X : List Ow)=> (X = [bx b5 [vI ((s).1)] 3,bx b6 [vU ((s).2)] 22]))) (X0:= [bx b5 [vI (i1 : Int)] 3,bx b6 [vU 0] 22]) (As:= (bx b2 [vU 0,vU 0,vU 0] 150) :: (bx b1 [vU a0.1,vU a0.2.1,vU a0.2.2] 150) :: As) S11 (fun {_ _ _ _} _ h=> h) rfl @hcb1 rfl q8) rfl ?_
    rintro _ w11 ⟨m4,l2,X2,S12,rfl,rfl⟩
    replace L3:= Mem.tr L3 l2
    clear S11
    replace S12 : St _ ((bx b3 [vU x5.1.1,vU x5.1.2.1,vU x5.1.2.2] 179) :: (bx b5 [vI x5.2.1] 3) :: (bx b6 [vU x5.2.2] 22) :: (bx b2 [vU 0,vU 0,vU 0] 150) :: (bx b1 [vU a0.1,vU a0.2.1,vU a0.2.2] 150) :: As) _:= S12
    refine wpl_nil ?_
    refine nrm ?_
    refine wpc_region ?_
    refine s_funcC (caps:= [pt b6 0]) rfl ?_
    have hcb2 : ∀ {m' : Mem} {As' : List Ow} {w' : World} {s : UInt64} {X : List Ow} {b0 : Int} {b1 : UInt64} {r : UInt64 × UInt64},St m' (X ++ As') w' → (X = [bx b6 [vU (s)] 22]) → (fun (s3 : UInt64) (b9 : Int) (b10 : UInt64)=> obind (m_hash_Mix_2 b9 b10 s3) fun x6=> some (x6.1,x6.2)) s b0 b1 = some r → CallV Tryz.prog (.func (.func 181) #[] #[pt b6 0]) [vI b0,vU b1] w' fun v w''=> ∃ (M : Mem) (X' : List Ow),m' ≤ M ∧ St M (X' ++ As') w'' ∧ (X' = [bx b6 [vU (r.2)] 22]) ∧ v = vU r.1:= by
     intro m5 As2 w12 s3 X3 b9 b10 r2 S13 h2 hm2
     subst h2
     replace S13 : St _ ((bx b6 [vU s3] 22) :: As2) _:= S13
     have L6:= Mem.rfl' m5
     obtain ⟨x6,q9,hm2⟩:= oY0 hm2
     refine CallV.mono (CallV.clo (pre:= []) Tryz.call181 rfl (w_hash_Mix_2 (a0:= b9) (a1:= b10) (k0:= s3) S13  q9)) ?_
     rintro _ w13 ⟨m6,l3,S14,rfl⟩
     replace L6:= Mem.tr L6 l3
     clear S13
     replace S14 : St _ ((bx b6 [vU x6.2] 22) :: As2) _:= S14
     have e0:= sI0 hm2
     subst e0
     exact ⟨_,[bx b6 [vU x6.2] 22],L6,S14,rfl,rfl⟩
    have S15 : St _ ((bx b3 [vU x5.1.1,vU x5.1.2.1,vU x5.1.2.2] 179) :: (bx b6 [vU x5.2.2] 22) :: (bx b5 [vI x5.2.1] 3) :: (bx b2 [vU 0,vU 0,vU 0] 150) :: (bx b1 [vU a0.1,vU a0.2.1,vU a0.2.2] 150) :: As) _:= St.perm S12 (List.Perm.cons _ (List.Perm.swap _ _ _))
    clear S12
    obtain ⟨x7,q10,q5⟩:= oY0 q5
    refine s_call Tryz.call178 (w_hash_state_each (a0:= x5.1) (p1:= (fun (s3 : UInt64) (b9 : Int) (b10 : UInt64)=> obind (m_hash_Mix_2 b9 b10 s3) fun x6=> some (x6.1,x6.2))) (s0:= x5.2.2) (R:= (fun (s : UInt64) (M : Mem) (X : List Ow)=> (X = [bx b6 [vU (s)] 22]))) (X0:= [bx b6 [vU x5.2.2] 22]) (As:= (bx b5 [vI x5.2.1] 3) :: (bx b2 [vU 0,vU 0,vU 0] 150) :: (bx b1 [vU a0.1,vU a0.2.1,vU a0.2.2] 150) :: As) S15 (fun {_ _ _ _} _ h=> h) rfl @hcb2 rfl q10) rfl ?_
    rintro _ w14 ⟨m7,l4,X4,S16,rfl,rfl⟩
    replace L3:= Mem.tr L3 l4
    clear S15
    replace S16 : St _ ((bx b3 [vU x7.1.1,vU x7.1.2.1,vU x7.1.2.2] 179) :: (bx b6 [vU x7.2] 22) :: (bx b5 [vI x5.2.1] 3) :: (bx b2 [vU 0,vU 0,vU 0] 150) :: (bx b1 [vU a0.1,vU a0.2.1,vU a0.2.2] 150) :: As) _:= S16
    refine wpl_nil ?_
    refine nrmB ?_
    refine nrm ?_
    refine wpc_region ?_
    refine s_addI (m:= (i1 : Int)) (n:= 1) rfl rfl ?_
    refine s_mvv (v:= vI (w64 ((i1 : Int) + 1))) rfl ?_
    refine wpl_nil ?_
    refine nrm ?_
    obtain ⟨m8,l5,S17⟩:= St.drop S16 1
    replace L3:= Mem.tr L3 l5
    clear S16
    replace S17 : St _ ((bx b3 [vU x7.1.1,vU x7.1.2.1,vU x7.1.2.2] 179) :: (bx b5 [vI x5.2.1] 3) :: (bx b2 [vU 0,vU 0,vU 0] 150) :: (bx b1 [vU a0.1,vU a0.2.1,vU a0.2.2] 150) :: As) _:= S17
    obtain ⟨m9,l6,S18⟩:= St.drop S17 1
    replace L3:= Mem.tr L3 l6
    clear S17
    replace S18 : St _ ((bx b3 [vU x7.1.1,vU x7.1.2.1,vU x7.1.2.2] 179) :: (bx b2 [vU 0,vU 0,vU 0] 150) :: (bx b1 [vU a0.1,vU a0.2.1,vU a0.2.2] 150) :: As) _:= S18
    have e0:= sI0 q5
    subst e0
    exact ⟨outP,_,(by omega),⟨i1 + 1,(x7.1.1,x7.1.2.1,x7.1.2.2),m9,rfl,hlt1,q4,Mem.tr L4 L3,S18,⟨congrArg (Value.int .i64) (w64_succ hlt1 (by decide)),trivial⟩⟩⟩
   have hlt1 : ¬ i1 < 8:= by have:= of_decide_eq_false hc1; omega
   have e:= Eq.symm (eachN0_out q3 hlt1)
   subst e
   refine wpc_exit ?_
   refine thE ?_
   refine thE ?_
   refine exB ?_
   refine nrm ?_
   exact ⟨outP,m1,Mem.tr L4 L3,S5,trivial⟩
  rintro f2 w15 ho ⟨m11,l7,S19,ha⟩
  obtain ⟨u2,rfl⟩:= fr_of (N:= 16) ho ha
  clear ho ha
  replace L1:= Mem.tr L1 l7
  clear S4
  have e0:= sI0 q1
  subst e0
  exact ⟨outP,m11,L1,S19,trivial⟩
 rintro f3 w16 ho ⟨m12,l8,S20,ha⟩
 obtain ⟨u3,rfl⟩:= fr_of (N:= 16) ho ha
 replace L0:= Mem.tr L0 l8
 clear S4
 refine wpc_seq ?_
 refine wpc_region ?_
 refine s_ld (i:= 0) (cs:= [vU x1.1,vU x1.2.1,vU x1.2.2]) S20 rfl rfl Tryz.isAgg179 Tryz.sizeOf179 rfl (fun h=> by cases h) ?_
 refine s_stL (i:= 1) S20 rfl rfl rfl Tryz.sizeOf150 (oneC rfl (oneC rfl (oneC rfl oneN))) rfl ?_
 intro w17 S21
 replace S21 : St _ ((bx b3 [vU x1.1,vU x1.2.1,vU x1.2.2] 179) :: (bx b2 [vU x1.1,vU x1.2.1,vU x1.2.2] 150) :: (bx b1 [vU a0.1,vU a0.2.1,vU a0.2.2] 150) :: As) _:= S21
 clear S20
 refine wpl_nil ?_
 refine nrm ?_
 refine wpc_ret ?_
 refine outRw ?_
 intro we hpd
 replace S21:= St.pd S21 hpd
 have SR:= S21
 obtain ⟨m13,l9,S22⟩:= St.drop S21 0
 replace L0:= Mem.tr L0 l9
 replace S22 : St _ ((bx b2 [vU x1.1,vU x1.2.1,vU x1.2.2] 150) :: (bx b1 [vU a0.1,vU a0.2.1,vU a0.2.2] 150) :: As) _:= S22
 obtain ⟨m14,l10,S23⟩:= St.drop S22 0
 replace L0:= Mem.tr L0 l10
 clear S22
 replace S23 : St _ ((bx b1 [vU a0.1,vU a0.2.1,vU a0.2.2] 150) :: As) _:= S23
 obtain ⟨m15,l11,S24⟩:= St.drop S23 0
 replace L0:= Mem.tr L0 l11
 clear S23
 replace S24 : St _ (As) _:= S24
 have e0:= sI0 hm
 subst e0
 exact outR [_] rfl ⟨res_box (i:= 1) (off:= 0) (cs:= [vU x1.1,vU x1.2.1,vU x1.2.2]) SR rfl rfl Tryz.isAgg150 Tryz.sizeOf150 rfl (fun h=> by cases h),trivial⟩ ⟨_,L0,S24,rfl⟩
def m_hash_Sum_b4 (x6 : List UInt64) (i2 : Int) (s2 : UInt64 × UInt64 × UInt64) : Option (UInt64 × UInt64 × UInt64) :=
 obind (idx x6 (i2 : Int)) fun x9 =>
 obind (idx [s2.1,s2.2.1,s2.2.2] (i2 : Int)) fun x10 =>
 obind (m_field_Add x10 x9) fun x11 =>
 obind (idx [s2.1,s2.2.1,s2.2.2] (i2 : Int)) fun x12 =>
 bnd (if (i2 : Int) = 0 then x11 else s2.1) fun x13 =>
 bnd (if (i2 : Int) = 1 then x11 else s2.2.1) fun x14 =>
 bnd (if (i2 : Int) = 2 then x11 else s2.2.2) fun x15 =>
 some (x13,x14,x15)
def m_hash_Sum_b3  (s1 : (List UInt64) × Bool × UInt64 × UInt64 × UInt64) : Option (((List UInt64) × Bool × UInt64 × UInt64 × UInt64) ⊕ (UInt64 × UInt64 × UInt64)) :=
 if (s1.2.1 || (decide ((s1.1.length : Int) > 0))) = true then
  obind (
   obind (cut s1.1 0 (minI 2 (s1.1.length : Int))) fun x6 =>
   obind (eachN0 (m_hash_Sum_b4 x6) x6.length 0 (s1.2.2.1,s1.2.2.2.1,s1.2.2.2.2)) fun x7 =>
   some (x7.1,x7.2.1,x7.2.2)
  ) fun x5 =>
  obind (cut s1.1 (minI 2 (s1.1.length : Int)) (s1.1.length : Int)) fun x16 =>
  obind (m_hash_Mix x5) fun x17 =>
  some (.inl (x16,false,x17.1,x17.2.1,x17.2.2))
 else
 some (.inr (s1.2.2.1,s1.2.2.2.1,s1.2.2.2.2))
def m_hash_Sum (a0 : List UInt8) : Option (UInt64 × UInt64) :=
 obind (m_field_Of a0) fun x1 =>
 obind (
  obind (iter m_hash_Sum_b3 FUEL (x1,true,0,0,(toU (a0.length : Int)))) fun x3 =>
  some (x3.1,x3.2.1,x3.2.2)
 ) fun x2 =>
 some (x2.1,x2.2.1)
theorem w_hash_Sum {m : Mem} {As : List Ow} {w : World} {a0 : List UInt8} {a0v0 : Value} {r : UInt64 × UInt64} (S : St m (As) w) (a0h0 : SlR m a0v0 a0) (hm : m_hash_Sum a0 = some r) :
  CallsR Tryz.prog 110 #[a0v0] w fun v w'=> ∃ (M : Mem),m ≤ M ∧ St M (As) w' ∧ v = .agg #[vU r.1,vU r.2]:= by
 unfold m_hash_Sum at hm
 have L0:= Mem.rfl' m
 refine callsR (args:= [a0v0]) Tryz.func110 rfl Tryz.ntmps110 (Nat.le_of_ble_eq_true rfl) ?_
 refine wpc_seq ?_
 refine wpc_region ?_
 refine s_alloc S Tryz.zeroValue38 ?_
 intro b1 w1 S1
 replace S1 : St _ ((bx b1 [vU 0,vU 0] 38) :: As) _:= S1
 clear S
 refine wpl_nil ?_
 refine nrm ?_
 refine wpc_seq ?_
 refine wpc_region ?_
 refine s_mvv (v:= a0v0) rfl ?_
 refine s_lenR (xs:= a0) rfl a0h0 Tryz.underlying34 ?_
 refine s_convU rfl Tryz.underlying3 Tryz.underlying22 ?_
 refine s_build (parts:= [(2,.tmp 11)]) (ps:= [(2,vU (toU (a0.length : Int)),[vU (toU (a0.length : Int))])]) (cs:= [vU 0,vU 0,vU (toU (a0.length : Int))]) Tryz.zeroValue150 (BuildPl.arr Tryz.underlying150 Tryz.sizeOf22) rfl ⟨rfl,trivial⟩ rfl ?_
 refine s_alloc S1 Tryz.zeroValue150 ?_
 intro b2 w2 S2
 replace S2 : St _ ((bx b2 [vU 0,vU 0,vU 0] 150) :: (bx b1 [vU 0,vU 0] 38) :: As) _:= S2
 clear S1
 refine s_stL (i:= 0) S2 rfl rfl rfl Tryz.sizeOf150 (oneC rfl (oneC rfl (oneC rfl oneN))) rfl ?_
 intro w3 S3
 replace S3 : St _ ((bx b2 [vU 0,vU 0,vU (toU (a0.length : Int))] 150) :: (bx b1 [vU 0,vU 0] 38) :: As) _:= S3
 clear S2
 refine wpl_nil ?_
 refine nrm ?_
 refine wpc_seq ?_
 refine wpc_region ?_
 refine s_mvv (v:= a0v0) rfl ?_
 obtain ⟨x1,q1,hm⟩:= oY0 hm
 refine s_call Tryz.call149 (w_field_Of (a0:= a0) S3 a0h0 q1) rfl ?_
 rintro v1 w4 ⟨m1,l1,_,c1,S4,rfl,h1⟩
 replace a0h0:= a0h0.up l1
 replace L0:= Mem.tr L0 l1
 clear S3
 replace S4 : St _ ((row 1 v1 c1 x1.length) :: (bx b2 [vU 0,vU 0,vU (toU (a0.length : Int))] 150) :: (bx b1 [vU 0,vU 0] 38) :: As) _:= S4
 refine s_asv (v:= v1) rfl ?_
 refine wpl_nil ?_
 refine nrm ?_
 obtain ⟨x2,q2,hm⟩:= oY0 hm
 have L1:= Mem.rfl' m1
 refine wpc_seq ?_
 refine wpc_join [4,5,6,7,8,15,16,17,18,19,20,21,22,23,24,25,26,27,28,29,30,31,32,33,34,35,36,37,38,39,40,41,42,43,44,45] (fun f' w'=> ∃ (M1 : Mem),m1 ≤ M1 ∧ St M1 ((bx b2 [vU x2.1,vU x2.2.1,vU x2.2.2] 150) :: (bx b1 [vU 0,vU 0] 38) :: As) w' ∧ AllAt f' []) ?_ ?_
 ·refine wpc_seq ?_
  refine wpc_region ?_
  refine s_asv (v:= vb true) rfl ?_
  refine wpl_nil ?_
  refine nrm ?_
  obtain ⟨x3,q3,q2⟩:= oY0 q2
  have L2:= Mem.rfl' m1
  obtain ⟨m2,l2,h3,S5⟩:= St.rowKeepT (i:= 0) S4 rfl h1 rfl
  replace L2:= Mem.tr L2 l2
  clear S4
  refine wpc_join [4,5,6,7,8,15,16,17,18,19,20,21,22,23,24,25,26,27,28,29,30,31,32,33,34,35,36,37,38,39,40,41,42,43,44,45] (fun f' w'=> ∃ (M2 : Mem),m1 ≤ M2 ∧ St M2 ((bx b2 [vU x3.1,vU x3.2.1,vU x3.2.2] 150) :: (bx b1 [vU 0,vU 0] 38) :: As) w' ∧ AllAt f' []) ?_ ?_
  ·refine wpc_block ?_
   refine wpc_rounds [4,5,6,7,8,15,16,17,18,19,20,21,22,23,24,25,26,27,28,29,30,31,32,33,34,35,36,37,38,39,40,41,42,43,44,45] (fun n1 f' w'=> ∃ (s1 : (List UInt64) × Bool × UInt64 × UInt64 × UInt64) (m10 : Mem) (v2 : Value),iter m_hash_Sum_b3 n1 s1 = some x3 ∧ m1 ≤ m10 ∧ St m10 ((bx b2 [vU s1.2.2.1,vU s1.2.2.2.1,vU s1.2.2.2.2] 150) :: (bx b1 [vU 0,vU 0] 38) :: As) w' ∧ SlR m10 v2 s1.1 ∧ AllAt f' [(4,v2),(5,vb s1.2.1)]) FUEL ⟨(x1,true,0,0,(toU (a0.length : Int))),m2,_,q3,L2,S5,h3,⟨rfl,rfl,trivial⟩⟩ ?_
   rintro n1 f1 w5 ho ⟨s1,m3,v2,q4,L4,S6,h2,ha⟩
   obtain ⟨u1,rfl⟩:= fr_of (N:= 49) ho ha
   clear ho ha
   have L3:= Mem.rfl' m3
   clear S5
   cases n1 with
   | zero=> exact (iter_zero q4).elim
   | succ n1 =>
    obtain ⟨y1,q6,q5⟩:= iter_succ q4
    unfold m_hash_Sum_b3 at q6
    refine wpc_seq ?_
    refine wpc_seq ?_
    refine wpc_region ?_
    refine s_mvv (v:= vb s1.2.1) rfl ?_
    refine s_mvv (v:= vb s1.2.1) rfl ?_
    refine wpl_cut 4 [17,18,19,20] (fun f' w'=> w' = w5 ∧ AllAt f' [(20,vb (s1.2.1 || (decide ((s1.1.length : Int) > 0))))]) ?_ ?_
    ·rcases bool_tf s1.2.1 with hb1 | hb1
     ·refine wpl_no (d:= 16) rfl rfl (congrArg Value.bool hb1) ?_
      refine wpl_no (d:= 16) rfl rfl (congrArg Value.bool hb1) ?_
      refine wpl_no (d:= 16) rfl rfl (congrArg Value.bool hb1) ?_
      refine s_pickT (congrArg Value.bool hb1) rfl ?_
      exact wpl_nil (nrm ⟨outP,rfl,congrArg Value.bool (or_t hb1),trivial⟩)
     ·refine wpl_yes (d:= 16) rfl rfl (congrArg Value.bool hb1) ?_
      refine s_mvv (v:= v2) rfl ?_
      refine wpl_yes (d:= 16) rfl rfl (congrArg Value.bool hb1) ?_
      refine s_lenR (xs:= s1.1) rfl h2 Tryz.underlying112 ?_
      refine wpl_yes (d:= 16) rfl rfl (congrArg Value.bool hb1) ?_
      refine s_gtr (m:= (s1.1.length : Int)) (n:= 0) rfl rfl ?_
      refine s_pickF (congrArg Value.bool hb1) rfl ?_
      exact wpl_nil (nrm ⟨outP,rfl,congrArg Value.bool (or_f hb1),trivial⟩)
    rintro f2 w6 ho ⟨h4,ha⟩
    subst h4
    obtain ⟨u2,rfl⟩:= fr_of (N:= 49) ho ha
    refine wpl_nil ?_
    refine nrm ?_
    refine wpc_if (t:= (s1.2.1 || (decide ((s1.1.length : Int) > 0)))) rfl (fun hc1=> ?_) (fun hc1=> ?_)
    ·replace q6:= ifT hc1 q6
     refine wpc_skip ?_
     refine nrm ?_
     refine wpc_seq ?_
     refine wpc_block ?_
     refine wpc_seq ?_
     refine wpc_region ?_
     refine s_mvv (v:= v2) rfl ?_
     refine s_lenR (xs:= s1.1) rfl h2 Tryz.underlying112 ?_
     refine s_minI (m:= 2) rfl rfl ?_
     refine s_asv (v:= vI (minI 2 (s1.1.length : Int))) rfl ?_
     refine wpl_nil ?_
     refine nrm ?_
     obtain ⟨x5,q8,q6⟩:= oY0 q6
     have L5:= Mem.rfl' m3
     refine wpc_seq ?_
     refine wpc_join [7,8,24,25,26,27,28,29,30,31,32,33,34,35,36,37,38,39,40] (fun f' w'=> ∃ (M3 : Mem),m3 ≤ M3 ∧ St M3 ((bx b2 [vU x5.1,vU x5.2.1,vU x5.2.2] 150) :: (bx b1 [vU 0,vU 0] 38) :: As) w' ∧ AllAt f' []) ?_ ?_
     ·refine wpc_seq ?_
      refine wpc_region ?_
      refine s_mvv (v:= v2) rfl ?_
      refine s_mvv (v:= vI (minI 2 (s1.1.length : Int))) rfl ?_
      obtain ⟨x6,q9,q8⟩:= oY0 q8
      refine s_cut (ys:= x6) (l:= 0) (h:= (minI 2 (s1.1.length : Int))) rfl h2 Tryz.underlying112 Tryz.sizeOf22 (.inl ⟨rfl,rfl⟩) (.inr ⟨_,rfl⟩) (.inl rfl) q9 ?_
      intro v3 h5
      refine s_lenR (xs:= x6) rfl h5 Tryz.underlying112 ?_
      refine s_mvv (v:= vI 0) rfl ?_
      refine wpl_nil ?_
      refine nrm ?_
      obtain ⟨x7,q10,q8⟩:= oY0 q8
      have L6:= Mem.rfl' m3
      refine wpc_join [7,8,28,29,30,31,32,33,34,35,36,37,38,39,40] (fun f' w'=> ∃ (M4 : Mem),m3 ≤ M4 ∧ St M4 ((bx b2 [vU x7.1,vU x7.2.1,vU x7.2.2] 150) :: (bx b1 [vU 0,vU 0] 38) :: As) w' ∧ AllAt f' []) ?_ ?_
      ·refine wpc_block ?_
       refine wpc_rounds [7,8,28,29,30,31,32,33,34,35,36,37,38,39,40] (fun n2 f' w'=> ∃ (i2 : Nat) (s2 : UInt64 × UInt64 × UInt64) (m6 : Mem),n2 = x6.length - i2 ∧ i2 ≤ x6.length ∧ eachN0 (m_hash_Sum_b4 x6) (x6.length - i2) (i2 : Int) s2 = some x7 ∧ m3 ≤ m6 ∧ St m6 ((bx b2 [vU s2.1,vU s2.2.1,vU s2.2.2] 150) :: (bx b1 [vU 0,vU 0] 38) :: As) w' ∧ AllAt f' [(28,vI (i2 : Int))]) x6.length ⟨0,(s1.2.2.1,s1.2.2.2.1,s1.2.2.2.2),m3,rfl,Nat.zero_le _,q10,L6,S6,⟨rfl,trivial⟩⟩ ?_
       rintro n2 f3 w7 ho ⟨i2,s2,m4,hn,hi,q11,L8,S7,ha⟩
       obtain ⟨u3,rfl⟩:= fr_of (N:= 49) ho ha
       clear ho ha
       replace h2:= h2.up L8
       replace h5:= h5.up L8
       have L7:= Mem.rfl' m4
       clear S6
       refine wpc_seq ?_
       refine wpc_region ?_
       refine s_lss (m:= (i2 : Int)) (n:= (x6.length : Int)) rfl rfl ?_
       refine wpl_nil ?_
       refine nrm ?_
       refine wpc_seq ?_
       refine wpc_if (t:= decide ((i2 : Int) < (x6.length : Int))) rfl (fun hc2=> ?_) (fun hc2=> ?_)
       ·have hlt2 : i2 < x6.length:= by have:= of_decide_eq_true hc2; omega
        obtain ⟨y2,q13,q12⟩:= eachN0_in q11 hlt2
        unfold m_hash_Sum_b4 at q13
        refine wpc_skip ?_
        refine nrm ?_
        refine wpc_seq ?_
        refine wpc_block ?_
        refine wpc_seq ?_
        refine wpc_region ?_
        refine s_mvv (v:= vI (i2 : Int)) rfl ?_
        obtain ⟨x9,q15,q13⟩:= oY0 q13
        refine s_idx (q:= x9) rfl rfl h5 q15 Tryz.underlying112 Tryz.sizeOf22 ?_
        intro p1 c2 h6 r2
        obtain rfl : c2 = [vU x9]:= r2
        refine s_ldM (cs:= [vU x9]) S7 rfl h6 rfl Tryz.isAgg22 Tryz.sizeOf22 (fun _=> rfl) ?_
        refine s_asv (v:= vI (i2 : Int)) rfl ?_
        refine s_asv (v:= vU x9) rfl ?_
        refine wpl_nil ?_
        refine nrm ?_
        refine wpc_region ?_
        refine s_mvv (v:= vI (i2 : Int)) rfl ?_
        refine s_mvv (v:= vI (i2 : Int)) rfl ?_
        obtain ⟨x10,q16,q13⟩:= oY0 q13
        refine s_idxA (i:= (i2 : Int)) rfl rfl Tryz.underlying150 Tryz.sizeOf22 (idx_rng q16).1 (idx_rng q16).2 ?_
        refine s_ld (i:= 0) (off:= 0 + (i2 : Int).toNat * 1) (cs:= [vU x10]) S7 rfl rfl Tryz.isAgg22 Tryz.sizeOf22 (by rcases idx3 q16 with ⟨h,h'⟩ | ⟨h,h'⟩ | ⟨h,h'⟩ <;> (rw [h,h']; rfl)) (fun _=> rfl) ?_
        refine s_mvv (v:= vU x9) rfl ?_
        obtain ⟨x11,q17,q13⟩:= oY0 q13
        refine s_call Tryz.call150 (v_field_Add (a0:= x10) (a1:= x9) S7  q17) rfl ?_
        rintro _ w8 ⟨m5,l3,S8,rfl⟩
        replace h2:= h2.up l3
        replace h5:= h5.up l3
        replace L7:= Mem.tr L7 l3
        clear S7
        replace S8 : St _ ((bx b2 [vU s2.1,vU s2.2.1,vU s2.2.2] 150) :: (bx b1 [vU 0,vU 0] 38) :: As) _:= S8
        obtain ⟨x12,q18,q13⟩:= oY0 q13
        refine s_idxA (i:= (i2 : Int)) rfl rfl Tryz.underlying150 Tryz.sizeOf22 (idx_rng q18).1 (idx_rng q18).2 ?_
        obtain ⟨x13,q19,q13⟩:= bnd_eq q13
        obtain ⟨x14,q20,q13⟩:= bnd_eq q13
        obtain ⟨x15,q21,q13⟩:= bnd_eq q13
        refine s_st (i:= 0) (off:= 0 + (i2 : Int).toNat * 1) S8 rfl rfl rfl Tryz.sizeOf22 (OneL.all (oneC rfl oneN)) (by rcases idx3 q18 with ⟨h,h'⟩ | ⟨h,h'⟩ | ⟨h,h'⟩ <;> (rw [h]; exact Nat.le_of_ble_eq_true rfl)) ?_
        intro w9 S9
        replace S9:= St.cellsTo (i:= 0) (l':= [vU x13,vU x14,vU x15]) S9 (by rcases idx3 q18 with ⟨h,h'⟩ | ⟨h,h'⟩ | ⟨h,h'⟩ <;> (simp only [q19,q20,q21,h]; rfl)) rfl
        replace S9 : St _ ((bx b2 [vU x13,vU x14,vU x15] 150) :: (bx b1 [vU 0,vU 0] 38) :: As) _:= S9
        clear S8
        refine wpl_nil ?_
        refine nrmB ?_
        refine nrm ?_
        refine wpc_region ?_
        refine s_addI (m:= (i2 : Int)) (n:= 1) rfl rfl ?_
        refine s_mvv (v:= vI (w64 ((i2 : Int) + 1))) rfl ?_
        refine wpl_nil ?_
        refine nrm ?_
        have e0:= sI0 q13
        subst e0
        exact ⟨outP,_,(by omega),⟨i2 + 1,(x13,x14,x15),m5,rfl,hlt2,q12,Mem.tr L8 L7,S9,⟨congrArg (Value.int .i64) (w64_succ hlt2 (SlR.le h5)),trivial⟩⟩⟩
       have hlt2 : ¬ i2 < x6.length:= by have:= of_decide_eq_false hc2; omega
       have e:= Eq.symm (eachN0_out q11 hlt2)
       subst e
       refine wpc_exit ?_
       refine thE ?_
       refine thE ?_
       refine exB ?_
       refine nrm ?_
       exact ⟨outP,m4,Mem.tr L8 L7,S7,trivial⟩
      rintro f4 w10 ho ⟨m7,l4,S10,ha⟩
      obtain ⟨u4,rfl⟩:= fr_of (N:= 49) ho ha
      clear ho ha
      replace h2:= h2.up l4
      replace L5:= Mem.tr L5 l4
      clear S6
      have e0:= sI0 q8
      subst e0
      exact ⟨outP,m7,L5,S10,trivial⟩
     rintro f5 w11 ho ⟨m8,l5,S11,ha⟩
     obtain ⟨u5,rfl⟩:= fr_of (N:= 49) ho ha
     replace h2:= h2.up l5
     replace L3:= Mem.tr L3 l5
     clear S6
     refine wpc_seq ?_
     refine wpc_region ?_
     refine s_mvv (v:= v2) rfl ?_
     refine s_mvv (v:= vI (minI 2 (s1.1.length : Int))) rfl ?_
     obtain ⟨x16,q22,q6⟩:= oY0 q6
     refine s_cut (ys:= x16) (l:= (minI 2 (s1.1.length : Int))) (h:= (s1.1.length : Int)) rfl h2 Tryz.underlying112 Tryz.sizeOf22 (.inr ⟨_,rfl⟩) (.inl ⟨rfl,rfl⟩) (.inl rfl) q22 ?_
     intro v4 h7
     refine s_asv (v:= v4) rfl ?_
     refine wpl_nil ?_
     refine nrm ?_
     refine wpc_region ?_
     refine s_ld (i:= 0) (cs:= [vU x5.1,vU x5.2.1,vU x5.2.2]) S11 rfl rfl Tryz.isAgg150 Tryz.sizeOf150 rfl (fun h=> by cases h) ?_
     obtain ⟨x17,q23,q6⟩:= oY0 q6
     refine s_call Tryz.call151 (w_hash_Mix (a0:= x5) S11  q23) rfl ?_
     rintro _ w12 ⟨m9,l6,S12,rfl⟩
     replace h7:= h7.up l6
     replace L3:= Mem.tr L3 l6
     clear S11
     replace S12 : St _ ((bx b2 [vU x5.1,vU x5.2.1,vU x5.2.2] 150) :: (bx b1 [vU 0,vU 0] 38) :: As) _:= S12
     refine s_stL (i:= 0) S12 rfl rfl rfl Tryz.sizeOf150 (oneC rfl (oneC rfl (oneC rfl oneN))) rfl ?_
     intro w13 S13
     replace S13 : St _ ((bx b2 [vU x17.1,vU x17.2.1,vU x17.2.2] 150) :: (bx b1 [vU 0,vU 0] 38) :: As) _:= S13
     clear S12
     refine wpl_nil ?_
     refine nrmB ?_
     refine nrm ?_
     refine wpc_region ?_
     refine s_asv (v:= vb false) rfl ?_
     refine wpl_nil ?_
     refine nrm ?_
     have e0:= sI0 q6
     subst e0
     rcases q5 with ⟨sn,e,q5'⟩ | e
     ·cases e
      exact ⟨outP,_,Nat.lt_succ_self _,⟨_,m9,_,q5',Mem.tr L4 L3,S13,h7,⟨rfl,rfl,trivial⟩⟩⟩
     ·cases e
    replace q6:= ifF hc1 q6
    refine wpc_exit ?_
    refine thE ?_
    refine thE ?_
    refine exB ?_
    refine nrm ?_
    have e0:= sI0 q6
    subst e0
    rcases q5 with ⟨sn,e,_⟩ | e
    ·cases e
    ·cases e
     exact ⟨outP,m3,Mem.tr L4 L3,S6,trivial⟩
  rintro f6 w14 ho ⟨m11,l7,S14,ha⟩
  obtain ⟨u6,rfl⟩:= fr_of (N:= 49) ho ha
  clear ho ha
  replace L1:= Mem.tr L1 l7
  clear S5
  have e0:= sI0 q2
  subst e0
  exact ⟨outP,m11,L1,S14,trivial⟩
 rintro f7 w15 ho ⟨m12,l8,S15,ha⟩
 obtain ⟨u7,rfl⟩:= fr_of (N:= 49) ho ha
 replace L0:= Mem.tr L0 l8
 clear S4
 refine wpc_seq ?_
 refine wpc_region ?_
 refine s_sliceA (k:= 2) (n:= 3) (sz:= 1) rfl Tryz.underlying150 Tryz.sizeOf22 (.inr ⟨_,rfl⟩) (by decide) ?_
 refine s_toArr rfl Tryz.underlying38 (by decide) ?_
 refine s_ld (i:= 0) (cs:= [vU x2.1,vU x2.2.1]) S15 rfl rfl Tryz.isAgg38 Tryz.sizeOf38 rfl (fun h=> by cases h) ?_
 refine s_stL (i:= 1) S15 rfl rfl rfl Tryz.sizeOf38 (oneC rfl (oneC rfl oneN)) rfl ?_
 intro w16 S16
 replace S16 : St _ ((bx b2 [vU x2.1,vU x2.2.1,vU x2.2.2] 150) :: (bx b1 [vU x2.1,vU x2.2.1] 38) :: As) _:= S16
 clear S15
 refine wpl_nil ?_
 refine nrm ?_
 refine wpc_ret ?_
 refine outRw ?_
 intro we hpd
 replace S16:= St.pd S16 hpd
 have SR:= S16
 obtain ⟨m13,l9,S17⟩:= St.drop S16 0
 replace L0:= Mem.tr L0 l9
 replace S17 : St _ ((bx b1 [vU x2.1,vU x2.2.1] 38) :: As) _:= S17
 obtain ⟨m14,l10,S18⟩:= St.drop S17 0
 replace L0:= Mem.tr L0 l10
 clear S17
 replace S18 : St _ (As) _:= S18
 have e0:= sI0 hm
 subst e0
 exact outR [_] rfl ⟨res_box (i:= 1) (off:= 0) (cs:= [vU x2.1,vU x2.2.1]) SR rfl rfl Tryz.isAgg38 Tryz.sizeOf38 rfl (fun h=> by cases h),trivial⟩ ⟨_,L0,S18,rfl⟩
theorem s_hash_Sum {a0 : List UInt8} {r : UInt64 × UInt64} (hm : m_hash_Sum a0 = some r) : Sf prog 110 [sl eB a0] (ag (e_a2_eU r)) :=
 ⟨call110,fun η m As w vs hv0 hd S=> by
  have S : St m As w:= S
  obtain ⟨v0,u0,rfl,r0,hv1⟩:= RelL.cons_inv hv0
  have f0:= Br.ofS Br.b r0.dd
  obtain rfl:= RelL.nil_inv hv1
  refine CallsR.mono (w_hash_Sum S f0 hm) ?_
  rintro v w' ⟨M,hle,S0,rfl⟩
  exact ⟨M,none0,_,_,_,hle,dom0 hd _,⟨rfl,rfl,rfl⟩,fun n h=> absurd rfl h,(Br.toA b_a2_eU (mk_arr2_UInt64)),S0⟩⟩
end Go.Proofs.YtlnbckkkapbdmaaGreatDoor
