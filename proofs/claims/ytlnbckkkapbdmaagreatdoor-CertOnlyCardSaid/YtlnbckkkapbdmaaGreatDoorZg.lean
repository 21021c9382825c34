/- The walks of some functions, by the executor, written by program. Conditions: none. -/
import Derived.Test.YtlnbckkkapbdmaaGreatDoorZe
import Derived.Test.YtlnbckkkapbdmaaGreatDoorZf
set_option linter.unusedSimpArgs false
set_option linter.unusedVariables false
set_option maxHeartbeats 20000000
set_option maxRecDepth 100000
namespace Go.Proofs.YtlnbckkkapbdmaaGreatDoor
open Go Go.Gw Go.Ax Tryz
def m_hash_Tagged_b2  (i1 : Int) (x4 : List UInt8) (s1 : (List UInt8)) : Option ((List UInt8)) :=
 obind (m_hash_put s1 (toU (x4.length : Int)) 4) fun x5 =>
 obind (app 1 x5 x4) fun x6 =>
 some x6
def m_hash_Tagged (a0 : ByteArray) (a1 : List (List UInt8)) : Option (UInt64 × UInt64) :=
 obind (app 1 ([(toB (a0.size : Int))] : List UInt8) a0.data.toList) fun x1 =>
 obind (
  obind (each0 m_hash_Tagged_b2 a1 0 x1) fun x3 =>
  some x3
 ) fun x2 =>
 obind (m_hash_Sum x2) fun x7 =>
 some x7
theorem w_hash_Tagged {a0 : ByteArray} {a1 : List (List UInt8)} {r : UInt64 × UInt64} (hm : m_hash_Tagged a0 a1 = some r) : Sf prog 59 [.d (.s a0),sl (eL eB) a1] (ag (e_a2_eU r)) :=
 sp call59 func59 rfl ntmps59 rfl fun D0 As η0 m0 hd=> by
  unfold m_hash_Tagged at hm
  refine glit (k:= 1) eB ([(toB (a0.size : Int))] : List UInt8) (fun _=> rfl) (by kernel_rfl) ?_
  obtain ⟨x1,q1,hm⟩:= oY0 hm
  refine gapS q1 (by kernel_rfl) ?_
  obtain ⟨x2,q2,hm⟩:= oY0 hm
  obtain ⟨x3,q3,q2⟩:= oY0 q2
  refine glen 0 (E:= (eL eB)) (xs:= a1) 14 (by kernel_rfl) fun hle1=> ?_
  refine gjU 0 (fun (_ : Unit)=> ⟨[(4,.pb 0 0),(5,.ow 1)],[(0,.row 1 1 _ eB x2),(1,.box 0 [.d (.u 0),.d (.u 0)] 38)],[],2⟩) (fun _=> True) (by kernel_rfl) (fun Jp bk1=> ?_) fun _ _=> ?_
  ·refine gjU 0 (fun (_ : Unit)=> ⟨[(4,.pb 0 0),(5,.ow 1)],[(0,.row 1 1 _ eB x3),(1,.box 0 [.d (.u 0),.d (.u 0)] 38)],[],2⟩) (fun _=> True) (by kernel_rfl) (fun Jp bk2=> ?_) fun _ _=> ?_
   ·refine gl hd (fun (p : Int × ((List UInt8)))=> let (p0,p_0):= p; ⟨[(4,.pb 0 0),(5,.ow 1),(14,sl (eL eB) a1),(15,.d (.i (a1.length : Int))),(16,.d (.i p0))],[(0,.row 1 1 _ eB p_0),(1,.box 0 [.d (.u 0),.d (.u 0)] 38)],[],2⟩) (fun p=> ∃ i : Nat,p.1 = (i : Int) ∧ i ≤ a1.length ∧ each0 m_hash_Tagged_b2 (a1.drop i) (i : Int) p.2 = some x3) (fun p=> a1.length - p.1.toNat) (0,x1) ⟨0,rfl,Nat.zero_le _,q3⟩ (by kernel_rfl) ?_
    rintro ⟨_,s1⟩ ⟨i1,rfl,hi,q4⟩ Jl bl1
    refine gi' (b:= decide ((i1 : Int) < (a1.length : Int))) (by kernel_rfl) (fun hc1=> ?_) fun hc1=> ?_
    ·have hlt1 : i1 < a1.length:= by have:= of_decide_eq_true hc1; omega
     obtain ⟨x4,y1,q7,q6,q5⟩:= each0_in q4 hlt1
     unfold m_hash_Tagged_b2 at q6
     refine gidx (k:= 1) (E:= (eL eB)) (fun _=> rfl) (fun _=> q7) (by kernel_rfl) ?_
     obtain ⟨x5,q8,q6⟩:= oY0 q6
     refine gco (w_hash_put q8) (by kernel_rfl) ?_
     obtain ⟨x6,q9,q6⟩:= oY0 q6
     refine gapp (k:= 1) (E:= eB) (fun _=> rfl) q9 (by kernel_rfl) ?_
     have e0:= sI0 q6
     subst e0
     exact gb bl1 hd (w64 ((i1 : Int) + 1),x6) ⟨⟨i1 + 1,w64_succ hlt1 hle1,by omega,q5⟩,mu_lt hlt1 hle1⟩ (by kernel_rfl)
    have hlt1 : ¬ i1 < a1.length:= by have:= of_decide_eq_false hc1; omega
    have e:= Eq.symm (each0_out q4 hlt1)
    subst e
    exact gb bk2 hd () trivial (by kernel_rfl)
   have e0:= sI0 q2
   subst e0
   exact gb bk1 hd () trivial (by kernel_rfl)
  obtain ⟨x7,q10,hm⟩:= oY0 hm
  refine gco (s_hash_Sum q10) (by kernel_rfl) ?_
  have e0:= sI0 hm
  subst e0
  exact gend hd (by kernel_rfl)
def m_merkle_Leaf (a0 : List UInt8) : Option (UInt64 × UInt64) :=
 obind (m_hash_Tagged (⟨#[108,101,97,102]⟩ : ByteArray) ([a0] : List (List UInt8))) fun x1 =>
 some x1
theorem w_merkle_Leaf {a0 : List UInt8} {r : UInt64 × UInt64} (hm : m_merkle_Leaf a0 = some r) : Sf prog 35 [sl eB a0] (ag (e_a2_eU r)) :=
 sp call35 func35 rfl ntmps35 rfl fun D0 As η0 m0 hd=> by
  unfold m_merkle_Leaf at hm
  refine glitF (k:= 1) (eL eB) ([a0] : List (List UInt8)) (fun _=> rfl) (by kernel_rfl) ?_
  obtain ⟨x1,q1,hm⟩:= oY0 hm
  refine gc (fun _=> w_hash_Tagged q1) (by kernel_rfl) ?_
  have e0:= sI0 hm
  subst e0
  exact gend hd (by kernel_rfl)
def m_cert_Leaf (a0 : g_api_Cert) : Option ((UInt64 × UInt64) × Int) :=
 obind (m_cert_Pre a0) fun x1 =>
 if (x1.2 != 0) = true then
  some ((0,0),x1.2)
 else
 obind (m_merkle_Leaf x1.1) fun x2 =>
 some (x2,0)
theorem w_cert_Leaf {a0 : g_api_Cert} {r : (UInt64 × UInt64) × Int} (hm : m_cert_Leaf a0 = some r) : Sf prog 24 [ag (e_api_Cert a0)] (.tup [ag (e_a2_eU r.1),.d (.i r.2)]) :=
 sp call24 func24 rfl ntmps24 rfl fun D0 As η0 m0 hd=> by
  unfold m_cert_Leaf at hm
  obtain ⟨x1,q1,hm⟩:= oY0 hm
  refine gco (w_cert_Pre q1) (by kernel_rfl) ?_
  refine gi hm (by kernel_rfl) (fun hc1 hm=> ?_) fun hc1 hm=> ?_
  ·skip
   have e0:= sI0 hm
   subst e0
   exact gend hd (by kernel_rfl)
  obtain ⟨x2,q2,hm⟩:= oY0 hm
  refine gco (w_merkle_Leaf q2) (by kernel_rfl) ?_
  have e0:= sI0 hm
  subst e0
  exact gend hd (by kernel_rfl)
def m_der_length_b1  (i1 : Int) (x8 : UInt8) (s1 : Int) : Option (Int) :=
 bnd ((or64 (shl64 s1 8) (w64 (x8.toNat : Int)))) fun x9 =>
 some x9
def m_der_length (a0 : List UInt8) : Option (Int × Int × Int) :=
 if ((a0.length : Int) == 0) = true then
  some (0,0,70)
 else
 obind (idx a0 0) fun x1 =>
 if (decide ((w64 (x1.toNat : Int)) < 128)) = true then
  some ((w64 (x1.toNat : Int)),1,0)
 else
 bnd ((w64 ((w64 (x1.toNat : Int)) - 128))) fun x2 =>
 bnd ((((w64 (x1.toNat : Int)) != 129) && ((w64 (x1.toNat : Int)) != 130))) fun x3 =>
 if x3 = true then
  some (0,0,71)
 else
 bnd ((decide ((a0.length : Int) ≤ x2))) fun x4 =>
 if x4 = true then
  some (0,0,70)
 else
 obind (
  obind (cut a0 1 (w64 (x2 + 1))) fun x6 =>
  obind (each0 m_der_length_b1 x6 0 0) fun x7 =>
  some x7
 ) fun x5 =>
 if ((decide (x5 < 128)) || (((w64 (x1.toNat : Int)) == 130) && (decide (x5 < 256)))) = true then
  some (0,0,71)
 else
 some (x5,(w64 (x2 + 1)),0)
theorem w_der_length {a0 : List UInt8} {r : Int × Int × Int} (hm : m_der_length a0 = some r) : Sf prog 148 [sl eB a0] (.tup [.d (.i r.1),.d (.i r.2.1),.d (.i r.2.2)]) :=
 sp call148 func148 rfl ntmps148 rfl fun D0 As η0 m0 hd=> by
  unfold m_der_length at hm
  refine gi hm (by kernel_rfl) (fun hc1 hm=> ?_) fun hc1 hm=> ?_
  ·skip
   have e0:= sI0 hm
   subst e0
   exact gend hd (by kernel_rfl)
  obtain ⟨x1,q1,hm⟩:= oY0 hm
  refine gidx (k:= 1) (E:= eB) (fun _=> rfl) (fun _=> q1) (by kernel_rfl) ?_
  refine gi hm (by kernel_rfl) (fun hc2 hm=> ?_) fun hc2 hm=> ?_
  ·skip
   have e0:= sI0 hm
   subst e0
   exact gend hd (by kernel_rfl)
  have hm:= bnd_is hm
  let x2 : Int:= ((w64 ((w64 (x1.toNat : Int)) - 128)))
  have hm:= bnd_is hm
  let x3 : Bool:= ((((w64 (x1.toNat : Int)) != 129) && ((w64 (x1.toNat : Int)) != 130)))
  refine gi hm (by kernel_rfl) (fun hc3 hm=> ?_) fun hc3 hm=> ?_
  ·skip
   have e0:= sI0 hm
   subst e0
   exact gend hd (by kernel_rfl)
  have hm:= bnd_is hm
  let x4 : Bool:= ((decide ((a0.length : Int) ≤ x2)))
  refine gi hm (by kernel_rfl) (fun hc4 hm=> ?_) fun hc4 hm=> ?_
  ·skip
   have e0:= sI0 hm
   subst e0
   exact gend hd (by kernel_rfl)
  obtain ⟨x5,q5,hm⟩:= oY0 hm
  obtain ⟨x6,q6,q5⟩:= oY0 q5
  refine gcut (k:= 1) (E:= eB) (fun _=> rfl) (fun _=> q6) (by kernel_rfl) ?_
  obtain ⟨x7,q7,q5⟩:= oY0 q5
  refine glen 1 (E:= eB) (xs:= x6) 36 (by kernel_rfl) fun hle1=> ?_
  refine gjU 1 (fun (_ : Unit)=> ⟨[(2,.d (.i x5)),(5,.d (.i (w64 (x1.toNat : Int)))),(6,.d (.i x2))],[],[],0⟩) (fun _=> True) (by kernel_rfl) (fun Jp bk1=> ?_) fun _ _=> ?_
  ·refine gjU 1 (fun (_ : Unit)=> ⟨[(2,.d (.i x7)),(5,.d (.i (w64 (x1.toNat : Int)))),(6,.d (.i x2))],[],[],0⟩) (fun _=> True) (by kernel_rfl) (fun Jp bk2=> ?_) fun _ _=> ?_
   ·refine gl hd (fun (p : Int × (Int))=> let (p0,p_0):= p; ⟨[(2,.d (.i p_0)),(5,.d (.i (w64 (x1.toNat : Int)))),(6,.d (.i x2)),(36,sl eB x6),(37,.d (.i (x6.length : Int))),(38,.d (.i p0))],[],[],0⟩) (fun p=> ∃ i : Nat,p.1 = (i : Int) ∧ i ≤ x6.length ∧ each0 m_der_length_b1 (x6.drop i) (i : Int) p.2 = some x7) (fun p=> x6.length - p.1.toNat) (0,0) ⟨0,rfl,Nat.zero_le _,q7⟩ (by kernel_rfl) ?_
    rintro ⟨_,s1⟩ ⟨i1,rfl,hi,q8⟩ Jl bl1
    refine gi' (b:= decide ((i1 : Int) < (x6.length : Int))) (by kernel_rfl) (fun hc5=> ?_) fun hc5=> ?_
    ·have hlt1 : i1 < x6.length:= by have:= of_decide_eq_true hc5; omega
     obtain ⟨x8,y1,q11,q10,q9⟩:= each0_in q8 hlt1
     unfold m_der_length_b1 at q10
     refine gidx (k:= 1) (E:= eB) (fun _=> rfl) (fun _=> q11) (by kernel_rfl) ?_
     have q10:= bnd_is q10
     let x9 : Int:= ((or64 (shl64 s1 8) (w64 (x8.toNat : Int))))
     have e0:= sI0 q10
     subst e0
     exact gb bl1 hd (w64 ((i1 : Int) + 1),x9) ⟨⟨i1 + 1,w64_succ hlt1 hle1,by omega,q9⟩,mu_lt hlt1 hle1⟩ (by kernel_rfl)
    have hlt1 : ¬ i1 < x6.length:= by have:= of_decide_eq_false hc5; omega
    have e:= Eq.symm (each0_out q8 hlt1)
    subst e
    exact gb bk2 hd () trivial (by kernel_rfl)
   have e0:= sI0 q5
   subst e0
   exact gb bk1 hd () trivial (by kernel_rfl)
  refine gi hm (by kernel_rfl) (fun hc6 hm=> ?_) fun hc6 hm=> ?_
  ·skip
   have e0:= sI0 hm
   subst e0
   exact gend hd (by kernel_rfl)
  have e0:= sI0 hm
  subst e0
  exact gend hd (by kernel_rfl)
def H_der_get (rF : (List UInt8) → Int → Option (g_api_Item × (List UInt8) × Int)) : Prop:= ∀ {a0 : List UInt8} {a1 : Int} {r : g_api_Item × (List UInt8) × Int},rF a0 a1 = some r → Sf prog 108 [sl eB a0,.d (.i a1)] (.tup [ag (e_api_Item r.1),sl eB r.2.1,.d (.i r.2.2)])
def m_der_get_b3 (rF : (List UInt8) → Int → Option (g_api_Item × (List UInt8) × Int)) (a1 : Int) (s1 : (List UInt8) × (List UInt8) × (List g_api_Item)) : Option (((List UInt8) × (List UInt8) × (List g_api_Item)) ⊕ (((List UInt8) × (List g_api_Item)) ⊕ (g_api_Item × (List UInt8) × Int))) :=
 if (decide ((s1.2.1.length : Int) > 0)) = true then
  obind (rF s1.2.1 (w64 (a1 - 1))) fun x12 =>
  if (x12.2.2 != 0) = true then
   some (.inr (.inr ((⟨0,[],[]⟩ : g_api_Item),([] : List UInt8),71)))
  else
  obind (app 56 s1.2.2 ([x12.1] : List g_api_Item)) fun x13 =>
  some (.inl (s1.1,x12.2.1,x13))
 else
 some (.inr (.inl (s1.1,s1.2.2)))
def m_der_get_r (rF : (List UInt8) → Int → Option (g_api_Item × (List UInt8) × Int)) (a0 : List UInt8) (a1 : Int) : Option (g_api_Item × (List UInt8) × Int) :=
 if ((a0.length : Int) == 0) = true then
  some ((⟨0,[],[]⟩ : g_api_Item),([] : List UInt8),70)
 else
 obind (idx a0 0) fun x1 =>
 obind (m_der_find (w64 (x1.toNat : Int))) fun x2 =>
 if ((!x2.2) || (decide (a1 < 1))) = true then
  some ((⟨0,[],[]⟩ : g_api_Item),([] : List UInt8),71)
 else
 obind (cut a0 1 (a0.length : Int)) fun x3 =>
 obind (m_der_length x3) fun x4 =>
 if (x4.2.2 != 0) = true then
  some ((⟨0,[],[]⟩ : g_api_Item),([] : List UInt8),x4.2.2)
 else
 if (decide ((w64 ((w64 (1 + x4.2.1)) + x4.1)) > 8192)) = true then
  some ((⟨0,[],[]⟩ : g_api_Item),([] : List UInt8),71)
 else
 obind (cut a0 (w64 (1 + x4.2.1)) (a0.length : Int)) fun x5 =>
 if (decide (x4.1 > (x5.length : Int))) = true then
  some ((⟨0,[],[]⟩ : g_api_Item),([] : List UInt8),70)
 else
 obind (cut x5 0 x4.1) fun x6 =>
 obind (cut x5 x4.1 (x5.length : Int)) fun x7 =>
 if (x2.1.tag_ != 48) = true then
  obind (m_dyn_34 x2.1.may_ x6) fun x8 =>
  if (!x8) = true then
   some ((⟨0,[],[]⟩ : g_api_Item),([] : List UInt8),71)
  else
  obind (m_slices_Clone_byte_byte x6) fun x9 =>
  some ((⟨x2.1.tag_,x9,[]⟩ : g_api_Item),x7,0)
 else
 obind (iter ((m_der_get_b3 rF) a1) FUEL (x7,x6,([] : List g_api_Item))) fun x10=> match x10 with
 | .inr r=> some r
 | .inl y1 =>
 some ((⟨x2.1.tag_,[],y1.2⟩ : g_api_Item),y1.1,0)
theorem w_der_get_r {rF : (List UInt8) → Int → Option (g_api_Item × (List UInt8) × Int)} (hF : H_der_get rF) {a0 : List UInt8} {a1 : Int} {r : g_api_Item × (List UInt8) × Int} (hm : m_der_get_r rF a0 a1 = some r) : Sf prog 108 [sl eB a0,.d (.i a1)] (.tup [ag (e_api_Item r.1),sl eB r.2.1,.d (.i r.2.2)]) :=
 sp call108 func108 rfl ntmps108 rfl fun D0 As η0 m0 hd=> by
  unfold m_der_get_r at hm
  refine gi hm (by kernel_rfl) (fun hc1 hm=> ?_) fun hc1 hm=> ?_
  ·skip
   have e0:= sI0 hm
   subst e0
   exact gend hd (by kernel_rfl)
  obtain ⟨x1,q1,hm⟩:= oY0 hm
  refine gidx (k:= 1) (E:= eB) (fun _=> rfl) (fun _=> q1) (by kernel_rfl) ?_
  obtain ⟨x2,q2,hm⟩:= oY0 hm
  refine gc (fun _=> w_der_find q2) (by kernel_rfl) ?_
  refine gi hm (by kernel_rfl) (fun hc2 hm=> ?_) fun hc2 hm=> ?_
  ·skip
   have e0:= sI0 hm
   subst e0
   exact gend hd (by kernel_rfl)
  obtain ⟨x3,q3,hm⟩:= oY0 hm
  refine gcut (k:= 1) (E:= eB) (fun _=> rfl) (fun _=> q3) (by kernel_rfl) ?_
  obtain ⟨x4,q4,hm⟩:= oY0 hm
  refine gc (fun _=> w_der_length q4) (by kernel_rfl) ?_
  refine gi hm (by kernel_rfl) (fun hc3 hm=> ?_) fun hc3 hm=> ?_
  ·skip
   have e0:= sI0 hm
   subst e0
   exact gend hd (by kernel_rfl)
  refine gi hm (by kernel_rfl) (fun hc4 hm=> ?_) fun hc4 hm=> ?_
  ·skip
   have e0:= sI0 hm
   subst e0
   exact gend hd (by kernel_rfl)
  obtain ⟨x5,q5,hm⟩:= oY0 hm
  refine gcut (k:= 1) (E:= eB) (fun _=> rfl) (fun _=> q5) (by kernel_rfl) ?_
  refine gi hm (by kernel_rfl) (fun hc5 hm=> ?_) fun hc5 hm=> ?_
  ·skip
   have e0:= sI0 hm
   subst e0
   exact gend hd (by kernel_rfl)
  obtain ⟨x6,q6,hm⟩:= oY0 hm
  refine gcut (k:= 1) (E:= eB) (fun _=> rfl) (fun _=> q6) (by kernel_rfl) ?_
  obtain ⟨x7,q7,hm⟩:= oY0 hm
  refine gcut (k:= 1) (E:= eB) (fun _=> rfl) (fun _=> q7) (by kernel_rfl) ?_
  refine gi hm (by kernel_rfl) (fun hc6 hm=> ?_) fun hc6 hm=> ?_
  ·skip
   obtain ⟨x8,q8,hm⟩:= oY0 hm
   refine gdyn (fun _=> w_dyn_34 q8) (by kernel_rfl) ?_
   refine gi hm (by kernel_rfl) (fun hc7 hm=> ?_) fun hc7 hm=> ?_
   ·skip
    have e0:= sI0 hm
    subst e0
    exact gend hd (by kernel_rfl)
   obtain ⟨x9,q9,hm⟩:= oY0 hm
   refine gco (s_slices_Clone_byte_byte q9) (by kernel_rfl) ?_
   have e0:= sI0 hm
   subst e0
   exact gend hd (by kernel_rfl)
  obtain ⟨x10,q10,hm⟩:= oY0 hm
  refine gnilBU 0 e_api_Item 4 2 3 (by kernel_rfl) ?_
  refine gjU 0 (fun (y1 : (List UInt8) × (List g_api_Item))=> let (y_0,y_1):= y1; ⟨[(4,.pb 0 0),(5,sl eB y_0),(7,.pb 1 0)],[(0,.row 2 3 _ e_api_Item y_1),(1,.box 1 [.d (.i x2.1.tag_),.d (.v (fnV x2.1.may_))] 120),(2,.box 0 [.d (.i x2.1.tag_),sl eB [],.ow 2] 56)],[],3⟩) (fun y1=> x10 = .inl y1) (by kernel_rfl) (fun Jp bk1=> ?_) fun y1 hy=> ?_
  ·refine gl hd (fun (p : Nat × ((List UInt8) × (List UInt8) × (List g_api_Item)))=> let (p0,p_0,p_1,p_2):= p; ⟨[(1,.d (.i a1)),(4,.pb 0 0),(5,sl eB p_0),(11,sl eB p_1),(7,.pb 1 0)],[(0,.row 2 3 _ e_api_Item p_2),(1,.box 1 [.d (.i x2.1.tag_),.d (.v (fnV x2.1.may_))] 120),(2,.box 0 [.d (.i x2.1.tag_),sl eB [],.ow 2] 56)],[],3⟩) (fun p=> iter ((m_der_get_b3 rF) a1) p.1 p.2 = some x10) (fun p=> p.1) (FUEL,(x7,x6,([] : List g_api_Item))) q10 (by kernel_rfl) ?_
   rintro ⟨n1,s1⟩ q11 Jl bl1
   cases n1 with
   | zero=> exact (iter_zero q11).elim
   | succ n1 =>
    obtain ⟨y2,q13,q12⟩:= iter_succ q11
    unfold m_der_get_b3 at q13
    refine gi q13 (by kernel_rfl) (fun hc8 q13=> ?_) fun hc8 q13=> ?_
    ·skip
     obtain ⟨x12,q15,q13⟩:= oY0 q13
     refine gc (fun _=> hF q15) (by kernel_rfl) ?_
     refine gi q13 (by kernel_rfl) (fun hc9 q13=> ?_) fun hc9 q13=> ?_
     ·skip
      cases q13
      rcases q12 with ⟨sn,e,_⟩ | e
      ·cases e
      cases e
      dsimp only at hm
      have e0:= sI0 hm
      subst e0
      exact gend hd (by kernel_rfl)
     refine glitF (k:= 3) e_api_Item ([x12.1] : List g_api_Item) (fun _=> rfl) (by kernel_rfl) ?_
     obtain ⟨x13,q16,q13⟩:= oY0 q13
     refine gapp (k:= 3) (E:= e_api_Item) (fun _=> rfl) q16 (by kernel_rfl) ?_
     have e0:= sI0 q13
     subst e0
     rcases q12 with ⟨sn,e,q12'⟩ | e
     ·have e:= Sum.inl.inj e
      subst e
      exact gb bl1 hd (n1,_) ⟨q12',Nat.lt_succ_self _⟩ (by kernel_rfl)
     cases sum_lr e
    have e0:= sI0 q13
    subst e0
    rcases q12 with ⟨sn,e,_⟩ | e
    ·cases sum_rl e
    have e:= Sum.inr.inj e
    subst e
    exact gb bk1 hd (s1.1,s1.2.2) rfl (by kernel_rfl)
  subst hy
  dsimp only at hm
  have e0:= sI0 hm
  subst e0
  exact gend hd (by kernel_rfl)
def r_der_get : Nat → (List UInt8) → Int → Option (g_api_Item × (List UInt8) × Int)
 | 0,_,_=> none
 | n + 1,a0,a1=> m_der_get_r (r_der_get n) a0 a1
def m_der_get (a0 : List UInt8) (a1 : Int) : Option (g_api_Item × (List UInt8) × Int):= r_der_get FUEL a0 a1
theorem wr_der_get : ∀ n,H_der_get (r_der_get n)
 | 0=> fun hm=> by cases hm
 | n + 1=> fun hm=> w_der_get_r (wr_der_get n) hm
theorem w_der_get {a0 : List UInt8} {a1 : Int} {r : g_api_Item × (List UInt8) × Int} (hm : m_der_get a0 a1 = some r) : Sf prog 108 [sl eB a0,.d (.i a1)] (.tup [ag (e_api_Item r.1),sl eB r.2.1,.d (.i r.2.2)]):= wr_der_get FUEL hm
def m_der_Get (a0 : List UInt8) (a1 : Int) : Option (g_api_Item × Int × Int) :=
 if ((decide (a1 < 0)) || (decide (a1 > (a0.length : Int)))) = true then
  some ((⟨0,[],[]⟩ : g_api_Item),0,1)
 else
 obind (cut a0 a1 (a0.length : Int)) fun x1 =>
 obind (m_der_get x1 8) fun x2 =>
 if (x2.2.2 != 0) = true then
  some ((⟨0,[],[]⟩ : g_api_Item),0,x2.2.2)
 else
 bnd ((w64 ((a0.length : Int) - (x2.2.1.length : Int)))) fun x3 =>
 some (x2.1,x3,0)
theorem w_der_Get {a0 : List UInt8} {a1 : Int} {r : g_api_Item × Int × Int} (hm : m_der_Get a0 a1 = some r) : Sf prog 58 [sl eB a0,.d (.i a1)] (.tup [ag (e_api_Item r.1),.d (.i r.2.1),.d (.i r.2.2)]) :=
 sp call58 func58 rfl ntmps58 rfl fun D0 As η0 m0 hd=> by
  unfold m_der_Get at hm
  refine gi hm (by kernel_rfl) (fun hc1 hm=> ?_) fun hc1 hm=> ?_
  ·skip
   have e0:= sI0 hm
   subst e0
   exact gend hd (by kernel_rfl)
  obtain ⟨x1,q1,hm⟩:= oY0 hm
  refine gcut (k:= 1) (E:= eB) (fun _=> rfl) (fun _=> q1) (by kernel_rfl) ?_
  obtain ⟨x2,q2,hm⟩:= oY0 hm
  refine gc (fun _=> w_der_get q2) (by kernel_rfl) ?_
  refine gi hm (by kernel_rfl) (fun hc2 hm=> ?_) fun hc2 hm=> ?_
  ·skip
   have e0:= sI0 hm
   subst e0
   exact gend hd (by kernel_rfl)
  have hm:= bnd_is hm
  let x3 : Int:= ((w64 ((a0.length : Int) - (x2.2.1.length : Int))))
  have e0:= sI0 hm
  subst e0
  exact gend hd (by kernel_rfl)
def oddV : Value:= .iface 90 (.agg #[])
def m_cert_must (a0 : Bool) : Option (Option Unit):= some (if a0 = true then some () else none)
theorem w_cert_must {a0 : Bool} {r : Option Unit} (hm : m_cert_must a0 = some r) : Sb prog 92 [.d (.t a0)] [] 0 oddV (Pos r (fun r=> .tup []) (fun r=> []) 0) (r = none) :=
 sb call92 func92 rfl ntmps92 rfl fun D0 As η0 m0 hd=> by
  have e0:= sI0 hm
  subst e0
  refine gi' (b:= !a0) (by kernel_rfl) (fun hc=> ?_) fun hc=> ?_
  ·cases a0 with
   | true=> cases hc
   | false=> exact gthrow (by kernel_rfl) (by kernel_rfl)
  ·cases a0 with
   | true=> exact gendB hd (by kernel_rfl)
   | false=> cases hc
def m_der_AsSeq_1 (a0 : g_api_Item) : Option (List g_api_Item) :=
 obind (m_slices_Clone_api_Item_api_Item a0.L) fun x1 =>
 some x1
theorem w_der_AsSeq_1 {a0 : g_api_Item} {r : List g_api_Item} (hm : m_der_AsSeq_1 a0 = some r) : Sp prog 168 [ag (e_api_Item a0)] [] 0 (is (.ow 0) [.row 0 3 _ e_api_Item r] 1) :=
 sp call168 func168 rfl ntmps168 rfl fun D0 As η0 m0 hd=> by
  unfold m_der_AsSeq_1 at hm
  obtain ⟨x1,q1,hm⟩:= oY0 hm
  refine gco (s_slices_Clone_api_Item_api_Item q1) (by kernel_rfl) ?_
  have e0:= sI0 hm
  subst e0
  exact gend hd (by kernel_rfl)
def m_der_as_api_Item_168x (a0 : g_api_Item) (a1 : Int) : Option ((List g_api_Item) × Int) :=
 if (a0.Tag != a1) = true then
  some (([] : List g_api_Item),72)
 else
 obind (m_der_may a0 8) fun x1 =>
 if (!x1) = true then
  some (([] : List g_api_Item),71)
 else
 obind (m_der_AsSeq_1 a0) fun x2 =>
 some (x2,0)
theorem w_der_as_api_Item_168x {a0 : g_api_Item} {a1 : Int} {r : (List g_api_Item) × Int} (hm : m_der_as_api_Item_168x a0 a1 = some r) : Sp prog 167 [ag (e_api_Item a0),.d (.i a1),.fn (.func 168) [] []] [] 0 (is (.tup [.ow 0,.d (.i r.2)]) [.row 0 3 _ e_api_Item r.1] 1) :=
 sp call167 func167 rfl ntmps167 rfl fun D0 As η0 m0 hd=> by
  unfold m_der_as_api_Item_168x at hm
  refine gi hm (by kernel_rfl) (fun hc1 hm=> ?_) fun hc1 hm=> ?_
  ·skip
   refine gnil e_api_Item 6 3 (by kernel_rfl) ?_
   have e0:= sI0 hm
   subst e0
   exact gend hd (by kernel_rfl)
  obtain ⟨x1,q1,hm⟩:= oY0 hm
  refine gc (fun _=> w_der_may q1) (by kernel_rfl) ?_
  refine gi hm (by kernel_rfl) (fun hc2 hm=> ?_) fun hc2 hm=> ?_
  ·skip
   refine gnil e_api_Item 6 3 (by kernel_rfl) ?_
   have e0:= sI0 hm
   subst e0
   exact gend hd (by kernel_rfl)
  obtain ⟨x2,q2,hm⟩:= oY0 hm
  refine gco (w_der_AsSeq_1 q2) (by kernel_rfl) ?_
  have e0:= sI0 hm
  subst e0
  exact gend hd (by kernel_rfl)
def m_der_AsSeq (a0 : g_api_Item) : Option ((List g_api_Item) × Int) :=
 obind (m_der_as_api_Item_168x a0 48) fun x1 =>
 some (x1.1,x1.2)
theorem w_der_AsSeq {a0 : g_api_Item} {r : (List g_api_Item) × Int} (hm : m_der_AsSeq a0 = some r) : Sp prog 132 [ag (e_api_Item a0)] [] 0 (is (.tup [.ow 0,.d (.i r.2)]) [.row 0 3 _ e_api_Item r.1] 1) :=
 sp call132 func132 rfl ntmps132 rfl fun D0 As η0 m0 hd=> by
  unfold m_der_AsSeq at hm
  obtain ⟨x1,q1,hm⟩:= oY0 hm
  refine gco (w_der_as_api_Item_168x q1) (by kernel_rfl) ?_
  have e0:= sI0 hm
  subst e0
  exact gend hd (by kernel_rfl)
def m_cert_in (a0 : g_api_Item) : Option (Option g_cert_reader) :=
 obind (m_der_AsSeq a0) fun x1 =>
 obind (m_cert_must (x1.2 == 0)) fun y1=> match y1 with
 | none=> some none
 | some x2 =>
 some (some (⟨x1.1⟩ : g_cert_reader))
theorem w_cert_in {a0 : g_api_Item} {r : Option g_cert_reader} (hm : m_cert_in a0 = some r) : Sb prog 93 [ag (e_api_Item a0)] [] 0 oddV (Pos r (fun r=> .pb 0 0) (fun r=> [.box 0 [.d (.sl _ e_api_Item r.l_)] 100]) 1) (r = none) :=
 sb call93 func93 rfl ntmps93 rfl fun D0 As η0 m0 hd=> by
  unfold m_cert_in at hm
  obtain ⟨x1,q1,hm⟩:= oY0 hm
  refine gco (w_der_AsSeq q1) (by kernel_rfl) ?_
  obtain ⟨y1,q2,hm⟩:= oY0 hm
  rcases y1 with _ | x2
  ·dsimp only at hm
   have e0:= sI0 hm
   subst e0
   exact gpan (w_cert_must q2) (by kernel_rfl)
  dsimp only at hm
  refine gc (fun _=> (w_cert_must q2).sp) (by kernel_rfl) ?_
  have e0:= sI0 hm
  subst e0
  exact gendB hd (by kernel_rfl)
def m_der_AsInt_1_b2  (i1 : Int) (x5 : UInt8) (s1 : Int) : Option (Int) :=
 bnd ((or64 (shl64 s1 8) (w64 (x5.toNat : Int)))) fun x6 =>
 some x6
def m_der_AsInt_1 (a0 : g_api_Item) : Option Int :=
 obind (idx a0.B 0) fun x1 =>
 obind (
  obind (cut a0.B 1 (a0.B.length : Int)) fun x3 =>
  obind (each0 m_der_AsInt_1_b2 x3 0 (w64 (w8 (x1.toNat : Int)))) fun x4 =>
  some x4
 ) fun x2 =>
 some x2
theorem w_der_AsInt_1 {a0 : g_api_Item} {r : Int} (hm : m_der_AsInt_1 a0 = some r) : Sf prog 175 [ag (e_api_Item a0)] (.d (.i r)) :=
 sp call175 func175 rfl ntmps175 rfl fun D0 As η0 m0 hd=> by
  unfold m_der_AsInt_1 at hm
  obtain ⟨x1,q1,hm⟩:= oY0 hm
  refine gidx (k:= 1) (E:= eB) (fun _=> rfl) (fun _=> q1) (by kernel_rfl) ?_
  obtain ⟨x2,q2,hm⟩:= oY0 hm
  obtain ⟨x3,q3,q2⟩:= oY0 q2
  refine gcut (k:= 1) (E:= eB) (fun _=> rfl) (fun _=> q3) (by kernel_rfl) ?_
  obtain ⟨x4,q4,q2⟩:= oY0 q2
  refine glen 0 (E:= eB) (xs:= x3) 14 (by kernel_rfl) fun hle1=> ?_
  refine gjU 0 (fun (_ : Unit)=> ⟨[(3,.d (.i x2)),(1,.pb 0 0)],[(0,.box 0 [.d (.i a0.Tag),sl eB a0.B,sl e_api_Item a0.L] 56)],[],1⟩) (fun _=> True) (by kernel_rfl) (fun Jp bk1=> ?_) fun _ _=> ?_
  ·refine gjU 0 (fun (_ : Unit)=> ⟨[(3,.d (.i x4)),(1,.pb 0 0)],[(0,.box 0 [.d (.i a0.Tag),sl eB a0.B,sl e_api_Item a0.L] 56)],[],1⟩) (fun _=> True) (by kernel_rfl) (fun Jp bk2=> ?_) fun _ _=> ?_
   ·refine gl hd (fun (p : Int × (Int))=> let (p0,p_0):= p; ⟨[(3,.d (.i p_0)),(14,sl eB x3),(15,.d (.i (x3.length : Int))),(16,.d (.i p0)),(1,.pb 0 0)],[(0,.box 0 [.d (.i a0.Tag),sl eB a0.B,sl e_api_Item a0.L] 56)],[],1⟩) (fun p=> ∃ i : Nat,p.1 = (i : Int) ∧ i ≤ x3.length ∧ each0 m_der_AsInt_1_b2 (x3.drop i) (i : Int) p.2 = some x4) (fun p=> x3.length - p.1.toNat) (0,(w64 (w8 (x1.toNat : Int)))) ⟨0,rfl,Nat.zero_le _,q4⟩ (by kernel_rfl) ?_
    rintro ⟨_,s1⟩ ⟨i1,rfl,hi,q5⟩ Jl bl1
    refine gi' (b:= decide ((i1 : Int) < (x3.length : Int))) (by kernel_rfl) (fun hc1=> ?_) fun hc1=> ?_
    ·have hlt1 : i1 < x3.length:= by have:= of_decide_eq_true hc1; omega
     obtain ⟨x5,y1,q8,q7,q6⟩:= each0_in q5 hlt1
     unfold m_der_AsInt_1_b2 at q7
     refine gidx (k:= 1) (E:= eB) (fun _=> rfl) (fun _=> q8) (by kernel_rfl) ?_
     have q7:= bnd_is q7
     let x6 : Int:= ((or64 (shl64 s1 8) (w64 (x5.toNat : Int))))
     have e0:= sI0 q7
     subst e0
     exact gb bl1 hd (w64 ((i1 : Int) + 1),x6) ⟨⟨i1 + 1,w64_succ hlt1 hle1,by omega,q6⟩,mu_lt hlt1 hle1⟩ (by kernel_rfl)
    have hlt1 : ¬ i1 < x3.length:= by have:= of_decide_eq_false hc1; omega
    have e:= Eq.symm (each0_out q5 hlt1)
    subst e
    exact gb bk2 hd () trivial (by kernel_rfl)
   have e0:= sI0 q2
   subst e0
   exact gb bk1 hd () trivial (by kernel_rfl)
  have e0:= sI0 hm
  subst e0
  exact gend hd (by kernel_rfl)
def m_der_as_int_175x (a0 : g_api_Item) (a1 : Int) : Option (Int × Int) :=
 if (a0.Tag != a1) = true then
  some (0,72)
 else
 obind (m_der_may a0 8) fun x1 =>
 if (!x1) = true then
  some (0,71)
 else
 obind (m_der_AsInt_1 a0) fun x2 =>
 some (x2,0)
theorem w_der_as_int_175x {a0 : g_api_Item} {a1 : Int} {r : Int × Int} (hm : m_der_as_int_175x a0 a1 = some r) : Sf prog 174 [ag (e_api_Item a0),.d (.i a1),.fn (.func 175) [] []] (.tup [.d (.i r.1),.d (.i r.2)]) :=
 sp call174 func174 rfl ntmps174 rfl fun D0 As η0 m0 hd=> by
  unfold m_der_as_int_175x at hm
  refine gi hm (by kernel_rfl) (fun hc1 hm=> ?_) fun hc1 hm=> ?_
  ·skip
   have e0:= sI0 hm
   subst e0
   exact gend hd (by kernel_rfl)
  obtain ⟨x1,q1,hm⟩:= oY0 hm
  refine gc (fun _=> w_der_may q1) (by kernel_rfl) ?_
  refine gi hm (by kernel_rfl) (fun hc2 hm=> ?_) fun hc2 hm=> ?_
  ·skip
   have e0:= sI0 hm
   subst e0
   exact gend hd (by kernel_rfl)
  obtain ⟨x2,q2,hm⟩:= oY0 hm
  refine gc (fun _=> w_der_AsInt_1 q2) (by kernel_rfl) ?_
  have e0:= sI0 hm
  subst e0
  exact gend hd (by kernel_rfl)
def m_der_AsInt (a0 : g_api_Item) : Option (Int × Int) :=
 obind (m_der_as_int_175x a0 2) fun x1 =>
 some (x1.1,x1.2)
theorem w_der_AsInt {a0 : g_api_Item} {r : Int × Int} (hm : m_der_AsInt a0 = some r) : Sf prog 143 [ag (e_api_Item a0)] (.tup [.d (.i r.1),.d (.i r.2)]) :=
 sp call143 func143 rfl ntmps143 rfl fun D0 As η0 m0 hd=> by
  unfold m_der_AsInt at hm
  obtain ⟨x1,q1,hm⟩:= oY0 hm
  refine gc (fun _=> w_der_as_int_175x q1) (by kernel_rfl) ?_
  have e0:= sI0 hm
  subst e0
  exact gend hd (by kernel_rfl)
def m_cert_next_int_143x (a0 : g_cert_reader) : Option (Option (Int × g_cert_reader)) :=
 obind (m_cert_must (decide ((a0.l_.length : Int) > 0))) fun y1=> match y1 with
 | none=> some none
 | some x1 =>
 obind (idx a0.l_ 0) fun x2 =>
 obind (m_der_AsInt x2) fun x3 =>
 obind (m_cert_must (x3.2 == 0)) fun y2=> match y2 with
 | none=> some none
 | some x4 =>
 obind (cut a0.l_ 1 (a0.l_.length : Int)) fun x5 =>
 some (some (x3.1,(⟨x5⟩ : g_cert_reader)))
theorem w_cert_next_int_143x {a0 : g_cert_reader} {r : Option (Int × g_cert_reader)} (hm : m_cert_next_int_143x a0 = some r) : Sb prog 142 [.pb 0 0,.fn (.func 143) [] []] [.box 0 [sl e_api_Item a0.l_] 100] 1 oddV (Pos r (fun r=> .d (.i r.1)) (fun r=> [.box 0 [.d (.sl _ e_api_Item r.2.l_)] 100]) 1) (r = none) :=
 sb call142 func142 rfl ntmps142 rfl fun D0 As η0 m0 hd=> by
  unfold m_cert_next_int_143x at hm
  obtain ⟨y1,q1,hm⟩:= oY0 hm
  rcases y1 with _ | x1
  ·dsimp only at hm
   have e0:= sI0 hm
   subst e0
   exact gpan (w_cert_must q1) (by kernel_rfl)
  dsimp only at hm
  refine gc (fun _=> (w_cert_must q1).sp) (by kernel_rfl) ?_
  obtain ⟨x2,q2,hm⟩:= oY0 hm
  refine gidx (k:= 3) (E:= e_api_Item) (fun _=> rfl) (fun _=> q2) (by kernel_rfl) ?_
  obtain ⟨x3,q3,hm⟩:= oY0 hm
  refine gc (fun _=> w_der_AsInt q3) (by kernel_rfl) ?_
  obtain ⟨y2,q4,hm⟩:= oY0 hm
  rcases y2 with _ | x4
  ·dsimp only at hm
   have e0:= sI0 hm
   subst e0
   exact gpan (w_cert_must q4) (by kernel_rfl)
  dsimp only at hm
  refine gc (fun _=> (w_cert_must q4).sp) (by kernel_rfl) ?_
  obtain ⟨x5,q5,hm⟩:= oY0 hm
  refine gcut (k:= 3) (E:= e_api_Item) (fun _=> rfl) (fun _=> q5) (by kernel_rfl) ?_
  have e0:= sI0 hm
  subst e0
  exact gendB hd (by kernel_rfl)
def m_cert_reader_count (a0 : g_cert_reader) : Option (Option (Int × g_cert_reader)) :=
 obind (m_cert_next_int_143x a0) fun y1=> match y1 with
 | none=> some none
 | some x1 =>
 obind (m_cert_must (decide (x1.1 ≥ 0))) fun y2=> match y2 with
 | none=> some none
 | some x2 =>
 some (some (x1.1,x1.2))
theorem w_cert_reader_count {a0 : g_cert_reader} {r : Option (Int × g_cert_reader)} (hm : m_cert_reader_count a0 = some r) : Sb prog 102 [.pb 0 0] [.box 0 [sl e_api_Item a0.l_] 100] 1 oddV (Pos r (fun r=> .d (.i r.1)) (fun r=> [.box 0 [.d (.sl _ e_api_Item r.2.l_)] 100]) 1) (r = none) :=
 sb call102 func102 rfl ntmps102 rfl fun D0 As η0 m0 hd=> by
  unfold m_cert_reader_count at hm
  obtain ⟨y1,q1,hm⟩:= oY0 hm
  rcases y1 with _ | x1
  ·dsimp only at hm
   have e0:= sI0 hm
   subst e0
   exact gpan (w_cert_next_int_143x q1) (by kernel_rfl)
  dsimp only at hm
  refine gco (w_cert_next_int_143x q1).sp (by kernel_rfl) ?_
  obtain ⟨y2,q2,hm⟩:= oY0 hm
  rcases y2 with _ | x2
  ·dsimp only at hm
   have e0:= sI0 hm
   subst e0
   exact gpan (w_cert_must q2) (by kernel_rfl)
  dsimp only at hm
  refine gc (fun _=> (w_cert_must q2).sp) (by kernel_rfl) ?_
  have e0:= sI0 hm
  subst e0
  exact gendB hd (by kernel_rfl)
def m_cert_reader_big (a0 : g_cert_reader) : Option (Option (UInt64 × g_cert_reader)) :=
 obind (m_cert_reader_count a0) fun y1=> match y1 with
 | none=> some none
 | some x1 =>
 some (some ((toU x1.1),x1.2))
theorem w_cert_reader_big {a0 : g_cert_reader} {r : Option (UInt64 × g_cert_reader)} (hm : m_cert_reader_big a0 = some r) : Sb prog 95 [.pb 0 0] [.box 0 [sl e_api_Item a0.l_] 100] 1 oddV (Pos r (fun r=> .d (.u r.1)) (fun r=> [.box 0 [.d (.sl _ e_api_Item r.2.l_)] 100]) 1) (r = none) :=
 sb call95 func95 rfl ntmps95 rfl fun D0 As η0 m0 hd=> by
  unfold m_cert_reader_big at hm
  obtain ⟨y1,q1,hm⟩:= oY0 hm
  rcases y1 with _ | x1
  ·dsimp only at hm
   have e0:= sI0 hm
   subst e0
   exact gpan (w_cert_reader_count q1) (by kernel_rfl)
  dsimp only at hm
  refine gco (w_cert_reader_count q1).sp (by kernel_rfl) ?_
  have e0:= sI0 hm
  subst e0
  exact gendB hd (by kernel_rfl)
def m_cert_reader_end (a0 : g_cert_reader) : Option (Option g_cert_reader) :=
 obind (m_cert_must ((a0.l_.length : Int) == 0)) fun y1=> match y1 with
 | none=> some none
 | some x1 =>
 some (some a0)
theorem w_cert_reader_end {a0 : g_cert_reader} {r : Option g_cert_reader} (hm : m_cert_reader_end a0 = some r) : Sb prog 96 [.pb 0 0] [.box 0 [sl e_api_Item a0.l_] 100] 1 oddV (Pos r (fun r=> .tup []) (fun r=> [.box 0 [.d (.sl _ e_api_Item r.l_)] 100]) 1) (r = none) :=
 sb call96 func96 rfl ntmps96 rfl fun D0 As η0 m0 hd=> by
  unfold m_cert_reader_end at hm
  obtain ⟨y1,q1,hm⟩:= oY0 hm
  rcases y1 with _ | x1
  ·dsimp only at hm
   have e0:= sI0 hm
   subst e0
   exact gpan (w_cert_must q1) (by kernel_rfl)
  dsimp only at hm
  refine gc (fun _=> (w_cert_must q1).sp) (by kernel_rfl) ?_
  have e0:= sI0 hm
  subst e0
  exact gendB hd (by kernel_rfl)
def m_der_AsText_1 (a0 : g_api_Item) : Option ByteArray :=
 some (bs a0.B)
theorem w_der_AsText_1 {a0 : g_api_Item} {r : ByteArray} (hm : m_der_AsText_1 a0 = some r) : Sf prog 145 [ag (e_api_Item a0)] (.d (.s r)) :=
 sp call145 func145 rfl ntmps145 rfl fun D0 As η0 m0 hd=> by
  unfold m_der_AsText_1 at hm
  refine gbs (xs:= a0.B) (by kernel_rfl) ?_
  have e0:= sI0 hm
  subst e0
  exact gend hd (by kernel_rfl)
def m_der_as_string_145x (a0 : g_api_Item) (a1 : Int) : Option (ByteArray × Int) :=
 if (a0.Tag != a1) = true then
  some ((⟨#[]⟩ : ByteArray),72)
 else
 obind (m_der_may a0 8) fun x1 =>
 if (!x1) = true then
  some ((⟨#[]⟩ : ByteArray),71)
 else
 obind (m_der_AsText_1 a0) fun x2 =>
 some (x2,0)
theorem w_der_as_string_145x {a0 : g_api_Item} {a1 : Int} {r : ByteArray × Int} (hm : m_der_as_string_145x a0 a1 = some r) : Sf prog 144 [ag (e_api_Item a0),.d (.i a1),.fn (.func 145) [] []] (.tup [.d (.s r.1),.d (.i r.2)]) :=
 sp call144 func144 rfl ntmps144 rfl fun D0 As η0 m0 hd=> by
  unfold m_der_as_string_145x at hm
  refine gi hm (by kernel_rfl) (fun hc1 hm=> ?_) fun hc1 hm=> ?_
  ·skip
   have e0:= sI0 hm
   subst e0
   exact gend hd (by kernel_rfl)
  obtain ⟨x1,q1,hm⟩:= oY0 hm
  refine gc (fun _=> w_der_may q1) (by kernel_rfl) ?_
  refine gi hm (by kernel_rfl) (fun hc2 hm=> ?_) fun hc2 hm=> ?_
  ·skip
   have e0:= sI0 hm
   subst e0
   exact gend hd (by kernel_rfl)
  obtain ⟨x2,q2,hm⟩:= oY0 hm
  refine gc (fun _=> w_der_AsText_1 q2) (by kernel_rfl) ?_
  have e0:= sI0 hm
  subst e0
  exact gend hd (by kernel_rfl)
def m_der_AsText (a0 : g_api_Item) : Option (ByteArray × Int) :=
 obind (m_der_as_string_145x a0 12) fun x1 =>
 some (x1.1,x1.2)
theorem w_der_AsText {a0 : g_api_Item} {r : ByteArray × Int} (hm : m_der_AsText a0 = some r) : Sf prog 104 [ag (e_api_Item a0)] (.tup [.d (.s r.1),.d (.i r.2)]) :=
 sp call104 func104 rfl ntmps104 rfl fun D0 As η0 m0 hd=> by
  unfold m_der_AsText at hm
  obtain ⟨x1,q1,hm⟩:= oY0 hm
  refine gc (fun _=> w_der_as_string_145x q1) (by kernel_rfl) ?_
  have e0:= sI0 hm
  subst e0
  exact gend hd (by kernel_rfl)
def m_cert_next_api_Item_132x (a0 : g_cert_reader) : Option (Option ((List g_api_Item) × g_cert_reader)) :=
 obind (m_cert_must (decide ((a0.l_.length : Int) > 0))) fun y1=> match y1 with
 | none=> some none
 | some x1 =>
 obind (idx a0.l_ 0) fun x2 =>
 obind (m_der_AsSeq x2) fun x3 =>
 obind (m_cert_must (x3.2 == 0)) fun y2=> match y2 with
 | none=> some none
 | some x4 =>
 obind (cut a0.l_ 1 (a0.l_.length : Int)) fun x5 =>
 some (some (x3.1,(⟨x5⟩ : g_cert_reader)))
theorem w_cert_next_api_Item_132x {a0 : g_cert_reader} {r : Option ((List g_api_Item) × g_cert_reader)} (hm : m_cert_next_api_Item_132x a0 = some r) : Sb prog 133 [.pb 0 0,.fn (.func 132) [] []] [.box 0 [sl e_api_Item a0.l_] 100] 1 oddV (Pos r (fun r=> .ow 1) (fun r=> [.box 0 [.d (.sl _ e_api_Item r.2.l_)] 100,.row 1 3 _ e_api_Item r.1]) 2) (r = none) :=
 sb call133 func133 rfl ntmps133 rfl fun D0 As η0 m0 hd=> by
  unfold m_cert_next_api_Item_132x at hm
  obtain ⟨y1,q1,hm⟩:= oY0 hm
  rcases y1 with _ | x1
  ·dsimp only at hm
   have e0:= sI0 hm
   subst e0
   exact gpan (w_cert_must q1) (by kernel_rfl)
  dsimp only at hm
  refine gc (fun _=> (w_cert_must q1).sp) (by kernel_rfl) ?_
  obtain ⟨x2,q2,hm⟩:= oY0 hm
  refine gidx (k:= 3) (E:= e_api_Item) (fun _=> rfl) (fun _=> q2) (by kernel_rfl) ?_
  obtain ⟨x3,q3,hm⟩:= oY0 hm
  refine gco (w_der_AsSeq q3) (by kernel_rfl) ?_
  obtain ⟨y2,q4,hm⟩:= oY0 hm
  rcases y2 with _ | x4
  ·dsimp only at hm
   have e0:= sI0 hm
   subst e0
   exact gpan (w_cert_must q4) (by kernel_rfl)
  dsimp only at hm
  refine gc (fun _=> (w_cert_must q4).sp) (by kernel_rfl) ?_
  obtain ⟨x5,q5,hm⟩:= oY0 hm
  refine gcut (k:= 3) (E:= e_api_Item) (fun _=> rfl) (fun _=> q5) (by kernel_rfl) ?_
  have e0:= sI0 hm
  subst e0
  exact gendB hd (by kernel_rfl)
def m_cert_reader_sub (a0 : g_cert_reader) : Option (Option (g_cert_reader × g_cert_reader)) :=
 obind (m_cert_next_api_Item_132x a0) fun y1=> match y1 with
 | none=> some none
 | some x1 =>
 some (some ((⟨x1.1⟩ : g_cert_reader),x1.2))
theorem w_cert_reader_sub {a0 : g_cert_reader} {r : Option (g_cert_reader × g_cert_reader)} (hm : m_cert_reader_sub a0 = some r) : Sb prog 94 [.pb 0 0] [.box 0 [sl e_api_Item a0.l_] 100] 1 oddV (Pos r (fun r=> .pb 1 0) (fun r=> [.box 0 [.d (.sl _ e_api_Item r.2.l_)] 100,.box 1 [.d (.sl _ e_api_Item r.1.l_)] 100]) 2) (r = none) :=
 sb call94 func94 rfl ntmps94 rfl fun D0 As η0 m0 hd=> by
  unfold m_cert_reader_sub at hm
  obtain ⟨y1,q1,hm⟩:= oY0 hm
  rcases y1 with _ | x1
  ·dsimp only at hm
   have e0:= sI0 hm
   subst e0
   exact gpan (w_cert_next_api_Item_132x q1) (by kernel_rfl)
  dsimp only at hm
  refine gco (w_cert_next_api_Item_132x q1).sp (by kernel_rfl) ?_
  have e0:= sI0 hm
  subst e0
  exact gendB hd (by kernel_rfl)
def m_cert_next_string_104x (a0 : g_cert_reader) : Option (Option (ByteArray × g_cert_reader)) :=
 obind (m_cert_must (decide ((a0.l_.length : Int) > 0))) fun y1=> match y1 with
 | none=> some none
 | some x1 =>
 obind (idx a0.l_ 0) fun x2 =>
 obind (m_der_AsText x2) fun x3 =>
 obind (m_cert_must (x3.2 == 0)) fun y2=> match y2 with
 | none=> some none
 | some x4 =>
 obind (cut a0.l_ 1 (a0.l_.length : Int)) fun x5 =>
 some (some (x3.1,(⟨x5⟩ : g_cert_reader)))
theorem w_cert_next_string_104x {a0 : g_cert_reader} {r : Option (ByteArray × g_cert_reader)} (hm : m_cert_next_string_104x a0 = some r) : Sb prog 103 [.pb 0 0,.fn (.func 104) [] []] [.box 0 [sl e_api_Item a0.l_] 100] 1 oddV (Pos r (fun r=> .d (.s r.1)) (fun r=> [.box 0 [.d (.sl _ e_api_Item r.2.l_)] 100]) 1) (r = none) :=
 sb call103 func103 rfl ntmps103 rfl fun D0 As η0 m0 hd=> by
  unfold m_cert_next_string_104x at hm
  obtain ⟨y1,q1,hm⟩:= oY0 hm
  rcases y1 with _ | x1
  ·dsimp only at hm
   have e0:= sI0 hm
   subst e0
   exact gpan (w_cert_must q1) (by kernel_rfl)
  dsimp only at hm
  refine gc (fun _=> (w_cert_must q1).sp) (by kernel_rfl) ?_
  obtain ⟨x2,q2,hm⟩:= oY0 hm
  refine gidx (k:= 3) (E:= e_api_Item) (fun _=> rfl) (fun _=> q2) (by kernel_rfl) ?_
  obtain ⟨x3,q3,hm⟩:= oY0 hm
  refine gc (fun _=> w_der_AsText q3) (by kernel_rfl) ?_
  obtain ⟨y2,q4,hm⟩:= oY0 hm
  rcases y2 with _ | x4
  ·dsimp only at hm
   have e0:= sI0 hm
   subst e0
   exact gpan (w_cert_must q4) (by kernel_rfl)
  dsimp only at hm
  refine gc (fun _=> (w_cert_must q4).sp) (by kernel_rfl) ?_
  obtain ⟨x5,q5,hm⟩:= oY0 hm
  refine gcut (k:= 3) (E:= e_api_Item) (fun _=> rfl) (fun _=> q5) (by kernel_rfl) ?_
  have e0:= sI0 hm
  subst e0
  exact gendB hd (by kernel_rfl)
def m_cert_reader_texts_b2  (s1 : (List ByteArray) × (List g_api_Item)) : Option (((List ByteArray) × (List g_api_Item)) ⊕ (((List ByteArray) × (List g_api_Item)) ⊕ (Option ((List ByteArray) × g_cert_reader)))) :=
 if (decide ((s1.2.length : Int) > 0)) = true then
  obind (m_cert_next_string_104x (⟨s1.2⟩ : g_cert_reader)) fun y4=> match y4 with
  | none=> some (.inr (.inr none))
  | some x4 =>
  obind (app 16 s1.1 ([x4.1] : List ByteArray)) fun x5 =>
  some (.inl (x5,x4.2.l_))
 else
 some (.inr (.inl (s1.1,s1.2)))
def m_cert_reader_texts (a0 : g_cert_reader) : Option (Option ((List ByteArray) × g_cert_reader)) :=
 obind (m_cert_reader_sub a0) fun y1=> match y1 with
 | none=> some none
 | some x1 =>
 obind (iter m_cert_reader_texts_b2 FUEL (([] : List ByteArray),x1.1.l_)) fun x2=> match x2 with
 | .inr r=> some r
 | .inl y2 =>
 some (some (y2.1,x1.2))
theorem w_cert_reader_texts {a0 : g_cert_reader} {r : Option ((List ByteArray) × g_cert_reader)} (hm : m_cert_reader_texts a0 = some r) : Sb prog 105 [.pb 0 0] [.box 0 [sl e_api_Item a0.l_] 100] 1 oddV (Pos r (fun r=> .ow 1) (fun r=> [.box 0 [.d (.sl _ e_api_Item r.2.l_)] 100,.row 1 1 _ eS r.1]) 2) (r = none) :=
 sb call105 func105 rfl ntmps105 rfl fun D0 As η0 m0 hd=> by
  unfold m_cert_reader_texts at hm
  obtain ⟨y1,q1,hm⟩:= oY0 hm
  rcases y1 with _ | x1
  ·dsimp only at hm
   have e0:= sI0 hm
   subst e0
   exact gpan (w_cert_reader_sub q1) (by kernel_rfl)
  dsimp only at hm
  refine gco (w_cert_reader_sub q1).sp (by kernel_rfl) ?_
  obtain ⟨x2,q2,hm⟩:= oY0 hm
  refine gnilU 0 eS 3 1 (by kernel_rfl) ?_
  refine gjU 0 (fun (y2 : (List ByteArray) × (List g_api_Item))=> let (y_0,y_1):= y2; ⟨[(3,.ow 2),(6,.pb 1 0)],[(0,.row 2 1 _ eS y_0),(1,.box 1 [sl e_api_Item y_1] 100),(2,.box 0 [sl e_api_Item x1.2.l_] 100)],[],3⟩) (fun y2=> x2 = .inl y2) (by kernel_rfl) (fun Jp bk1=> ?_) fun y2 hy=> ?_
  ·refine gl hd (fun (p : Nat × ((List ByteArray) × (List g_api_Item)))=> let (p0,p_0,p_1):= p; ⟨[(3,.ow 2),(4,.pb 1 0),(6,.pb 1 0)],[(0,.row 2 1 _ eS p_0),(1,.box 1 [sl e_api_Item p_1] 100),(2,.box 0 [sl e_api_Item x1.2.l_] 100)],[],3⟩) (fun p=> iter m_cert_reader_texts_b2 p.1 p.2 = some x2) (fun p=> p.1) (FUEL,(([] : List ByteArray),x1.1.l_)) q2 (by kernel_rfl) ?_
   rintro ⟨n1,s1⟩ q3 Jl bl1
   cases n1 with
   | zero=> exact (iter_zero q3).elim
   | succ n1 =>
    obtain ⟨y3,q5,q4⟩:= iter_succ q3
    unfold m_cert_reader_texts_b2 at q5
    refine gi q5 (by kernel_rfl) (fun hc1 q5=> ?_) fun hc1 q5=> ?_
    ·skip
     obtain ⟨y4,q7,q5⟩:= oY0 q5
     rcases y4 with _ | x4
     ·dsimp only at q5
      cases q5
      rcases q4 with ⟨sn,e,_⟩ | e
      ·cases e
      cases e
      dsimp only at hm
      have e0:= sI0 hm
      subst e0
      exact gpan (w_cert_next_string_104x q7) (by kernel_rfl)
     dsimp only at q5
     refine gco (w_cert_next_string_104x q7).sp (by kernel_rfl) ?_
     refine glitF (k:= 1) eS ([x4.1] : List ByteArray) (fun _=> rfl) (by kernel_rfl) ?_
     obtain ⟨x5,q8,q5⟩:= oY0 q5
     refine gapp (k:= 1) (E:= eS) (fun _=> rfl) q8 (by kernel_rfl) ?_
     have e0:= sI0 q5
     subst e0
     rcases q4 with ⟨sn,e,q4'⟩ | e
     ·have e:= Sum.inl.inj e
      subst e
      exact gb bl1 hd (n1,_) ⟨q4',Nat.lt_succ_self _⟩ (by kernel_rfl)
     cases sum_lr e
    have e0:= sI0 q5
    subst e0
    rcases q4 with ⟨sn,e,_⟩ | e
    ·cases sum_rl e
    have e:= Sum.inr.inj e
    subst e
    exact gb bk1 hd (s1.1,s1.2) rfl (by kernel_rfl)
  subst hy
  dsimp only at hm
  have e0:= sI0 hm
  subst e0
  exact gendB hd (by kernel_rfl)
def m_der_AsBool_1 (a0 : g_api_Item) : Option Bool :=
 obind (idx a0.B 0) fun x1 =>
 some ((x1.toNat : Int) != 0)
theorem w_der_AsBool_1 {a0 : g_api_Item} {r : Bool} (hm : m_der_AsBool_1 a0 = some r) : Sf prog 147 [ag (e_api_Item a0)] (.d (.t r)) :=
 sp call147 func147 rfl ntmps147 rfl fun D0 As η0 m0 hd=> by
  unfold m_der_AsBool_1 at hm
  obtain ⟨x1,q1,hm⟩:= oY0 hm
  refine gidx (k:= 1) (E:= eB) (fun _=> rfl) (fun _=> q1) (by kernel_rfl) ?_
  have e0:= sI0 hm
  subst e0
  exact gend hd (by kernel_rfl)
def m_der_as_bool_147x (a0 : g_api_Item) (a1 : Int) : Option (Bool × Int) :=
 if (a0.Tag != a1) = true then
  some (false,72)
 else
 obind (m_der_may a0 8) fun x1 =>
 if (!x1) = true then
  some (false,71)
 else
 obind (m_der_AsBool_1 a0) fun x2 =>
 some (x2,0)
theorem w_der_as_bool_147x {a0 : g_api_Item} {a1 : Int} {r : Bool × Int} (hm : m_der_as_bool_147x a0 a1 = some r) : Sf prog 146 [ag (e_api_Item a0),.d (.i a1),.fn (.func 147) [] []] (.tup [.d (.t r.1),.d (.i r.2)]) :=
 sp call146 func146 rfl ntmps146 rfl fun D0 As η0 m0 hd=> by
  unfold m_der_as_bool_147x at hm
  refine gi hm (by kernel_rfl) (fun hc1 hm=> ?_) fun hc1 hm=> ?_
  ·skip
   have e0:= sI0 hm
   subst e0
   exact gend hd (by kernel_rfl)
  obtain ⟨x1,q1,hm⟩:= oY0 hm
  refine gc (fun _=> w_der_may q1) (by kernel_rfl) ?_
  refine gi hm (by kernel_rfl) (fun hc2 hm=> ?_) fun hc2 hm=> ?_
  ·skip
   have e0:= sI0 hm
   subst e0
   exact gend hd (by kernel_rfl)
  obtain ⟨x2,q2,hm⟩:= oY0 hm
  refine gc (fun _=> w_der_AsBool_1 q2) (by kernel_rfl) ?_
  have e0:= sI0 hm
  subst e0
  exact gend hd (by kernel_rfl)
def m_der_AsBool (a0 : g_api_Item) : Option (Bool × Int) :=
 obind (m_der_as_bool_147x a0 1) fun x1 =>
 some (x1.1,x1.2)
theorem w_der_AsBool {a0 : g_api_Item} {r : Bool × Int} (hm : m_der_AsBool a0 = some r) : Sf prog 107 [ag (e_api_Item a0)] (.tup [.d (.t r.1),.d (.i r.2)]) :=
 sp call107 func107 rfl ntmps107 rfl fun D0 As η0 m0 hd=> by
  unfold m_der_AsBool at hm
  obtain ⟨x1,q1,hm⟩:= oY0 hm
  refine gc (fun _=> w_der_as_bool_147x q1) (by kernel_rfl) ?_
  have e0:= sI0 hm
  subst e0
  exact gend hd (by kernel_rfl)
def m_cert_next_bool_107x (a0 : g_cert_reader) : Option (Option (Bool × g_cert_reader)) :=
 obind (m_cert_must (decide ((a0.l_.length : Int) > 0))) fun y1=> match y1 with
 | none=> some none
 | some x1 =>
 obind (idx a0.l_ 0) fun x2 =>
 obind (m_der_AsBool x2) fun x3 =>
 obind (m_cert_must (x3.2 == 0)) fun y2=> match y2 with
 | none=> some none
 | some x4 =>
 obind (cut a0.l_ 1 (a0.l_.length : Int)) fun x5 =>
 some (some (x3.1,(⟨x5⟩ : g_cert_reader)))
theorem w_cert_next_bool_107x {a0 : g_cert_reader} {r : Option (Bool × g_cert_reader)} (hm : m_cert_next_bool_107x a0 = some r) : Sb prog 106 [.pb 0 0,.fn (.func 107) [] []] [.box 0 [sl e_api_Item a0.l_] 100] 1 oddV (Pos r (fun r=> .d (.t r.1)) (fun r=> [.box 0 [.d (.sl _ e_api_Item r.2.l_)] 100]) 1) (r = none) :=
 sb call106 func106 rfl ntmps106 rfl fun D0 As η0 m0 hd=> by
  unfold m_cert_next_bool_107x at hm
  obtain ⟨y1,q1,hm⟩:= oY0 hm
  rcases y1 with _ | x1
  ·dsimp only at hm
   have e0:= sI0 hm
   subst e0
   exact gpan (w_cert_must q1) (by kernel_rfl)
  dsimp only at hm
  refine gc (fun _=> (w_cert_must q1).sp) (by kernel_rfl) ?_
  obtain ⟨x2,q2,hm⟩:= oY0 hm
  refine gidx (k:= 3) (E:= e_api_Item) (fun _=> rfl) (fun _=> q2) (by kernel_rfl) ?_
  obtain ⟨x3,q3,hm⟩:= oY0 hm
  refine gc (fun _=> w_der_AsBool q3) (by kernel_rfl) ?_
  obtain ⟨y2,q4,hm⟩:= oY0 hm
  rcases y2 with _ | x4
  ·dsimp only at hm
   have e0:= sI0 hm
   subst e0
   exact gpan (w_cert_must q4) (by kernel_rfl)
  dsimp only at hm
  refine gc (fun _=> (w_cert_must q4).sp) (by kernel_rfl) ?_
  obtain ⟨x5,q5,hm⟩:= oY0 hm
  refine gcut (k:= 3) (E:= e_api_Item) (fun _=> rfl) (fun _=> q5) (by kernel_rfl) ?_
  have e0:= sI0 hm
  subst e0
  exact gendB hd (by kernel_rfl)
def m_cert_reader_pre (a0 : g_cert_reader) : Option (Option (g_api_Cert × g_cert_reader)) :=
 obind (m_cert_reader_count a0) fun y1=> match y1 with
 | none=> some none
 | some x1 =>
 obind (m_cert_next_string_104x x1.2) fun y2=> match y2 with
 | none=> some none
 | some x2 =>
 obind (m_cert_next_string_104x x2.2) fun y3=> match y3 with
 | none=> some none
 | some x3 =>
 obind (m_cert_reader_big x3.2) fun y4=> match y4 with
 | none=> some none
 | some x4 =>
 obind (m_cert_reader_texts x4.2) fun y5=> match y5 with
 | none=> some none
 | some x5 =>
 obind (m_cert_reader_count x5.2) fun y6=> match y6 with
 | none=> some none
 | some x6 =>
 obind (m_cert_reader_count x6.2) fun y7=> match y7 with
 | none=> some none
 | some x7 =>
 obind (m_cert_next_bool_107x x7.2) fun y8=> match y8 with
 | none=> some none
 | some x8 =>
 obind (m_cert_reader_count x8.2) fun y9=> match y9 with
 | none=> some none
 | some x9 =>
 obind (m_cert_reader_texts x9.2) fun y10=> match y10 with
 | none=> some none
 | some x10 =>
 obind (m_cert_reader_end x10.2) fun y11=> match y11 with
 | none=> some none
 | some x11 =>
 some (some ((⟨x1.1,x2.1,x3.1,x4.1,x5.1,x6.1,x7.1,x8.1,x9.1,x10.1,[],(⟨0,0⟩ : g_api_Sig)⟩ : g_api_Cert),x11))
theorem w_cert_reader_pre {a0 : g_cert_reader} {r : Option (g_api_Cert × g_cert_reader)} (hm : m_cert_reader_pre a0 = some r) : Sb prog 57 [.pb 0 0] [.box 0 [sl e_api_Item a0.l_] 100] 1 oddV (Pos r (fun r=> .agg (List.set (((e_api_Cert r.1)).map dv) 10 (.d (.v (.slice none 0 0))))) (fun r=> [.box 0 [.d (.sl _ e_api_Item r.2.l_)] 100]) 1) (r = none) :=
 sb call57 func57 rfl ntmps57 rfl fun D0 As η0 m0 hd=> by
  unfold m_cert_reader_pre at hm
  obtain ⟨y1,q1,hm⟩:= oY0 hm
  rcases y1 with _ | x1
  ·dsimp only at hm
   have e0:= sI0 hm
   subst e0
   exact gpan (w_cert_reader_count q1) (by kernel_rfl)
  dsimp only at hm
  refine gco (w_cert_reader_count q1).sp (by kernel_rfl) ?_
  obtain ⟨y2,q2,hm⟩:= oY0 hm
  rcases y2 with _ | x2
  ·dsimp only at hm
   have e0:= sI0 hm
   subst e0
   exact gpan (w_cert_next_string_104x q2) (by kernel_rfl)
  dsimp only at hm
  refine gco (w_cert_next_string_104x q2).sp (by kernel_rfl) ?_
  obtain ⟨y3,q3,hm⟩:= oY0 hm
  rcases y3 with _ | x3
  ·dsimp only at hm
   have e0:= sI0 hm
   subst e0
   exact gpan (w_cert_next_string_104x q3) (by kernel_rfl)
  dsimp only at hm
  refine gco (w_cert_next_string_104x q3).sp (by kernel_rfl) ?_
  obtain ⟨y4,q4,hm⟩:= oY0 hm
  rcases y4 with _ | x4
  ·dsimp only at hm
   have e0:= sI0 hm
   subst e0
   exact gpan (w_cert_reader_big q4) (by kernel_rfl)
  dsimp only at hm
  refine gco (w_cert_reader_big q4).sp (by kernel_rfl) ?_
  obtain ⟨y5,q5,hm⟩:= oY0 hm
  rcases y5 with _ | x5
  ·dsimp only at hm
   have e0:= sI0 hm
   subst e0
   exact gpan (w_cert_reader_texts q5) (by kernel_rfl)
  dsimp only at hm
  refine gco (w_cert_reader_texts q5).sp (by kernel_rfl) ?_
  obtain ⟨y6,q6,hm⟩:= oY0 hm
  rcases y6 with _ | x6
  ·dsimp only at hm
   have e0:= sI0 hm
   subst e0
   exact gpan (w_cert_reader_count q6) (by kernel_rfl)
  dsimp only at hm
  refine gco (w_cert_reader_count q6).sp (by kernel_rfl) ?_
  obtain ⟨y7,q7,hm⟩:= oY0 hm
  rcases y7 with _ | x7
  ·dsimp only at hm
   have e0:= sI0 hm
   subst e0
   exact gpan (w_cert_reader_count q7) (by kernel_rfl)
  dsimp only at hm
  refine gco (w_cert_reader_count q7).sp (by kernel_rfl) ?_
  obtain ⟨y8,q8,hm⟩:= oY0 hm
  rcases y8 with _ | x8
  ·dsimp only at hm
   have e0:= sI0 hm
   subst e0
   exact gpan (w_cert_next_bool_107x q8) (by kernel_rfl)
  dsimp only at hm
  refine gco (w_cert_next_bool_107x q8).sp (by kernel_rfl) ?_
  obtain ⟨y9,q9,hm⟩:= oY0 hm
  rcases y9 with _ | x9
  ·dsimp only at hm
   have e0:= sI0 hm
   subst e0
   exact gpan (w_cert_reader_count q9) (by kernel_rfl)
  dsimp only at hm
  refine gco (w_cert_reader_count q9).sp (by kernel_rfl) ?_
  obtain ⟨y10,q10,hm⟩:= oY0 hm
  rcases y10 with _ | x10
  ·dsimp only at hm
   have e0:= sI0 hm
   subst e0
   exact gpan (w_cert_reader_texts q10) (by kernel_rfl)
  dsimp only at hm
  refine gco (w_cert_reader_texts q10).sp (by kernel_rfl) ?_
  obtain ⟨y11,q11,hm⟩:= oY0 hm
  rcases y11 with _ | x11
  ·dsimp only at hm
   have e0:= sI0 hm
   subst e0
   exact gpan (w_cert_reader_end q11) (by kernel_rfl)
  dsimp only at hm
  refine gco (w_cert_reader_end q11).sp (by kernel_rfl) ?_
  have e0:= sI0 hm
  subst e0
  exact gendB hd (by kernel_rfl)
def m_cert_reader_body_b5  (s1 : (List g_api_Item) × (List g_api_Promise)) : Option (((List g_api_Item) × (List g_api_Promise)) ⊕ (((List g_api_Item) × (List g_api_Promise)) ⊕ (Option (g_api_Cert × g_cert_reader)))) :=
 if (decide ((s1.1.length : Int) > 0)) = true then
  obind (m_cert_reader_sub (⟨s1.1⟩ : g_cert_reader)) fun y6=> match y6 with
  | none=> some (.inr (.inr none))
  | some x6 =>
  obind (m_cert_reader_count x6.1) fun y7=> match y7 with
  | none=> some (.inr (.inr none))
  | some x7 =>
  obind (m_cert_reader_count x7.2) fun y8=> match y8 with
  | none=> some (.inr (.inr none))
  | some x8 =>
  obind (m_cert_reader_big x8.2) fun y9=> match y9 with
  | none=> some (.inr (.inr none))
  | some x9 =>
  obind (m_cert_reader_big x9.2) fun y10=> match y10 with
  | none=> some (.inr (.inr none))
  | some x10 =>
  obind (m_cert_reader_big x10.2) fun y11=> match y11 with
  | none=> some (.inr (.inr none))
  | some x11 =>
  obind (m_cert_reader_big x11.2) fun y12=> match y12 with
  | none=> some (.inr (.inr none))
  | some x12 =>
  obind (app 48 s1.2 ([(⟨x7.1,x8.1,(x9.1,x10.1),(⟨x11.1,x12.1⟩ : g_api_Sig)⟩ : g_api_Promise)] : List g_api_Promise)) fun x13 =>
  obind (m_cert_reader_end x12.2) fun y13=> match y13 with
  | none=> some (.inr (.inr none))
  | some x14 =>
  some (.inl (x6.2.l_,x13))
 else
 some (.inr (.inl (s1.1,s1.2)))
def m_cert_reader_body (a0 : g_cert_reader) : Option (Option (g_api_Cert × g_cert_reader)) :=
 obind (m_cert_reader_sub a0) fun y1=> match y1 with
 | none=> some none
 | some x1 =>
 obind (m_cert_reader_pre x1.1) fun y2=> match y2 with
 | none=> some none
 | some x2 =>
 obind (m_cert_reader_sub x1.2) fun y3=> match y3 with
 | none=> some none
 | some x3 =>
 obind (iter m_cert_reader_body_b5 FUEL (x3.1.l_,([] : List g_api_Promise))) fun x4=> match x4 with
 | .inr r=> some r
 | .inl y4 =>
 obind (m_cert_reader_end x3.2) fun y14=> match y14 with
 | none=> some none
 | some x15 =>
 some (some ((⟨x2.1.Serial,x2.1.Issuer,x2.1.Subject,x2.1.Key,x2.1.Names,x2.1.From,x2.1.Until,x2.1.Ca,x2.1.Depth,x2.1.Permit,y4.2,x2.1.Sig⟩ : g_api_Cert),x15))
theorem w_cert_reader_body {a0 : g_cert_reader} {r : Option (g_api_Cert × g_cert_reader)} (hm : m_cert_reader_body a0 = some r) : Sb prog 56 [.pb 0 0] [.box 0 [sl e_api_Item a0.l_] 100] 1 oddV (Pos r (fun r=> ag (e_api_Cert r.1)) (fun r=> [.box 0 [.d (.sl _ e_api_Item r.2.l_)] 100]) 1) (r = none) :=
 sb call56 func56 rfl ntmps56 rfl fun D0 As η0 m0 hd=> by
  unfold m_cert_reader_body at hm
  obtain ⟨y1,q1,hm⟩:= oY0 hm
  rcases y1 with _ | x1
  ·dsimp only at hm
   have e0:= sI0 hm
   subst e0
   exact gpan (w_cert_reader_sub q1) (by kernel_rfl)
  dsimp only at hm
  refine gco (w_cert_reader_sub q1).sp (by kernel_rfl) ?_
  obtain ⟨y2,q2,hm⟩:= oY0 hm
  rcases y2 with _ | x2
  ·dsimp only at hm
   have e0:= sI0 hm
   subst e0
   exact gpan (w_cert_reader_pre q2) (by kernel_rfl)
  dsimp only at hm
  refine gco (w_cert_reader_pre q2).sp (by kernel_rfl) ?_
  obtain ⟨y3,q3,hm⟩:= oY0 hm
  rcases y3 with _ | x3
  ·dsimp only at hm
   have e0:= sI0 hm
   subst e0
   exact gpan (w_cert_reader_sub q3) (by kernel_rfl)
  dsimp only at hm
  refine gco (w_cert_reader_sub q3).sp (by kernel_rfl) ?_
  obtain ⟨x4,q4,hm⟩:= oY0 hm
  refine gnilBU 0 e_api_Promise 3 10 6 (by kernel_rfl) ?_
  refine gjU 0 (fun (y4 : (List g_api_Item) × (List g_api_Promise))=> let (y_0,y_1):= y4; ⟨[(0,.pb 0 0),(2,.pb 1 0),(3,.pb 3 0),(10,.pb 4 0),(7,.pb 2 0)],[(0,.row 5 6 _ e_api_Promise y_1),(1,.box 4 [sl e_api_Item y_0] 100),(2,.box 0 [sl e_api_Item x3.2.l_] 100),(3,.box 3 [.d (.i x2.1.Serial),.d (.s x2.1.Issuer),.d (.s x2.1.Subject),.d (.u x2.1.Key),sl eS x2.1.Names,.d (.i x2.1.From),.d (.i x2.1.Until),.d (.t x2.1.Ca),.d (.i x2.1.Depth),sl eS x2.1.Permit,.ow 5,.d (.u x2.1.Sig.E),.d (.u x2.1.Sig.S)] 28),(4,.box 2 [sl e_api_Item x2.2.l_] 100),(5,.box 1 [.d (.i 0),.d (.s ByteArray.empty),.d (.s ByteArray.empty),.d (.u 0),sl eS [],.d (.i 0),.d (.i 0),.d (.t false),.d (.i 0),sl eS [],sl e_api_Promise [],.d (.u 0),.d (.u 0)] 28)],[],6⟩) (fun y4=> x4 = .inl y4) (by kernel_rfl) (fun Jp bk1=> ?_) fun y4 hy=> ?_
  ·refine gl hd (fun (p : Nat × ((List g_api_Item) × (List g_api_Promise)))=> let (p0,p_0,p_1):= p; ⟨[(0,.pb 0 0),(2,.pb 1 0),(3,.pb 3 0),(4,.pb 4 0),(10,.pb 4 0),(7,.pb 2 0)],[(0,.row 5 6 _ e_api_Promise p_1),(1,.box 4 [sl e_api_Item p_0] 100),(2,.box 0 [sl e_api_Item x3.2.l_] 100),(3,.box 3 [.d (.i x2.1.Serial),.d (.s x2.1.Issuer),.d (.s x2.1.Subject),.d (.u x2.1.Key),sl eS x2.1.Names,.d (.i x2.1.From),.d (.i x2.1.Until),.d (.t x2.1.Ca),.d (.i x2.1.Depth),sl eS x2.1.Permit,.ow 5,.d (.u x2.1.Sig.E),.d (.u x2.1.Sig.S)] 28),(4,.box 2 [sl e_api_Item x2.2.l_] 100),(5,.box 1 [.d (.i 0),.d (.s ByteArray.empty),.d (.s ByteArray.empty),.d (.u 0),sl eS [],.d (.i 0),.d (.i 0),.d (.t false),.d (.i 0),sl eS [],sl e_api_Promise [],.d (.u 0),.d (.u 0)] 28)],[],6⟩) (fun p=> iter m_cert_reader_body_b5 p.1 p.2 = some x4) (fun p=> p.1) (FUEL,(x3.1.l_,([] : List g_api_Promise))) q4 (by kernel_rfl) ?_
   rintro ⟨n1,s1⟩ q5 Jl bl1
   cases n1 with
   | zero=> exact (iter_zero q5).elim
   | succ n1 =>
    obtain ⟨y5,q7,q6⟩:= iter_succ q5
    unfold m_cert_reader_body_b5 at q7
    refine gi q7 (by kernel_rfl) (fun hc1 q7=> ?_) fun hc1 q7=> ?_
    ·skip
     obtain ⟨y6,q9,q7⟩:= oY0 q7
     rcases y6 with _ | x6
     ·dsimp only at q7
      cases q7
      rcases q6 with ⟨sn,e,_⟩ | e
      ·cases e
      cases e
      dsimp only at hm
      have e0:= sI0 hm
      subst e0
      exact gpan (w_cert_reader_sub q9) (by kernel_rfl)
     dsimp only at q7
     refine gco (w_cert_reader_sub q9).sp (by kernel_rfl) ?_
     obtain ⟨y7,q10,q7⟩:= oY0 q7
     rcases y7 with _ | x7
     ·dsimp only at q7
      cases q7
      rcases q6 with ⟨sn,e,_⟩ | e
      ·cases e
      cases e
      dsimp only at hm
      have e0:= sI0 hm
      subst e0
      exact gpanD (w_cert_reader_count q10) (by kernel_rfl)
     dsimp only at q7
     refine gco (w_cert_reader_count q10).sp (by kernel_rfl) ?_
     obtain ⟨y8,q11,q7⟩:= oY0 q7
     rcases y8 with _ | x8
     ·dsimp only at q7
      cases q7
      rcases q6 with ⟨sn,e,_⟩ | e
      ·cases e
      cases e
      dsimp only at hm
      have e0:= sI0 hm
      subst e0
      exact gpanD (w_cert_reader_count q11) (by kernel_rfl)
     dsimp only at q7
     refine gco (w_cert_reader_count q11).sp (by kernel_rfl) ?_
     obtain ⟨y9,q12,q7⟩:= oY0 q7
     rcases y9 with _ | x9
     ·dsimp only at q7
      cases q7
      rcases q6 with ⟨sn,e,_⟩ | e
      ·cases e
      cases e
      dsimp only at hm
      have e0:= sI0 hm
      subst e0
      exact gpanD (w_cert_reader_big q12) (by kernel_rfl)
     dsimp only at q7
     refine gco (w_cert_reader_big q12).sp (by kernel_rfl) ?_
     obtain ⟨y10,q13,q7⟩:= oY0 q7
     rcases y10 with _ | x10
     ·dsimp only at q7
      cases q7
      rcases q6 with ⟨sn,e,_⟩ | e
      ·cases e
      cases e
      dsimp only at hm
      have e0:= sI0 hm
      subst e0
      exact gpanD (w_cert_reader_big q13) (by kernel_rfl)
     dsimp only at q7
     refine gco (w_cert_reader_big q13).sp (by kernel_rfl) ?_
     obtain ⟨y11,q14,q7⟩:= oY0 q7
     rcases y11 with _ | x11
     ·dsimp only at q7
      cases q7
      rcases q6 with ⟨sn,e,_⟩ | e
      ·cases e
      cases e
      dsimp only at hm
      have e0:= sI0 hm
      subst e0
      exact gpanD (w_cert_reader_big q14) (by kernel_rfl)
     dsimp only at q7
     refine gco (w_cert_reader_big q14).sp (by kernel_rfl) ?_
     obtain ⟨y12,q15,q7⟩:= oY0 q7
     rcases y12 with _ | x12
     ·dsimp only at q7
      cases q7
      rcases q6 with ⟨sn,e,_⟩ | e
      ·cases e
      cases e
      dsimp only at hm
      have e0:= sI0 hm
      subst e0
      exact gpanD (w_cert_reader_big q15) (by kernel_rfl)
     dsimp only at q7
     refine gco (w_cert_reader_big q15).sp (by kernel_rfl) ?_
     refine glitF (k:= 6) e_api_Promise ([(⟨x7.1,x8.1,(x9.1,x10.1),(⟨x11.1,x12.1⟩ : g_api_Sig)⟩ : g_api_Promise)] : List g_api_Promise) (fun _=> rfl) (by kernel_rfl) ?_
     obtain ⟨x13,q16,q7⟩:= oY0 q7
     refine gapp (k:= 6) (E:= e_api_Promise) (fun _=> rfl) q16 (by kernel_rfl) ?_
     obtain ⟨y13,q17,q7⟩:= oY0 q7
     rcases y13 with _ | x14
     ·dsimp only at q7
      cases q7
      rcases q6 with ⟨sn,e,_⟩ | e
      ·cases e
      cases e
      dsimp only at hm
      have e0:= sI0 hm
      subst e0
      exact gpan (w_cert_reader_end q17) (by kernel_rfl)
     dsimp only at q7
     refine gco (w_cert_reader_end q17).sp (by kernel_rfl) ?_
     have e0:= sI0 q7
     subst e0
     rcases q6 with ⟨sn,e,q6'⟩ | e
     ·have e:= Sum.inl.inj e
      subst e
      exact gb bl1 hd (n1,_) ⟨q6',Nat.lt_succ_self _⟩ (by kernel_rfl)
     cases sum_lr e
    have e0:= sI0 q7
    subst e0
    rcases q6 with ⟨sn,e,_⟩ | e
    ·cases sum_rl e
    have e:= Sum.inr.inj e
    subst e
    exact gb bk1 hd (s1.1,s1.2) rfl (by kernel_rfl)
  subst hy
  dsimp only at hm
  obtain ⟨y14,q18,hm⟩:= oY0 hm
  rcases y14 with _ | x15
  ·dsimp only at hm
   have e0:= sI0 hm
   subst e0
   exact gpan (w_cert_reader_end q18) (by kernel_rfl)
  dsimp only at hm
  refine gco (w_cert_reader_end q18).sp (by kernel_rfl) ?_
  have e0:= sI0 hm
  subst e0
  exact gendB hd (by kernel_rfl)
def m_cert_reader_whole (a0 : g_cert_reader) : Option (Option (g_api_Cert × g_cert_reader)) :=
 obind (m_cert_reader_sub a0) fun y1=> match y1 with
 | none=> some none
 | some x1 =>
 obind (m_cert_reader_body x1.1) fun y2=> match y2 with
 | none=> some none
 | some x2 =>
 obind (m_cert_reader_sub x1.2) fun y3=> match y3 with
 | none=> some none
 | some x3 =>
 obind (m_cert_reader_big x3.1) fun y4=> match y4 with
 | none=> some none
 | some x4 =>
 obind (m_cert_reader_big x4.2) fun y5=> match y5 with
 | none=> some none
 | some x5 =>
 obind (m_cert_reader_end x5.2) fun y6=> match y6 with
 | none=> some none
 | some x6 =>
 obind (m_cert_reader_end x3.2) fun y7=> match y7 with
 | none=> some none
 | some x7 =>
 some (some ((⟨x2.1.Serial,x2.1.Issuer,x2.1.Subject,x2.1.Key,x2.1.Names,x2.1.From,x2.1.Until,x2.1.Ca,x2.1.Depth,x2.1.Permit,x2.1.Proms,(⟨x4.1,x5.1⟩ : g_api_Sig)⟩ : g_api_Cert),x7))
theorem w_cert_reader_whole {a0 : g_cert_reader} {r : Option (g_api_Cert × g_cert_reader)} (hm : m_cert_reader_whole a0 = some r) : Sb prog 54 [.pb 0 0] [.box 0 [sl e_api_Item a0.l_] 100] 1 oddV (Pos r (fun r=> ag (e_api_Cert r.1)) (fun r=> [.box 0 [.d (.sl _ e_api_Item r.2.l_)] 100]) 1) (r = none) :=
 sb call54 func54 rfl ntmps54 rfl fun D0 As η0 m0 hd=> by
  unfold m_cert_reader_whole at hm
  obtain ⟨y1,q1,hm⟩:= oY0 hm
  rcases y1 with _ | x1
  ·dsimp only at hm
   have e0:= sI0 hm
   subst e0
   exact gpan (w_cert_reader_sub q1) (by kernel_rfl)
  dsimp only at hm
  refine gco (w_cert_reader_sub q1).sp (by kernel_rfl) ?_
  obtain ⟨y2,q2,hm⟩:= oY0 hm
  rcases y2 with _ | x2
  ·dsimp only at hm
   have e0:= sI0 hm
   subst e0
   exact gpan (w_cert_reader_body q2) (by kernel_rfl)
  dsimp only at hm
  refine gco (w_cert_reader_body q2).sp (by kernel_rfl) ?_
  obtain ⟨y3,q3,hm⟩:= oY0 hm
  rcases y3 with _ | x3
  ·dsimp only at hm
   have e0:= sI0 hm
   subst e0
   exact gpan (w_cert_reader_sub q3) (by kernel_rfl)
  dsimp only at hm
  refine gco (w_cert_reader_sub q3).sp (by kernel_rfl) ?_
  obtain ⟨y4,q4,hm⟩:= oY0 hm
  rcases y4 with _ | x4
  ·dsimp only at hm
   have e0:= sI0 hm
   subst e0
   exact gpan (w_cert_reader_big q4) (by kernel_rfl)
  dsimp only at hm
  refine gco (w_cert_reader_big q4).sp (by kernel_rfl) ?_
  obtain ⟨y5,q5,hm⟩:= oY0 hm
  rcases y5 with _ | x5
  ·dsimp only at hm
   have e0:= sI0 hm
   subst e0
   exact gpan (w_cert_reader_big q5) (by kernel_rfl)
  dsimp only at hm
  refine gco (w_cert_reader_big q5).sp (by kernel_rfl) ?_
  obtain ⟨y6,q6,hm⟩:= oY0 hm
  rcases y6 with _ | x6
  ·dsimp only at hm
   have e0:= sI0 hm
   subst e0
   exact gpan (w_cert_reader_end q6) (by kernel_rfl)
  dsimp only at hm
  refine gco (w_cert_reader_end q6).sp (by kernel_rfl) ?_
  obtain ⟨y7,q7,hm⟩:= oY0 hm
  rcases y7 with _ | x7
  ·dsimp only at hm
   have e0:= sI0 hm
   subst e0
   exact gpan (w_cert_reader_end q7) (by kernel_rfl)
  dsimp only at hm
  refine gco (w_cert_reader_end q7).sp (by kernel_rfl) ?_
  have e0:= sI0 hm
  subst e0
  exact gendB hd (by kernel_rfl)
theorem d1_91 (a b : Value) (w : World) : CallsDIn (FW none) 0 prog 91 #[a,b] .returning w fun e u' w'=> ∃ v,e = .returned v ∧ u' = .returning ∧ w' = w:= by
 refine CallsDIn.mono (recov_of (N:= 11) (args:= [a,b]) (u:= .returning) (u':= .returning) (v:= .nilIface) (R:= fun w'=> w' = w) func91 rfl ntmps91 rfl (Nat.le_of_ble_eq_true rfl) rfl (fun c₀ cs hu=> .inr ⟨by simp [recoverD,hu],rfl,rfl⟩) ?_) fun e u2 w' ⟨x,h1,h2,_,h3⟩=> ⟨x,h1,h2,h3⟩
 refine wpc_seq (wpc_region (l:= [_]) ?_)
 refine s_mv ?_
 refine wpl_nil (nrm ?_)
 refine wpc_block (wpc_seq (wpc_region (l:= [_]) ?_))
 refine wpl_val (v:= .bool true) (w':= w) rfl (fun _ e=> by cases e) (by kernel_rfl) ?_
 refine wpl_nil (nrm ?_)
 refine wpc_true rfl ?_
 exact wpc_skip (nrmB ⟨.inl rfl,rfl⟩)
def zd28 : List D:= [.i 0,.s .empty,.s .empty,.u 0,.v (.slice none 0 0),.i 0,.i 0,.t false,.i 0,.v (.slice none 0 0),.v (.slice none 0 0),.u 0,.u 0]
theorem d2_91 (m : Mem) (As : List Ow) (w : World) (bc be : Nat) (cs es : List Value) (hc : cs.length = 13) (he : es.length = 1) (hc1 : ∀ v ∈ cs,v.oneCell' = true) (he1 : ∀ v ∈ es,v.oneCell' = true) (S : St m (bx bc cs 28 :: bx be es 31 :: As) w) :
  CallsDIn (FW none) 0 prog 91 #[pt bc 0,pt be 0] (.panicking (chn oddV)) w fun e u' w'=> ∃ v,e = .returned v ∧ u' = .panicking [{ v:= oddV,recovered:= true }] ∧ Kd w w' ∧
   ∃ M zs ze,m ≤ M ∧ FRL M zd28 zs ∧ FR M (.i 71) ze ∧ St M (bx bc zs 28 :: bx be [ze] 31 :: As) w':= by
 refine recov_of (N:= 11) (args:= [pt bc 0,pt be 0]) (u:= .panicking (chn oddV)) (u':= .panicking [{ v:= oddV,recovered:= true }]) (v:= oddV) func91 rfl ntmps91 rfl (Nat.le_of_ble_eq_true rfl) rfl (fun c₀ cs hu=> .inl (by simp [recoverD,hu,chn])) ?_
 refine wpc_seq (wpc_region (l:= [_]) ?_)
 refine s_mv ?_
 refine wpl_nil (nrm ?_)
 refine wpc_block (wpc_seq (wpc_region (l:= [_]) ?_))
 refine wpl_val (v:= .bool false) (w':= w) rfl (fun _ e=> by cases e) (by kernel_rfl) ?_
 refine wpl_nil (nrm ?_)
 refine wpc_false rfl ?_
 refine wpc_seq (wpc_region (l:= [_,_,_]) ?_)
 refine wpl_val (v:= .tuple #[.agg #[],.bool true]) (w':= w) rfl (fun _ e=> by cases e) (by kernel_rfl) ?_
 refine wpl_val (v:= .bool true) (w':= w) rfl (fun _ e=> by cases e) (by kernel_rfl) ?_
 refine wpl_val (v:= .agg #[]) (w':= w) rfl (fun _ e=> by cases e) (by kernel_rfl) ?_
 refine wpl_nil (nrm ?_)
 refine wpc_true rfl ?_
 let η0 : Env:= fun n=> if n = 0 then some (pt bc 0) else if n = 1 then some (pt be 0) else none
 have h0 : η0 0 = some (pt bc 0):= rfl
 have h1 : η0 1 = some (pt be 0):= rfl
 have hd : ∀ n,η0 n ≠ none → n < 2:= fun n h=> by
  show n < 2
  have h : (if n = 0 then some (pt bc 0) else if n = 1 then some (pt be 0) else none) ≠ none:= h
  split at h
  ·omega
  ·split at h
   ·omega
   ·exact absurd rfl h
 have ho:= fun (l : List Value) (v : Value) (hv : v ∈ l) (q : ∀ v ∈ l,v.oneCell' = true)=> q v hv
 let s0 : AS:= ⟨[(0,.pb 0 0),(1,.pb 1 0)],[(0,.box 0 (List.replicate 13 .any) 28),(1,.box 1 [.any] 31)],[],2⟩
 have any_rel : ∀ {n : Nat} {l : List Value},l.length = n → RelL η0 m (List.replicate n .any) l:= fun hl=> ⟨by simp [hl],fun k c u a b=> by
  rw [List.getElem?_replicate] at a
  split at a
  ·cases a; exact .any _
  ·cases a⟩
 have S2 : St m (rep η0 m (.box 0 (List.replicate 13 .any) 28) :: rep η0 m (.box 1 [.any] 31) :: As) w:= by
  have T:= St.closeBox h0 (any_rel hc) hc1 S
  have T2:= T.perm (List.Perm.swap _ _ _)
  have T3:= St.closeBox h1 (any_rel (n:= 1) he) he1 T2
  exact T3.perm (List.Perm.swap _ _ _)
 refine wpc_mono (Q:= Ax.pk none prog 11 (w,[],true) (outG (Rl As η0 m (fun _ : Unit=> ⟨[],[(0,.box 0 (zd28.map .d) 28),(1,.box 1 [.d (.i 71)] 31)],[],2⟩) (fun _=> True)) oddV (fun _ _=> False)) [.blk 0]) ?_ (gat s0 (η:= η0) (m:= m) ?_ (gretG () trivial hd (by kernel_rfl)))
 ·intro e f' w' q
  have fin : Rl As η0 m (fun _ : Unit=> ⟨[],[(0,.box 0 (zd28.map .d) 28),(1,.box 1 [.d (.i 71)] 31)],[],2⟩) (fun _=> True) f' w' → ∃ M zs ze,m ≤ M ∧ FRL M zd28 zs ∧ FR M (.i 71) ze ∧ St M (bx bc zs 28 :: bx be [ze] 31 :: As) w' :=
   fun ⟨_,_,η,M,le,l,gm⟩=> let ⟨zs,ze,a,b,c⟩:= two_boxes h0 h1 le gm; ⟨M,zs,ze,l,a,b,c⟩
  cases e with
  | normal=> exact ⟨.inl rfl,fin q⟩
  | ret=> exact ⟨.inr rfl,fin q⟩
  | exit id =>
   have q : (bif Nat.beq id 0 then Rl As η0 m (fun _ : Unit=> ⟨[],[(0,.box 0 (zd28.map .d) 28),(1,.box 1 [.d (.i 71)] 31)],[],2⟩) (fun _=> True) f' w' else False):= q
   cases hb : Nat.beq id 0
   ·rw [hb] at q; exact q.elim
   ·rw [hb] at q
    refine (show inBlk 0 _ (.exit id) f' w' from ?_)
    simp only [inBlk,hb,cond_true]
    exact ⟨by simp,fin q⟩
  | goto l=> exact q.elim
  | panic ch=> exact q.2.elim
  | outgrown=> exact q.elim
 ·refine ⟨fun t=> ?_,fun n d h=> (by cases h),hd,S2,?_,fun t ht=> ?_⟩
  ·match t with
   | 0=> exact .pb h0
   | 1=> exact .pb h1
   | t + 2=> exact .any _
  ·show [0,1].Nodup; decide
  ·have : t ∈ [0,1]:= ht
   show t < 2
   simp at this; omega
def mp_cert_get_54x (a0 : List UInt8) (x1 : g_api_Item × Int × Int) : Option (Option (g_api_Cert × Int)) :=
 obind (m_cert_must (x1.2.1 == (a0.length : Int))) fun y1=> match y1 with
 | none=> some none
 | some x2 =>
 obind (m_cert_in x1.1) fun y2=> match y2 with
 | none=> some none
 | some x3 =>
 obind (m_cert_reader_whole x3) fun y3=> match y3 with
 | none=> some none
 | some x4 =>
 obind (m_cert_Check x4.1) fun x5 =>
 obind (m_cert_must (x5 == 0)) fun y4=> match y4 with
 | none=> some none
 | some x6 =>
 some (some (x4.1,0))
def m_cert_get_54x (a0 : List UInt8) : Option (g_api_Cert × Int) :=
 obind (m_der_Get a0 0) fun x1 =>
 if (x1.2.2 != 0) = true then
  some ((⟨0,ByteArray.empty,ByteArray.empty,0,[],0,0,false,0,[],[],(⟨0,0⟩ : g_api_Sig)⟩ : g_api_Cert),x1.2.2)
 else
 obind (mp_cert_get_54x a0 x1) fun z=> some (match z with
  | none=> ((⟨0,ByteArray.empty,ByteArray.empty,0,[],0,0,false,0,[],[],(⟨0,0⟩ : g_api_Sig)⟩ : g_api_Cert),71)
  | some c=> c)
theorem w_cert_get_54x {a0 : List UInt8} {r : g_api_Cert × Int} (hm : m_cert_get_54x a0 = some r) : Sf prog 53 [sl eB a0,.fn (.func 54) [] []] (.tup [ag (e_api_Cert r.1),.d (.i r.2)]):= by
 unfold m_cert_get_54x at hm
 obtain ⟨x1,q1,hm⟩:= oY0 hm
 refine get_of (N:= 33) (nc:= 13) (tc:= 28) (te:= 31) (zd:= [.i 0,.s ByteArray.empty,.s ByteArray.empty,.u 0,.v (.slice none 0 0),.i 0,.i 0,.t false,.i 0,.v (.slice none 0 0),.v (.slice none 0 0),.u 0,.u 0]) (ev0:= .i 71) (ov:= oddV) (ok1:= ((x1.2.2 != 0)) = false) (okX:= ((x1.2.2 != 0)) = false ∧ mp_cert_get_54x a0 x1 = some none) (okE:= fun c=> ((x1.2.2 != 0)) = false ∧ mp_cert_get_54x a0 x1 = some (some c)) (JE:= fun (c : g_api_Cert × Int)=> ⟨[(4,.pb 0 0),(5,.pb 1 0)],[(0,.box 0 [.d (.i c.1.Serial),.d (.s c.1.Issuer),.d (.s c.1.Subject),.d (.u c.1.Key),sl eS c.1.Names,.d (.i c.1.From),.d (.i c.1.Until),.d (.t c.1.Ca),.d (.i c.1.Depth),sl eS c.1.Permit,sl e_api_Promise c.1.Proms,.d (.u c.1.Sig.E),.d (.u c.1.Sig.S)] 28),(1,.box 1 [.d (.i c.2)] 31)],[],2⟩) (J1:= ⟨[(0,sl eB a0),(1,.fn (.func 54) [] []),(4,.pb 0 0),(5,.pb 1 0),(6,.pb 2 0),(7,.d (.i x1.2.1))],[(0,.box 2 [.d (.i x1.1.Tag),sl eB x1.1.B,sl e_api_Item x1.1.L] 56),(1,.box 1 [.d (.i x1.2.2)] 31),(2,.box 0 [.d (.i 0),.d (.s ByteArray.empty),.d (.s ByteArray.empty),.d (.u 0),sl eS [],.d (.i 0),.d (.i 0),.d (.t false),.d (.i 0),sl eS [],sl e_api_Promise [],.d (.u 0),.d (.u 0)] 28)],[],3⟩) call53 call91 func53 rfl ntmps53 rfl rfl ⟨rfl,rfl⟩ rfl ?_ ?_ ?_ (fun c hc=> rfl) ?_ (d1_91) (d2_91)
 ·intro D0 As η0 m0 Jp hd bk
  refine G.h ?_
  refine gc (fun _=> w_der_Get q1) (by kernel_rfl) ?_
  refine gi hm (by kernel_rfl) (fun hc1 hm=> ?_) fun hc1 hm=> ?_
  ·skip
   have e0:= sI0 hm
   subst e0
   exact gend hd (by kernel_rfl)
  exact gb bk hd () hc1 (by kernel_rfl)
 ·intro hok D0 As η0 m0 hd
  refine G.h ?_
  rw [if_neg (by rw [hok]; decide)] at hm
  obtain ⟨z,hz,hm⟩:= oY0 hm
  have hz2:= hz
  unfold mp_cert_get_54x at hz2
  obtain ⟨y1,q2,hz2⟩:= oY0 hz2
  rcases y1 with _ | x2
  ·dsimp only at hz2
   have e0:= sI0 hz2
   subst e0
   exact gpanG (w_cert_must q2) ⟨hok,hz⟩ hd (by kernel_rfl) (by kernel_rfl)
  dsimp only at hz2
  refine gc (fun _=> (w_cert_must q2).sp) (by kernel_rfl) ?_
  obtain ⟨y2,q3,hz2⟩:= oY0 hz2
  rcases y2 with _ | x3
  ·dsimp only at hz2
   have e0:= sI0 hz2
   subst e0
   exact gpanG (w_cert_in q3) ⟨hok,hz⟩ hd (by kernel_rfl) (by kernel_rfl)
  dsimp only at hz2
  refine gco (w_cert_in q3).sp (by kernel_rfl) ?_
  obtain ⟨y3,q4,hz2⟩:= oY0 hz2
  rcases y3 with _ | x4
  ·dsimp only at hz2
   have e0:= sI0 hz2
   subst e0
   exact gpanG (w_cert_reader_whole q4) ⟨hok,hz⟩ hd (by kernel_rfl) (by kernel_rfl)
  dsimp only at hz2
  refine gco (w_cert_reader_whole q4).sp (by kernel_rfl) ?_
  obtain ⟨x5,q5,hz2⟩:= oY0 hz2
  refine gc (fun _=> w_cert_Check q5) (by kernel_rfl) ?_
  obtain ⟨y4,q6,hz2⟩:= oY0 hz2
  rcases y4 with _ | x6
  ·dsimp only at hz2
   have e0:= sI0 hz2
   subst e0
   exact gpanG (w_cert_must q6) ⟨hok,hz⟩ hd (by kernel_rfl) (by kernel_rfl)
  dsimp only at hz2
  refine gc (fun _=> (w_cert_must q6).sp) (by kernel_rfl) ?_
  have e0:= sI0 hz2
  subst e0
  exact gretG _ ⟨hok,hz⟩ hd (by kernel_rfl)
 ·rintro c ⟨hC,hz⟩ D0 As η0 m0 hd
  rw [if_neg (by rw [hC]; decide),hz] at hm
  have e0 : c = r:= sI0 hm
  subst e0
  exact G.h (gend hd (by kernel_rfl))
 ·rintro ⟨hC,hz⟩ D0 As η0 m0 hd
  rw [if_neg (by rw [hC]; decide),hz] at hm
  have e0 : ((⟨0,ByteArray.empty,ByteArray.empty,0,[],0,0,false,0,[],[],(⟨0,0⟩ : g_api_Sig)⟩ : g_api_Cert),71) = r:= sI0 hm
  subst e0
  exact G.h (gend hd (by kernel_rfl))
def m_cert_Get (a0 : List UInt8) : Option (g_api_Cert × Int) :=
 obind (m_cert_get_54x a0) fun x1 =>
 some (x1.1,x1.2)
theorem w_cert_Get {a0 : List UInt8} {r : g_api_Cert × Int} (hm : m_cert_Get a0 = some r) : Sf prog 26 [sl eB a0] (.tup [ag (e_api_Cert r.1),.d (.i r.2)]) :=
 sp call26 func26 rfl ntmps26 rfl fun D0 As η0 m0 hd=> by
  unfold m_cert_Get at hm
  obtain ⟨x1,q1,hm⟩:= oY0 hm
  refine gc (fun _=> w_cert_get_54x q1) (by kernel_rfl) ?_
  have e0:= sI0 hm
  subst e0
  exact gend hd (by kernel_rfl)
def mp_cert_get_56x (a0 : List UInt8) (x1 : g_api_Item × Int × Int) : Option (Option (g_api_Cert × Int)) :=
 obind (m_cert_must (x1.2.1 == (a0.length : Int))) fun y1=> match y1 with
 | none=> some none
 | some x2 =>
 obind (m_cert_in x1.1) fun y2=> match y2 with
 | none=> some none
 | some x3 =>
 obind (m_cert_reader_body x3) fun y3=> match y3 with
 | none=> some none
 | some x4 =>
 obind (m_cert_Check x4.1) fun x5 =>
 obind (m_cert_must (x5 == 0)) fun y4=> match y4 with
 | none=> some none
 | some x6 =>
 some (some (x4.1,0))
def m_cert_get_56x (a0 : List UInt8) : Option (g_api_Cert × Int) :=
 obind (m_der_Get a0 0) fun x1 =>
 if (x1.2.2 != 0) = true then
  some ((⟨0,ByteArray.empty,ByteArray.empty,0,[],0,0,false,0,[],[],(⟨0,0⟩ : g_api_Sig)⟩ : g_api_Cert),x1.2.2)
 else
 obind (mp_cert_get_56x a0 x1) fun z=> some (match z with
  | none=> ((⟨0,ByteArray.empty,ByteArray.empty,0,[],0,0,false,0,[],[],(⟨0,0⟩ : g_api_Sig)⟩ : g_api_Cert),71)
  | some c=> c)
theorem w_cert_get_56x {a0 : List UInt8} {r : g_api_Cert × Int} (hm : m_cert_get_56x a0 = some r) : Sf prog 53 [sl eB a0,.fn (.func 56) [] []] (.tup [ag (e_api_Cert r.1),.d (.i r.2)]):= by
 unfold m_cert_get_56x at hm
 obtain ⟨x1,q1,hm⟩:= oY0 hm
 refine get_of (N:= 33) (nc:= 13) (tc:= 28) (te:= 31) (zd:= [.i 0,.s ByteArray.empty,.s ByteArray.empty,.u 0,.v (.slice none 0 0),.i 0,.i 0,.t false,.i 0,.v (.slice none 0 0),.v (.slice none 0 0),.u 0,.u 0]) (ev0:= .i 71) (ov:= oddV) (ok1:= ((x1.2.2 != 0)) = false) (okX:= ((x1.2.2 != 0)) = false ∧ mp_cert_get_56x a0 x1 = some none) (okE:= fun c=> ((x1.2.2 != 0)) = false ∧ mp_cert_get_56x a0 x1 = some (some c)) (JE:= fun (c : g_api_Cert × Int)=> ⟨[(4,.pb 0 0),(5,.pb 1 0)],[(0,.box 0 [.d (.i c.1.Serial),.d (.s c.1.Issuer),.d (.s c.1.Subject),.d (.u c.1.Key),sl eS c.1.Names,.d (.i c.1.From),.d (.i c.1.Until),.d (.t c.1.Ca),.d (.i c.1.Depth),sl eS c.1.Permit,sl e_api_Promise c.1.Proms,.d (.u c.1.Sig.E),.d (.u c.1.Sig.S)] 28),(1,.box 1 [.d (.i c.2)] 31)],[],2⟩) (J1:= ⟨[(0,sl eB a0),(1,.fn (.func 56) [] []),(4,.pb 0 0),(5,.pb 1 0),(6,.pb 2 0),(7,.d (.i x1.2.1))],[(0,.box 2 [.d (.i x1.1.Tag),sl eB x1.1.B,sl e_api_Item x1.1.L] 56),(1,.box 1 [.d (.i x1.2.2)] 31),(2,.box 0 [.d (.i 0),.d (.s ByteArray.empty),.d (.s ByteArray.empty),.d (.u 0),sl eS [],.d (.i 0),.d (.i 0),.d (.t false),.d (.i 0),sl eS [],sl e_api_Promise [],.d (.u 0),.d (.u 0)] 28)],[],3⟩) call53 call91 func53 rfl ntmps53 rfl rfl ⟨rfl,rfl⟩ rfl ?_ ?_ ?_ (fun c hc=> rfl) ?_ (d1_91) (d2_91)
 ·intro D0 As η0 m0 Jp hd bk
  refine G.h ?_
  refine gc (fun _=> w_der_Get q1) (by kernel_rfl) ?_
  refine gi hm (by kernel_rfl) (fun hc1 hm=> ?_) fun hc1 hm=> ?_
  ·skip
   have e0:= sI0 hm
   subst e0
   exact gend hd (by kernel_rfl)
  exact gb bk hd () hc1 (by kernel_rfl)
 ·intro hok D0 As η0 m0 hd
  refine G.h ?_
  rw [if_neg (by rw [hok]; decide)] at hm
  obtain ⟨z,hz,hm⟩:= oY0 hm
  have hz2:= hz
  unfold mp_cert_get_56x at hz2
  obtain ⟨y1,q2,hz2⟩:= oY0 hz2
  rcases y1 with _ | x2
  ·dsimp only at hz2
   have e0:= sI0 hz2
   subst e0
   exact gpanG (w_cert_must q2) ⟨hok,hz⟩ hd (by kernel_rfl) (by kernel_rfl)
  dsimp only at hz2
  refine gc (fun _=> (w_cert_must q2).sp) (by kernel_rfl) ?_
  obtain ⟨y2,q3,hz2⟩:= oY0 hz2
  rcases y2 with _ | x3
  ·dsimp only at hz2
   have e0:= sI0 hz2
   subst e0
   exact gpanG (w_cert_in q3) ⟨hok,hz⟩ hd (by kernel_rfl) (by kernel_rfl)
  dsimp only at hz2
  refine gco (w_cert_in q3).sp (by kernel_rfl) ?_
  obtain ⟨y3,q4,hz2⟩:= oY0 hz2
  rcases y3 with _ | x4
  ·dsimp only at hz2
   have e0:= sI0 hz2
   subst e0
   exact gpanG (w_cert_reader_body q4) ⟨hok,hz⟩ hd (by kernel_rfl) (by kernel_rfl)
  dsimp only at hz2
  refine gco (w_cert_reader_body q4).sp (by kernel_rfl) ?_
  obtain ⟨x5,q5,hz2⟩:= oY0 hz2
  refine gc (fun _=> w_cert_Check q5) (by kernel_rfl) ?_
  obtain ⟨y4,q6,hz2⟩:= oY0 hz2
  rcases y4 with _ | x6
  ·dsimp only at hz2
   have e0:= sI0 hz2
   subst e0
   exact gpanG (w_cert_must q6) ⟨hok,hz⟩ hd (by kernel_rfl) (by kernel_rfl)
  dsimp only at hz2
  refine gc (fun _=> (w_cert_must q6).sp) (by kernel_rfl) ?_
  have e0:= sI0 hz2
  subst e0
  exact gretG _ ⟨hok,hz⟩ hd (by kernel_rfl)
 ·rintro c ⟨hC,hz⟩ D0 As η0 m0 hd
  rw [if_neg (by rw [hC]; decide),hz] at hm
  have e0 : c = r:= sI0 hm
  subst e0
  exact G.h (gend hd (by kernel_rfl))
 ·rintro ⟨hC,hz⟩ D0 As η0 m0 hd
  rw [if_neg (by rw [hC]; decide),hz] at hm
  have e0 : ((⟨0,ByteArray.empty,ByteArray.empty,0,[],0,0,false,0,[],[],(⟨0,0⟩ : g_api_Sig)⟩ : g_api_Cert),71) = r:= sI0 hm
  subst e0
  exact G.h (gend hd (by kernel_rfl))
def m_cert_GetBody (a0 : List UInt8) : Option (g_api_Cert × Int) :=
 obind (m_cert_get_56x a0) fun x1 =>
 some (x1.1,x1.2)
theorem w_cert_GetBody {a0 : List UInt8} {r : g_api_Cert × Int} (hm : m_cert_GetBody a0 = some r) : Sf prog 28 [sl eB a0] (.tup [ag (e_api_Cert r.1),.d (.i r.2)]) :=
 sp call28 func28 rfl ntmps28 rfl fun D0 As η0 m0 hd=> by
  unfold m_cert_GetBody at hm
  obtain ⟨x1,q1,hm⟩:= oY0 hm
  refine gc (fun _=> w_cert_get_56x q1) (by kernel_rfl) ?_
  have e0:= sI0 hm
  subst e0
  exact gend hd (by kernel_rfl)
def mp_cert_get_57x (a0 : List UInt8) (x1 : g_api_Item × Int × Int) : Option (Option (g_api_Cert × Int)) :=
 obind (m_cert_must (x1.2.1 == (a0.length : Int))) fun y1=> match y1 with
 | none=> some none
 | some x2 =>
 obind (m_cert_in x1.1) fun y2=> match y2 with
 | none=> some none
 | some x3 =>
 obind (m_cert_reader_pre x3) fun y3=> match y3 with
 | none=> some none
 | some x4 =>
 obind (m_cert_Check (⟨x4.1.Serial,x4.1.Issuer,x4.1.Subject,x4.1.Key,x4.1.Names,x4.1.From,x4.1.Until,x4.1.Ca,x4.1.Depth,x4.1.Permit,[],x4.1.Sig⟩ : g_api_Cert)) fun x5 =>
 obind (m_cert_must (x5 == 0)) fun y4=> match y4 with
 | none=> some none
 | some x6 =>
 some (some ((⟨x4.1.Serial,x4.1.Issuer,x4.1.Subject,x4.1.Key,x4.1.Names,x4.1.From,x4.1.Until,x4.1.Ca,x4.1.Depth,x4.1.Permit,[],x4.1.Sig⟩ : g_api_Cert),0))
def m_cert_get_57x (a0 : List UInt8) : Option (g_api_Cert × Int) :=
 obind (m_der_Get a0 0) fun x1 =>
 if (x1.2.2 != 0) = true then
  some ((⟨0,ByteArray.empty,ByteArray.empty,0,[],0,0,false,0,[],[],(⟨0,0⟩ : g_api_Sig)⟩ : g_api_Cert),x1.2.2)
 else
 obind (mp_cert_get_57x a0 x1) fun z=> some (match z with
  | none=> ((⟨0,ByteArray.empty,ByteArray.empty,0,[],0,0,false,0,[],[],(⟨0,0⟩ : g_api_Sig)⟩ : g_api_Cert),71)
  | some c=> c)
theorem w_cert_get_57x {a0 : List UInt8} {r : g_api_Cert × Int} (hm : m_cert_get_57x a0 = some r) : Sf prog 53 [sl eB a0,.fn (.func 57) [] []] (.tup [ag (e_api_Cert r.1),.d (.i r.2)]):= by
 unfold m_cert_get_57x at hm
 obtain ⟨x1,q1,hm⟩:= oY0 hm
 refine get_of (N:= 33) (nc:= 13) (tc:= 28) (te:= 31) (zd:= [.i 0,.s ByteArray.empty,.s ByteArray.empty,.u 0,.v (.slice none 0 0),.i 0,.i 0,.t false,.i 0,.v (.slice none 0 0),.v (.slice none 0 0),.u 0,.u 0]) (ev0:= .i 71) (ov:= oddV) (ok1:= ((x1.2.2 != 0)) = false) (okX:= ((x1.2.2 != 0)) = false ∧ mp_cert_get_57x a0 x1 = some none) (okE:= fun c=> ((x1.2.2 != 0)) = false ∧ mp_cert_get_57x a0 x1 = some (some c)) (JE:= fun (c : g_api_Cert × Int)=> ⟨[(4,.pb 0 0),(5,.pb 1 0)],[(0,.box 0 [.d (.i c.1.Serial),.d (.s c.1.Issuer),.d (.s c.1.Subject),.d (.u c.1.Key),sl eS c.1.Names,.d (.i c.1.From),.d (.i c.1.Until),.d (.t c.1.Ca),.d (.i c.1.Depth),sl eS c.1.Permit,sl e_api_Promise c.1.Proms,.d (.u c.1.Sig.E),.d (.u c.1.Sig.S)] 28),(1,.box 1 [.d (.i c.2)] 31)],[],2⟩) (J1:= ⟨[(0,sl eB a0),(1,.fn (.func 57) [] []),(4,.pb 0 0),(5,.pb 1 0),(6,.pb 2 0),(7,.d (.i x1.2.1))],[(0,.box 2 [.d (.i x1.1.Tag),sl eB x1.1.B,sl e_api_Item x1.1.L] 56),(1,.box 1 [.d (.i x1.2.2)] 31),(2,.box 0 [.d (.i 0),.d (.s ByteArray.empty),.d (.s ByteArray.empty),.d (.u 0),sl eS [],.d (.i 0),.d (.i 0),.d (.t false),.d (.i 0),sl eS [],sl e_api_Promise [],.d (.u 0),.d (.u 0)] 28)],[],3⟩) call53 call91 func53 rfl ntmps53 rfl rfl ⟨rfl,rfl⟩ rfl ?_ ?_ ?_ (fun c hc=> rfl) ?_ (d1_91) (d2_91)
 ·intro D0 As η0 m0 Jp hd bk
  refine G.h ?_
  refine gc (fun _=> w_der_Get q1) (by kernel_rfl) ?_
  refine gi hm (by kernel_rfl) (fun hc1 hm=> ?_) fun hc1 hm=> ?_
  ·skip
   have e0:= sI0 hm
   subst e0
   exact gend hd (by kernel_rfl)
  exact gb bk hd () hc1 (by kernel_rfl)
 ·intro hok D0 As η0 m0 hd
  refine G.h ?_
  rw [if_neg (by rw [hok]; decide)] at hm
  obtain ⟨z,hz,hm⟩:= oY0 hm
  have hz2:= hz
  unfold mp_cert_get_57x at hz2
  obtain ⟨y1,q2,hz2⟩:= oY0 hz2
  rcases y1 with _ | x2
  ·dsimp only at hz2
   have e0:= sI0 hz2
   subst e0
   exact gpanG (w_cert_must q2) ⟨hok,hz⟩ hd (by kernel_rfl) (by kernel_rfl)
  dsimp only at hz2
  refine gc (fun _=> (w_cert_must q2).sp) (by kernel_rfl) ?_
  obtain ⟨y2,q3,hz2⟩:= oY0 hz2
  rcases y2 with _ | x3
  ·dsimp only at hz2
   have e0:= sI0 hz2
   subst e0
   exact gpanG (w_cert_in q3) ⟨hok,hz⟩ hd (by kernel_rfl) (by kernel_rfl)
  dsimp only at hz2
  refine gco (w_cert_in q3).sp (by kernel_rfl) ?_
  obtain ⟨y3,q4,hz2⟩:= oY0 hz2
  rcases y3 with _ | x4
  ·dsimp only at hz2
   have e0:= sI0 hz2
   subst e0
   exact gpanG (w_cert_reader_pre q4) ⟨hok,hz⟩ hd (by kernel_rfl) (by kernel_rfl)
  dsimp only at hz2
  refine gco (w_cert_reader_pre q4).sp (by kernel_rfl) ?_
  obtain ⟨x5,q5,hz2⟩:= oY0 hz2
  refine gc (fun _=> w_cert_Check q5) (by kernel_rfl) ?_
  obtain ⟨y4,q6,hz2⟩:= oY0 hz2
  rcases y4 with _ | x6
  ·dsimp only at hz2
   have e0:= sI0 hz2
   subst e0
   exact gpanG (w_cert_must q6) ⟨hok,hz⟩ hd (by kernel_rfl) (by kernel_rfl)
  dsimp only at hz2
  refine gc (fun _=> (w_cert_must q6).sp) (by kernel_rfl) ?_
  have e0:= sI0 hz2
  subst e0
  exact gretG _ ⟨hok,hz⟩ hd (by kernel_rfl)
 ·rintro c ⟨hC,hz⟩ D0 As η0 m0 hd
  rw [if_neg (by rw [hC]; decide),hz] at hm
  have e0 : c = r:= sI0 hm
  subst e0
  exact G.h (gend hd (by kernel_rfl))
 ·rintro ⟨hC,hz⟩ D0 As η0 m0 hd
  rw [if_neg (by rw [hC]; decide),hz] at hm
  have e0 : ((⟨0,ByteArray.empty,ByteArray.empty,0,[],0,0,false,0,[],[],(⟨0,0⟩ : g_api_Sig)⟩ : g_api_Cert),71) = r:= sI0 hm
  subst e0
  exact G.h (gend hd (by kernel_rfl))
def m_cert_GetPre (a0 : List UInt8) : Option (g_api_Cert × Int) :=
 obind (m_cert_get_57x a0) fun x1 =>
 some (x1.1,x1.2)
theorem w_cert_GetPre {a0 : List UInt8} {r : g_api_Cert × Int} (hm : m_cert_GetPre a0 = some r) : Sf prog 30 [sl eB a0] (.tup [ag (e_api_Cert r.1),.d (.i r.2)]) :=
 sp call30 func30 rfl ntmps30 rfl fun D0 As η0 m0 hd=> by
  unfold m_cert_GetPre at hm
  obtain ⟨x1,q1,hm⟩:= oY0 hm
  refine gc (fun _=> w_cert_get_57x q1) (by kernel_rfl) ?_
  have e0:= sI0 hm
  subst e0
  exact gend hd (by kernel_rfl)
def m_law18_example  : Option g_api_Cert :=
 some (⟨1,(⟨#[103,114,101,97,116,115,101,97,108]⟩ : ByteArray),ByteArray.empty,4,([(⟨#[120,46,97]⟩ : ByteArray)] : List ByteArray),0,9,false,0,[],[],(⟨0,0⟩ : g_api_Sig)⟩ : g_api_Cert)
theorem w_law18_example  {r : g_api_Cert} (hm : m_law18_example = some r) : Sf prog 34 [] (ag (e_api_Cert r)) :=
 sp call34 func34 rfl ntmps34 rfl fun D0 As η0 m0 hd=> by
  unfold m_law18_example at hm
  refine glitF (k:= 1) eS ([(⟨#[120,46,97]⟩ : ByteArray)] : List ByteArray) (fun _=> rfl) (by kernel_rfl) ?_
  have e0:= sI0 hm
  subst e0
  exact gend hd (by kernel_rfl)
def m_law18_live  : Option Bool :=
 obind (m_law18_example ) fun x1 =>
 obind (m_cert_Pre x1) fun x2 =>
 obind (m_cert_GetPre x2.1) fun x3 =>
 obind (m_cert_Put x1) fun x4 =>
 obind (m_cert_Get x4.1) fun x5 =>
 obind (m_cert_Body x1) fun x6 =>
 obind (m_cert_GetBody x6.1) fun x7 =>
 obind (m_cert_Leaf x1) fun x8 =>
 obind (m_cert_Get x2.1) fun x9 =>
 bnd ((((((((x2.2 == 0) && (x3.2 == 0)) && (x4.2 == 0)) && (x5.2 == 0)) && (x6.2 == 0)) && (x7.2 == 0)) && (x8.2 == 0))) fun x10 =>
 obind (gu x10 (m_cert_Same x3.1 x1)) fun x11 =>
 obind (gu (x10 && x11) (m_cert_Same x5.1 x1)) fun x12 =>
 obind (gu ((x10 && x11) && x12) (m_cert_Same x7.1 x1)) fun x13 =>
 obind (gu (((x10 && x11) && x12) && x13) (m_merkle_Leaf x2.1)) fun x14 =>
 obind (gu ((((x10 && x11) && x12) && x13) && (eqSum x8.1 x14)) (m_cert_Check (⟨0,(⟨#[114]⟩ : ByteArray),(⟨#[114]⟩ : ByteArray),4,[],0,9,true,2,([(⟨#[42,46,97]⟩ : ByteArray)] : List ByteArray),[],(⟨0,0⟩ : g_api_Sig)⟩ : g_api_Cert))) fun x15 =>
 obind (gu (((((x10 && x11) && x12) && x13) && (eqSum x8.1 x14)) && (x15 == 0)) (m_cert_Check (⟨x1.Serial,x1.Issuer,x1.Subject,x1.Key,x1.Names,x1.From,x1.Until,x1.Ca,x1.Depth,x1.Permit,([(⟨0,0,(0,0),(⟨0,0⟩ : g_api_Sig)⟩ : g_api_Promise),(⟨0,0,(0,0),(⟨0,0⟩ : g_api_Sig)⟩ : g_api_Promise)] : List g_api_Promise),x1.Sig⟩ : g_api_Cert))) fun x16 =>
 obind (gu ((((((x10 && x11) && x12) && x13) && (eqSum x8.1 x14)) && (x15 == 0)) && (x16 == 1)) (m_cert_Check (⟨x1.Serial,x1.Issuer,x1.Subject,x1.Key,[],x1.From,x1.Until,x1.Ca,x1.Depth,x1.Permit,x1.Proms,x1.Sig⟩ : g_api_Cert))) fun x17 =>
 obind (gu ((((((((x10 && x11) && x12) && x13) && (eqSum x8.1 x14)) && (x15 == 0)) && (x16 == 1)) && (x17 == 1)) && (x9.2 == 71)) (m_cert_Same x1 (⟨0,(⟨#[114]⟩ : ByteArray),(⟨#[114]⟩ : ByteArray),4,[],0,9,true,2,([(⟨#[42,46,97]⟩ : ByteArray)] : List ByteArray),[],(⟨0,0⟩ : g_api_Sig)⟩ : g_api_Cert))) fun x18 =>
 bnd ((((((((((x10 && x11) && x12) && x13) && (eqSum x8.1 x14)) && (x15 == 0)) && (x16 == 1)) && (x17 == 1)) && (x9.2 == 71)) && (!x18))) fun x19 =>
 some x19
theorem w_law18_live  {r : Bool} (hm : m_law18_live = some r) : Sf prog 12 [] (.d (.t r)) :=
 sp call12 func12 rfl ntmps12 rfl fun D0 As η0 m0 hd=> by
  unfold m_law18_live at hm
  obtain ⟨x1,q1,hm⟩:= oY0 hm
  refine gc (fun _=> w_law18_example q1) (by kernel_rfl) ?_
  obtain ⟨x2,q2,hm⟩:= oY0 hm
  refine gc (fun _=> d_cert_Pre q2) (by kernel_rfl) ?_
  obtain ⟨x3,q3,hm⟩:= oY0 hm
  refine gc (fun _=> w_cert_GetPre q3) (by kernel_rfl) ?_
  obtain ⟨x4,q4,hm⟩:= oY0 hm
  refine gco (w_cert_Put q4) (by kernel_rfl) ?_
  obtain ⟨x5,q5,hm⟩:= oY0 hm
  refine gco (w_cert_Get q5) (by kernel_rfl) ?_
  obtain ⟨x6,q6,hm⟩:= oY0 hm
  refine gco (w_cert_Body q6) (by kernel_rfl) ?_
  obtain ⟨x7,q7,hm⟩:= oY0 hm
  refine gco (w_cert_GetBody q7) (by kernel_rfl) ?_
  refine glitF (k:= 1) eS ([(⟨#[42,46,97]⟩ : ByteArray)] : List ByteArray) (fun _=> rfl) (by kernel_rfl) ?_
  obtain ⟨x8,q8,hm⟩:= oY0 hm
  refine gc (fun _=> w_cert_Leaf q8) (by kernel_rfl) ?_
  refine glitF (k:= 6) e_api_Promise ([(⟨0,0,(0,0),(⟨0,0⟩ : g_api_Sig)⟩ : g_api_Promise),(⟨0,0,(0,0),(⟨0,0⟩ : g_api_Sig)⟩ : g_api_Promise)] : List g_api_Promise) (fun _=> rfl) (by kernel_rfl) ?_
  obtain ⟨x9,q9,hm⟩:= oY0 hm
  refine gc (fun _=> w_cert_Get q9) (by kernel_rfl) ?_
  have hm:= bnd_is hm
  let x10 : Bool:= ((((((((x2.2 == 0) && (x3.2 == 0)) && (x4.2 == 0)) && (x5.2 == 0)) && (x6.2 == 0)) && (x7.2 == 0)) && (x8.2 == 0)))
  obtain ⟨x11,q11,hm⟩:= oY0 hm
  refine gcG (fun h=> w_cert_Same (gu_t h q11)) (by kernel_rfl) ?_
  obtain ⟨x12,q12,hm⟩:= oY0 hm
  refine gcG (fun h=> w_cert_Same (gu_t h q12)) (by kernel_rfl) ?_
  obtain ⟨x13,q13,hm⟩:= oY0 hm
  refine gcG (fun h=> w_cert_Same (gu_t h q13)) (by kernel_rfl) ?_
  obtain ⟨x14,q14,hm⟩:= oY0 hm
  refine gcG (fun h=> w_merkle_Leaf (gu_t h q14)) (by kernel_rfl) ?_
  obtain ⟨x15,q15,hm⟩:= oY0 hm
  refine gcG (fun h=> w_cert_Check (gu_t h q15)) (by kernel_rfl) ?_
  obtain ⟨x16,q16,hm⟩:= oY0 hm
  refine gcG (fun h=> w_cert_Check (gu_t h q16)) (by kernel_rfl) ?_
  obtain ⟨x17,q17,hm⟩:= oY0 hm
  refine gcG (fun h=> w_cert_Check (gu_t h q17)) (by kernel_rfl) ?_
  obtain ⟨x18,q18,hm⟩:= oY0 hm
  refine gcG (fun h=> w_cert_Same (gu_t h q18)) (by kernel_rfl) ?_
  have hm:= bnd_is hm
  let x19 : Bool:= ((((((((((x10 && x11) && x12) && x13) && (eqSum x8.1 x14)) && (x15 == 0)) && (x16 == 1)) && (x17 == 1)) && (x9.2 == 71)) && (!x18)))
  have e0:= sI0 hm
  subst e0
  exact gend hd (by kernel_rfl)
def m_law18_bare (a0 : g_api_Cert) (a1 : Bool) : Option g_api_Cert :=
 obind (
  if a1 = true then
   some []
  else
  some a0.Proms
 ) fun x1 =>
 some (⟨a0.Serial,a0.Issuer,a0.Subject,a0.Key,a0.Names,a0.From,a0.Until,a0.Ca,a0.Depth,a0.Permit,x1,(⟨0,0⟩ : g_api_Sig)⟩ : g_api_Cert)
theorem w_law18_bare {a0 : g_api_Cert} {a1 : Bool} {r : g_api_Cert} (hm : m_law18_bare a0 a1 = some r) : Sf prog 32 [ag (e_api_Cert a0),.d (.t a1)] (ag (e_api_Cert r)) :=
 sp call32 func32 rfl ntmps32 rfl fun D0 As η0 m0 hd=> by
  unfold m_law18_bare at hm
  obtain ⟨x1,q1,hm⟩:= oY0 hm
  refine gj (fun (_ : Unit)=> ⟨[(2,.pb 0 0),(4,.pb 1 0)],[(0,.box 1 [.d (.i 0),.d (.s ByteArray.empty),.d (.s ByteArray.empty),.d (.u 0),sl eS [],.d (.i 0),.d (.i 0),.d (.t false),.d (.i 0),sl eS [],sl e_api_Promise [],.d (.u 0),.d (.u 0)] 28),(1,.box 0 [.d (.i a0.Serial),.d (.s a0.Issuer),.d (.s a0.Subject),.d (.u a0.Key),sl eS a0.Names,.d (.i a0.From),.d (.i a0.Until),.d (.t a0.Ca),.d (.i a0.Depth),sl eS a0.Permit,sl e_api_Promise x1,.d (.u 0),.d (.u 0)] 28)],[],2⟩) (fun _=> True) (by kernel_rfl) (fun Jp bk1=> ?_) fun _ _=> ?_
  ·refine gi q1 (by kernel_rfl) (fun hc1 q1=> ?_) fun hc1 q1=> ?_
   ·skip
    have e0:= sI0 q1
    subst e0
    exact gb bk1 hd () trivial (by kernel_rfl)
   have e0:= sI0 q1
   subst e0
   exact gb bk1 hd () trivial (by kernel_rfl)
  have e0:= sI0 hm
  subst e0
  exact gend hd (by kernel_rfl)
def m_law18_CertOnly (a0 : List UInt8) : Option Bool :=
 obind (m_law18_live ) fun x1 =>
 if (!x1) = true then
  some false
 else
 if (decide ((a0.length : Int) > 3000)) = true then
  some true
 else
 obind (m_cert_Get a0) fun x2 =>
 obind (m_cert_GetBody a0) fun x3 =>
 obind (m_cert_GetPre a0) fun x4 =>
 if (x2.2 == 0) = true then
  obind (m_cert_Put x2.1) fun x5 =>
  obind (gu (!((x5.2 != 0) || (!eqS (bs x5.1) (bs a0)))) (m_cert_Check x2.1)) fun x6 =>
  if (((x5.2 != 0) || (!eqS (bs x5.1) (bs a0))) || (x6 != 0)) = true then
   some false
  else
  if (x3.2 == 0) = true then
   obind (m_cert_Body x3.1) fun x7 =>
   obind (gu (!((x7.2 != 0) || (!eqS (bs x7.1) (bs a0)))) (m_law18_bare x3.1 false)) fun x8 =>
   obind (gu (!((x7.2 != 0) || (!eqS (bs x7.1) (bs a0)))) (m_cert_Same x3.1 x8)) fun x9 =>
   if (((x7.2 != 0) || (!eqS (bs x7.1) (bs a0))) || (!x9)) = true then
    some false
   else
   if (x4.2 == 0) = true then
    obind (m_cert_Pre x4.1) fun x10 =>
    obind (gu (!((x10.2 != 0) || (!eqS (bs x10.1) (bs a0)))) (m_law18_bare x4.1 true)) fun x11 =>
    obind (gu (!((x10.2 != 0) || (!eqS (bs x10.1) (bs a0)))) (m_cert_Same x4.1 x11)) fun x12 =>
    if (((x10.2 != 0) || (!eqS (bs x10.1) (bs a0))) || (!x12)) = true then
     some false
    else
    bnd ((w64 ((w64 ((w64 (0 + 1)) + 1)) + 1))) fun x13 =>
    bnd (((((decide (x13 ≤ 1)) && ((x2.2 == 0) || ((x2.1.Key.toNat : Int) == 0))) && ((x3.2 == 0) || ((x3.1.Key.toNat : Int) == 0))) && ((x4.2 == 0) || ((x4.1.Key.toNat : Int) == 0)))) fun x14 =>
    some x14
   else
   bnd (((((decide ((w64 ((w64 (0 + 1)) + 1)) ≤ 1)) && ((x2.2 == 0) || ((x2.1.Key.toNat : Int) == 0))) && ((x3.2 == 0) || ((x3.1.Key.toNat : Int) == 0))) && ((x4.2 == 0) || ((x4.1.Key.toNat : Int) == 0)))) fun x15 =>
   some x15
  else
  if (x4.2 == 0) = true then
   obind (m_cert_Pre x4.1) fun x16 =>
   obind (gu (!((x16.2 != 0) || (!eqS (bs x16.1) (bs a0)))) (m_law18_bare x4.1 true)) fun x17 =>
   obind (gu (!((x16.2 != 0) || (!eqS (bs x16.1) (bs a0)))) (m_cert_Same x4.1 x17)) fun x18 =>
   if (((x16.2 != 0) || (!eqS (bs x16.1) (bs a0))) || (!x18)) = true then
    some false
   else
   bnd (((((decide ((w64 ((w64 (0 + 1)) + 1)) ≤ 1)) && ((x2.2 == 0) || ((x2.1.Key.toNat : Int) == 0))) && ((x3.2 == 0) || ((x3.1.Key.toNat : Int) == 0))) && ((x4.2 == 0) || ((x4.1.Key.toNat : Int) == 0)))) fun x19 =>
   some x19
  else
  bnd (((((decide ((w64 (0 + 1)) ≤ 1)) && ((x2.2 == 0) || ((x2.1.Key.toNat : Int) == 0))) && ((x3.2 == 0) || ((x3.1.Key.toNat : Int) == 0))) && ((x4.2 == 0) || ((x4.1.Key.toNat : Int) == 0)))) fun x20 =>
  some x20
 else
 if (x3.2 == 0) = true then
  obind (m_cert_Body x3.1) fun x21 =>
  obind (gu (!((x21.2 != 0) || (!eqS (bs x21.1) (bs a0)))) (m_law18_bare x3.1 false)) fun x22 =>
  obind (gu (!((x21.2 != 0) || (!eqS (bs x21.1) (bs a0)))) (m_cert_Same x3.1 x22)) fun x23 =>
  if (((x21.2 != 0) || (!eqS (bs x21.1) (bs a0))) || (!x23)) = true then
   some false
  else
  if (x4.2 == 0) = true then
   obind (m_cert_Pre x4.1) fun x24 =>
   obind (gu (!((x24.2 != 0) || (!eqS (bs x24.1) (bs a0)))) (m_law18_bare x4.1 true)) fun x25 =>
   obind (gu (!((x24.2 != 0) || (!eqS (bs x24.1) (bs a0)))) (m_cert_Same x4.1 x25)) fun x26 =>
   if (((x24.2 != 0) || (!eqS (bs x24.1) (bs a0))) || (!x26)) = true then
    some false
   else
   bnd (((((decide ((w64 ((w64 (0 + 1)) + 1)) ≤ 1)) && ((x2.2 == 0) || ((x2.1.Key.toNat : Int) == 0))) && ((x3.2 == 0) || ((x3.1.Key.toNat : Int) == 0))) && ((x4.2 == 0) || ((x4.1.Key.toNat : Int) == 0)))) fun x27 =>
   some x27
  else
  bnd (((((decide ((w64 (0 + 1)) ≤ 1)) && ((x2.2 == 0) || ((x2.1.Key.toNat : Int) == 0))) && ((x3.2 == 0) || ((x3.1.Key.toNat : Int) == 0))) && ((x4.2 == 0) || ((x4.1.Key.toNat : Int) == 0)))) fun x28 =>
  some x28
 else
 if (x4.2 == 0) = true then
  obind (m_cert_Pre x4.1) fun x29 =>
  obind (gu (!((x29.2 != 0) || (!eqS (bs x29.1) (bs a0)))) (m_law18_bare x4.1 true)) fun x30 =>
  obind (gu (!((x29.2 != 0) || (!eqS (bs x29.1) (bs a0)))) (m_cert_Same x4.1 x30)) fun x31 =>
  if (((x29.2 != 0) || (!eqS (bs x29.1) (bs a0))) || (!x31)) = true then
   some false
  else
  bnd (((((decide ((w64 (0 + 1)) ≤ 1)) && ((x2.2 == 0) || ((x2.1.Key.toNat : Int) == 0))) && ((x3.2 == 0) || ((x3.1.Key.toNat : Int) == 0))) && ((x4.2 == 0) || ((x4.1.Key.toNat : Int) == 0)))) fun x32 =>
  some x32
 else
 bnd (((((decide ((0 : Int) ≤ 1)) && ((x2.2 == 0) || ((x2.1.Key.toNat : Int) == 0))) && ((x3.2 == 0) || ((x3.1.Key.toNat : Int) == 0))) && ((x4.2 == 0) || ((x4.1.Key.toNat : Int) == 0)))) fun x33 =>
 some x33
theorem w_law18_CertOnly {a0 : List UInt8} {r : Bool} (hm : m_law18_CertOnly a0 = some r) : Sf prog 7 [sl eB a0] (.d (.t r)) :=
 sp call7 func7 rfl ntmps7 rfl fun D0 As η0 m0 hd=> by
  unfold m_law18_CertOnly at hm
  obtain ⟨x1,q1,hm⟩:= oY0 hm
  refine gc (fun _=> w_law18_live q1) (by kernel_rfl) ?_
  refine gi hm (by kernel_rfl) (fun hc1 hm=> ?_) fun hc1 hm=> ?_
  ·skip
   have e0:= sI0 hm
   subst e0
   exact gend hd (by kernel_rfl)
  refine gi hm (by kernel_rfl) (fun hc2 hm=> ?_) fun hc2 hm=> ?_
  ·skip
   have e0:= sI0 hm
   subst e0
   exact gend hd (by kernel_rfl)
  obtain ⟨x2,q2,hm⟩:= oY0 hm
  refine gc (fun _=> w_cert_Get q2) (by kernel_rfl) ?_
  obtain ⟨x3,q3,hm⟩:= oY0 hm
  refine gc (fun _=> w_cert_GetBody q3) (by kernel_rfl) ?_
  obtain ⟨x4,q4,hm⟩:= oY0 hm
  refine gc (fun _=> w_cert_GetPre q4) (by kernel_rfl) ?_
  refine gi hm (by kernel_rfl) (fun hc3 hm=> ?_) fun hc3 hm=> ?_
  ·skip
   obtain ⟨x5,q5,hm⟩:= oY0 hm
   refine gc (fun _=> d_cert_Put q5) (by kernel_rfl) ?_
   refine gbs (xs:= x5.1) (by kernel_rfl) ?_
   refine gbs (xs:= a0) (by kernel_rfl) ?_
   obtain ⟨x6,q6,hm⟩:= oY0 hm
   refine gcG (fun h=> w_cert_Check (gu_t h q6)) (by kernel_rfl) ?_
   refine gi hm (by kernel_rfl) (fun hc4 hm=> ?_) fun hc4 hm=> ?_
   ·skip
    have e0:= sI0 hm
    subst e0
    exact gend hd (by kernel_rfl)
   refine gi hm (by kernel_rfl) (fun hc5 hm=> ?_) fun hc5 hm=> ?_
   ·skip
    obtain ⟨x7,q7,hm⟩:= oY0 hm
    refine gc (fun _=> d_cert_Body q7) (by kernel_rfl) ?_
    refine gbs (xs:= x7.1) (by kernel_rfl) ?_
    refine gbs (xs:= a0) (by kernel_rfl) ?_
    obtain ⟨x8,q8,hm⟩:= oY0 hm
    refine gcG (fun h=> w_law18_bare (gu_t h q8)) (by kernel_rfl) ?_
    obtain ⟨x9,q9,hm⟩:= oY0 hm
    refine gcG (fun h=> w_cert_Same (gu_t h q9)) (by kernel_rfl) ?_
    refine gi hm (by kernel_rfl) (fun hc6 hm=> ?_) fun hc6 hm=> ?_
    ·skip
     have e0:= sI0 hm
     subst e0
     exact gend hd (by kernel_rfl)
    refine gi hm (by kernel_rfl) (fun hc7 hm=> ?_) fun hc7 hm=> ?_
    ·skip
     obtain ⟨x10,q10,hm⟩:= oY0 hm
     refine gc (fun _=> d_cert_Pre q10) (by kernel_rfl) ?_
     refine gbs (xs:= x10.1) (by kernel_rfl) ?_
     refine gbs (xs:= a0) (by kernel_rfl) ?_
     obtain ⟨x11,q11,hm⟩:= oY0 hm
     refine gcG (fun h=> w_law18_bare (gu_t h q11)) (by kernel_rfl) ?_
     obtain ⟨x12,q12,hm⟩:= oY0 hm
     refine gcG (fun h=> w_cert_Same (gu_t h q12)) (by kernel_rfl) ?_
     refine gi hm (by kernel_rfl) (fun hc8 hm=> ?_) fun hc8 hm=> ?_
     ·skip
      have e0:= sI0 hm
      subst e0
      exact gend hd (by kernel_rfl)
     have hm:= bnd_is hm
     let x13 : Int:= ((w64 ((w64 ((w64 (0 + 1)) + 1)) + 1)))
     have hm:= bnd_is hm
     let x14 : Bool:= (((((decide (x13 ≤ 1)) && ((x2.2 == 0) || ((x2.1.Key.toNat : Int) == 0))) && ((x3.2 == 0) || ((x3.1.Key.toNat : Int) == 0))) && ((x4.2 == 0) || ((x4.1.Key.toNat : Int) == 0))))
     have e0:= sI0 hm
     subst e0
     exact gend hd (by kernel_rfl)
    have hm:= bnd_is hm
    let x15 : Bool:= (((((decide ((w64 ((w64 (0 + 1)) + 1)) ≤ 1)) && ((x2.2 == 0) || ((x2.1.Key.toNat : Int) == 0))) && ((x3.2 == 0) || ((x3.1.Key.toNat : Int) == 0))) && ((x4.2 == 0) || ((x4.1.Key.toNat : Int) == 0))))
    have e0:= sI0 hm
    subst e0
    exact gend hd (by kernel_rfl)
   refine gi hm (by kernel_rfl) (fun hc9 hm=> ?_) fun hc9 hm=> ?_
   ·skip
    obtain ⟨x16,q16,hm⟩:= oY0 hm
    refine gc (fun _=> d_cert_Pre q16) (by kernel_rfl) ?_
    refine gbs (xs:= x16.1) (by kernel_rfl) ?_
    refine gbs (xs:= a0) (by kernel_rfl) ?_
    obtain ⟨x17,q17,hm⟩:= oY0 hm
    refine gcG (fun h=> w_law18_bare (gu_t h q17)) (by kernel_rfl) ?_
    obtain ⟨x18,q18,hm⟩:= oY0 hm
    refine gcG (fun h=> w_cert_Same (gu_t h q18)) (by kernel_rfl) ?_
    refine gi hm (by kernel_rfl) (fun hc10 hm=> ?_) fun hc10 hm=> ?_
    ·skip
     have e0:= sI0 hm
     subst e0
     exact gend hd (by kernel_rfl)
    have hm:= bnd_is hm
    let x19 : Bool:= (((((decide ((w64 ((w64 (0 + 1)) + 1)) ≤ 1)) && ((x2.2 == 0) || ((x2.1.Key.toNat : Int) == 0))) && ((x3.2 == 0) || ((x3.1.Key.toNat : Int) == 0))) && ((x4.2 == 0) || ((x4.1.Key.toNat : Int) == 0))))
    have e0:= sI0 hm
    subst e0
    exact gend hd (by kernel_rfl)
   have hm:= bnd_is hm
   let x20 : Bool:= (((((decide ((w64 (0 + 1)) ≤ 1)) && ((x2.2 == 0) || ((x2.1.Key.toNat : Int) == 0))) && ((x3.2 == 0) || ((x3.1.Key.toNat : Int) == 0))) && ((x4.2 == 0) || ((x4.1.Key.toNat : Int) == 0))))
   have e0:= sI0 hm
   subst e0
   exact gend hd (by kernel_rfl)
  refine gi hm (by kernel_rfl) (fun hc11 hm=> ?_) fun hc11 hm=> ?_
  ·skip
   obtain ⟨x21,q21,hm⟩:= oY0 hm
   refine gc (fun _=> d_cert_Body q21) (by kernel_rfl) ?_
   refine gbs (xs:= x21.1) (by kernel_rfl) ?_
   refine gbs (xs:= a0) (by kernel_rfl) ?_
   obtain ⟨x22,q22,hm⟩:= oY0 hm
   refine gcG (fun h=> w_law18_bare (gu_t h q22)) (by kernel_rfl) ?_
   obtain ⟨x23,q23,hm⟩:= oY0 hm
   refine gcG (fun h=> w_cert_Same (gu_t h q23)) (by kernel_rfl) ?_
   refine gi hm (by kernel_rfl) (fun hc12 hm=> ?_) fun hc12 hm=> ?_
   ·skip
    have e0:= sI0 hm
    subst e0
    exact gend hd (by kernel_rfl)
   refine gi hm (by kernel_rfl) (fun hc13 hm=> ?_) fun hc13 hm=> ?_
   ·skip
    obtain ⟨x24,q24,hm⟩:= oY0 hm
    refine gc (fun _=> d_cert_Pre q24) (by kernel_rfl) ?_
    refine gbs (xs:= x24.1) (by kernel_rfl) ?_
    refine gbs (xs:= a0) (by kernel_rfl) ?_
    obtain ⟨x25,q25,hm⟩:= oY0 hm
    refine gcG (fun h=> w_law18_bare (gu_t h q25)) (by kernel_rfl) ?_
    obtain ⟨x26,q26,hm⟩:= oY0 hm
    refine gcG (fun h=> w_cert_Same (gu_t h q26)) (by kernel_rfl) ?_
    refine gi hm (by kernel_rfl) (fun hc14 hm=> ?_) fun hc14 hm=> ?_
    ·skip
     have e0:= sI0 hm
     subst e0
     exact gend hd (by kernel_rfl)
    have hm:= bnd_is hm
    let x27 : Bool:= (((((decide ((w64 ((w64 (0 + 1)) + 1)) ≤ 1)) && ((x2.2 == 0) || ((x2.1.Key.toNat : Int) == 0))) && ((x3.2 == 0) || ((x3.1.Key.toNat : Int) == 0))) && ((x4.2 == 0) || ((x4.1.Key.toNat : Int) == 0))))
    have e0:= sI0 hm
    subst e0
    exact gend hd (by kernel_rfl)
   have hm:= bnd_is hm
   let x28 : Bool:= (((((decide ((w64 (0 + 1)) ≤ 1)) && ((x2.2 == 0) || ((x2.1.Key.toNat : Int) == 0))) && ((x3.2 == 0) || ((x3.1.Key.toNat : Int) == 0))) && ((x4.2 == 0) || ((x4.1.Key.toNat : Int) == 0))))
   have e0:= sI0 hm
   subst e0
   exact gend hd (by kernel_rfl)
  refine gi hm (by kernel_rfl) (fun hc15 hm=> ?_) fun hc15 hm=> ?_
  ·skip
   obtain ⟨x29,q29,hm⟩:= oY0 hm
   refine gc (fun _=> d_cert_Pre q29) (by kernel_rfl) ?_
   refine gbs (xs:= x29.1) (by kernel_rfl) ?_
   refine gbs (xs:= a0) (by kernel_rfl) ?_
   obtain ⟨x30,q30,hm⟩:= oY0 hm
   refine gcG (fun h=> w_law18_bare (gu_t h q30)) (by kernel_rfl) ?_
   obtain ⟨x31,q31,hm⟩:= oY0 hm
   refine gcG (fun h=> w_cert_Same (gu_t h q31)) (by kernel_rfl) ?_
   refine gi hm (by kernel_rfl) (fun hc16 hm=> ?_) fun hc16 hm=> ?_
   ·skip
    have e0:= sI0 hm
    subst e0
    exact gend hd (by kernel_rfl)
   have hm:= bnd_is hm
   let x32 : Bool:= (((((decide ((w64 (0 + 1)) ≤ 1)) && ((x2.2 == 0) || ((x2.1.Key.toNat : Int) == 0))) && ((x3.2 == 0) || ((x3.1.Key.toNat : Int) == 0))) && ((x4.2 == 0) || ((x4.1.Key.toNat : Int) == 0))))
   have e0:= sI0 hm
   subst e0
   exact gend hd (by kernel_rfl)
  have hm:= bnd_is hm
  let x33 : Bool:= (((((decide ((0 : Int) ≤ 1)) && ((x2.2 == 0) || ((x2.1.Key.toNat : Int) == 0))) && ((x3.2 == 0) || ((x3.1.Key.toNat : Int) == 0))) && ((x4.2 == 0) || ((x4.1.Key.toNat : Int) == 0))))
  have e0:= sI0 hm
  subst e0
  exact gend hd (by kernel_rfl)
end Go.Proofs.YtlnbckkkapbdmaaGreatDoor
