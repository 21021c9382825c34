/- The walks of some functions, by the executor, written by program. Conditions: none. -/
import Derived.Test.YtlnbckkkapbdmaaGreatDoorZe
import Derived.Test.YtlnbckkkapbdmaaGreatDoorZf
set_option linter.unusedSimpArgs false
set_option linter.unusedVariables false
set_option maxHeartbeats 20000000
set_option maxRecDepth 100000
namespace Go.Proofs.YtlnbckkkapbdmaaGreatDoor
open Go Go.Gw Go.Ax Tryz
def m_hash_Tagged_b2  (i1 : Int) (x4 : List UInt8) (s1 : (List UInt8)) : Option ((List UInt8)) :=
 obind (m_hash_put s1 (toU (x4.length : Int)) 4) fun x5 =>
 obind (app 1 x5 x4) fun x6 =>
 some x6
def m_hash_Tagged (a0 : ByteArray) (a1 : List (List UInt8)) : Option (UInt64 × UInt64) :=
 obind (app 1 ([(toB (a0.size : Int))] : List UInt8) a0.data.toList) fun x1 =>
 obind (
  obind (each0 m_hash_Tagged_b2 a1 0 x1) fun x3 =>
  some x3
 ) fun x2 =>
 obind (m_hash_Sum x2) fun x7 =>
 some x7
theorem w_hash_Tagged {a0 : ByteArray} {a1 : List (List UInt8)} {r : UInt64 × UInt64} (hm : m_hash_Tagged a0 a1 = some r) : Sf prog 59 [.d (.s a0),sl (eL eB) a1] (ag (e_a2_eU r)) :=
 sp call59 func59 rfl ntmps59 rfl fun D0 As η0 m0 hd=> by
  unfold m_hash_Tagged at hm
  refine glit (k:= 1) eB ([(toB (a0.size : Int))] : List UInt8) (fun _=> rfl) (by kernel_rfl) ?_
  obtain ⟨x1,q1,hm⟩:= oY0 hm
  refine gapS q1 (by kernel_rfl) ?_
  obtain ⟨x2,q2,hm⟩:= oY0 hm
  obtain ⟨x3,q3,q2⟩:= oY0 q2
  refine glen 0 (E:= (eL eB)) (xs:= a1) 14 (by kernel_rfl) fun hle1=> ?_
  refine gjU 0 (fun (_ : Unit)=> ⟨[(4,.pb 0 0),(5,.ow 1)],[(0,.row 1 1 _ eB x2),(1,.box 0 [.d (.u 0),.d (.u 0)] 38)],[],2⟩) (fun _=> True) (by kernel_rfl) (fun Jp bk1=> ?_) fun _ _=> ?_
  ·refine gjU 0 (fun (_ : Unit)=> ⟨[(4,.pb 0 0),(5,.ow 1)],[(0,.row 1 1 _ eB x3),(1,.box 0 [.d (.u 0),.d (.u 0)] 38)],[],2⟩) (fun _=> True) (by kernel_rfl) (fun Jp bk2=> ?_) fun _ _=> ?_
   ·refine gl hd (fun (p : Int × ((List UInt8)))=> let (p0,p_0):= p; ⟨[(4,.pb 0 0),(5,.ow 1),(14,sl (eL eB) a1),(15,.d (.i (a1.length : Int))),(16,.d (.i p0))],[(0,.row 1 1 _ eB p_0),(1,.box 0 [.d (.u 0),.d (.u 0)] 38)],[],2⟩) (fun p=> ∃ i : Nat,p.1 = (i : Int) ∧ i ≤ a1.length ∧ each0 m_hash_Tagged_b2 (a1.drop i) (i : Int) p.2 = some x3) (fun p=> a1.length - p.1.toNat) (0,x1) ⟨0,rfl,Nat.zero_le _,q3⟩ (by kernel_rfl) ?_
    rintro ⟨_,s1⟩ ⟨i1,rfl,hi,q4⟩ Jl bl1
    refine gi' (b:= decide ((i1 : Int) < (a1.length : Int))) (by kernel_rfl) (fun hc1=> ?_) fun hc1=> ?_
    ·have hlt1 : i1 < a1.length:= by have:= of_decide_eq_true hc1; omega
     obtain ⟨x4,y1,q7,q6,q5⟩:= each0_in q4 hlt1
     unfold m_hash_Tagged_b2 at q6
     refine gidx (k:= 1) (E:= (eL eB)) (fun _=> rfl) (fun _=> q7) (by kernel_rfl) ?_
     obtain ⟨x5,q8,q6⟩:= oY0 q6
     refine gco (w_hash_put q8) (by kernel_rfl) ?_
     obtain ⟨x6,q9,q6⟩:= oY0 q6
     refine gapp (k:= 1) (E:= eB) (fun _=> rfl) q9 (by kernel_rfl) ?_
     have e0:= sI0 q6
     subst e0
     exact gb bl1 hd (w64 ((i1 : Int) + 1),x6) ⟨⟨i1 + 1,w64_succ hlt1 hle1,by omega,q5⟩,mu_lt hlt1 hle1⟩ (by kernel_rfl)
    have hlt1 : ¬ i1 < a1.length:= by have:= of_decide_eq_false hc1; omega
    have e:= Eq.symm (each0_out q4 hlt1)
    subst e
    exact gb bk2 hd () trivial (by kernel_rfl)
   have e0:= sI0 q2
   subst e0
   exact gb bk1 hd () trivial (by kernel_rfl)
  obtain ⟨x7,q10,hm⟩:= oY0 hm
  refine gco (s_hash_Sum q10) (by kernel_rfl) ?_
  have e0:= sI0 hm
  subst e0
  exact gend hd (by kernel_rfl)
def m_merkle_Leaf (a0 : List UInt8) : Option (UInt64 × UInt64) :=
 obind (m_hash_Tagged (⟨#[108,101,97,102]⟩ : ByteArray) ([a0] : List (List UInt8))) fun x1 =>
 some x1
theorem w_merkle_Leaf {a0 : List UInt8} {r : UInt64 × UInt64} (hm : m_merkle_Leaf a0 = some r) : Sf prog 35 [sl eB a0] (ag (e_a2_eU r)) :=
 sp call35 func35 rfl ntmps35 rfl fun D0 As η0 m0 hd=> by
  unfold m_merkle_Leaf at hm
  refine glitF (k:= 1) (eL eB) ([a0] : List (List UInt8)) (fun _=> rfl) (by kernel_rfl) ?_
  obtain ⟨x1,q1,hm⟩:= oY0 hm
  refine gc (fun _=> w_hash_Tagged q1) (by kernel_rfl) ?_
  have e0:= sI0 hm
  subst e0
  exact gend hd (by kernel_rfl)
def m_cert_Leaf (a0 : g_api_Cert) : Option ((UInt64 × UInt64) × Int) :=
 obind (m_cert_Pre a0) fun x1 =>
 if (x1.2 != 0) = true then
  some ((0,0),x1.2)
 else
 obind (m_merkle_Leaf x1.1) fun x2 =>
 some (x2,0)
theorem w_cert_Leaf {a0 : g_api_Cert} {r : (UInt64 × UInt64) × Int} (hm : m_cert_Leaf a0 = some r) : Sf prog 24 [ag (e_api_Cert a0)] (.tup [ag (e_a2_eU r.1),.d (.i r.2)]) :=
 sp call24 func24 rfl ntmps24 rfl fun D0 As η0 m0 hd=> by
  unfold m_cert_Leaf at hm
  obtain ⟨x1,q1,hm⟩:= oY0 hm
  refine gco (w_cert_Pre q1) (by kernel_rfl) ?_
  refine gi hm (by kernel_rfl) (fun hc1 hm=> ?_) fun hc1 hm=> ?_
  ·skip
   have e0:= sI0 hm
   subst e0
   exact gend hd (by kernel_rfl)
  obtain ⟨x2,q2,hm⟩:= oY0 hm
  refine gco (w_merkle_Leaf q2) (by kernel_rfl) ?_
  have e0:= sI0 hm
  subst e0
  exact gend hd (by kernel_rfl)
def m_der_length_b1  (i1 : Int) (x8 : UInt8) (s1 : Int) : Option (Int) :=
 bnd ((or64 (shl64 s1 8) (w64 (x8.toNat : Int)))) fun x9 =>
 some x9
def m_der_length (a0 : List UInt8) : Option (Int × Int × Int) :=
 if ((a0.length : Int) == 0) = true then
  some (0,0,70)
 else
 obind (idx a0 0) fun x1 =>
 if (decide ((w64 (x1.toNat : Int)) < 128)) = true then
  some ((w64 (x1.toNat : Int)),1,0)
 else
 bnd ((w64 ((w64 (x1.toNat : Int)) - 128))) fun x2 =>
 bnd ((((w64 (x1.toNat : Int)) != 129) && ((w64 (x1.toNat : Int)) != 130))) fun x3 =>
 if x3 = true then
  some (0,0,71)
 else
 bnd ((decide ((a0.length : Int) ≤ x2))) fun x4 =>
 if x4 = true then
  some (0,0,70)
 else
 obind (
  obind (cut a0 1 (w64 (x2 + 1))) fun x6 =>
  obind (each0 m_der_length_b1 x6 0 0) fun x7 =>
  some x7
 ) fun x5 =>
 if ((decide (x5 < 128)) || (((w64 (x1.toNat : Int)) == 130) && (decide (x5 < 256)))) = true then
  some (0,0,71)
 else
 some (x5,(w64 (x2 + 1)),0)
theorem w_der_length {a0 : List UInt8} {r : Int × Int × Int} (hm : m_der_length a0 = some r) : Sf prog 148 [sl eB a0] (.tup [.d (.i r.1),.d (.i r.2.1),.d (.i r.2.2)]) :=
 sp call148 func148 rfl ntmps148 rfl fun D0 As η0 m0 hd=> by
  unfold m_der_length at hm
  refine gi hm (by kernel_rfl) (fun hc1 hm=> ?_) fun hc1 hm=> ?_
  ·skip
   have e0:= sI0 hm
   subst e0
   exact gend hd (by kernel_rfl)
  obtain ⟨x1,q1,hm⟩:= oY0 hm
  refine gidx (k:= 1) (E:= eB) (fun _=> rfl) (fun _=> q1) (by kernel_rfl) ?_
  refine gi hm (by kernel_rfl) (fun hc2 hm=> ?_) fun hc2 hm=> ?_
  ·skip
   have e0:= sI0 hm
   subst e0
   exact gend hd (by kernel_rfl)
  have hm:= bnd_is hm
  let x2 : Int:= ((w64 ((w64 (x1.toNat : Int)) - 128)))
  have hm:= bnd_is hm
  let x3 : Bool:= ((((w64 (x1.toNat : Int)) != 129) && ((w64 (x1.toNat : Int)) != 130)))
  refine gi hm (by kernel_rfl) (fun hc3 hm=> ?_) fun hc3 hm=> ?_
  ·skip
   have e0:= sI0 hm
   subst e0
   exact gend hd (by kernel_rfl)
  have hm:= bnd_is hm
  let x4 : Bool:= ((decide ((a0.length : Int) ≤ x2)))
  refine gi hm (by kernel_rfl) (fun hc4 hm=> ?_) fun hc4 hm=> ?_
  ·skip
   have e0:= sI0 hm
   subst e0
   exact gend hd (by kernel_rfl)
  obtain ⟨x5,q5,hm⟩:= oY0 hm
  obtain ⟨x6,q6,q5⟩:= oY0 q5
  refine gcut (k:= 1) (E:= eB) (fun _=> rfl) (fun _=> q6) (by kernel_rfl) ?_
  obtain ⟨x7,q7,q5⟩:= oY0 q5
  refine glen 1 (E:= eB) (xs:= x6) 36 (by kernel_rfl) fun hle1=> ?_
  refine gjU 1 (fun (_ : Unit)=> ⟨[(2,.d (.i x5)),(5,.d (.i (w64 (x1.toNat : Int)))),(6,.d (.i x2))],[],[],0⟩) (fun _=> True) (by kernel_rfl) (fun Jp bk1=> ?_) fun _ _=> ?_
  ·refine gjU 1 (fun (_ : Unit)=> ⟨[(2,.d (.i x7)),(5,.d (.i (w64 (x1.toNat : Int)))),(6,.d (.i x2))],[],[],0⟩) (fun _=> True) (by kernel_rfl) (fun Jp bk2=> ?_) fun _ _=> ?_
   ·refine gl hd (fun (p : Int × (Int))=> let (p0,p_0):= p; ⟨[(2,.d (.i p_0)),(5,.d (.i (w64 (x1.toNat : Int)))),(6,.d (.i x2)),(36,sl eB x6),(37,.d (.i (x6.length : Int))),(38,.d (.i p0))],[],[],0⟩) (fun p=> ∃ i : Nat,p.1 = (i : Int) ∧ i ≤ x6.length ∧ each0 m_der_length_b1 (x6.drop i) (i : Int) p.2 = some x7) (fun p=> x6.length - p.1.toNat) (0,0) ⟨0,rfl,Nat.zero_le _,q7⟩ (by kernel_rfl) ?_
    rintro ⟨_,s1⟩ ⟨i1,rfl,hi,q8⟩ Jl bl1
    refine gi' (b:= decide ((i1 : Int) < (x6.length : Int))) (by kernel_rfl) (fun hc5=> ?_) fun hc5=> ?_
    ·have hlt1 : i1 < x6.length:= by have:= of_decide_eq_true hc5; omega
     obtain ⟨x8,y1,q11,q10,q9⟩:= each0_in q8 hlt1
     unfold m_der_length_b1 at q10
     refine gidx (k:= 1) (E:= eB) (fun _=> rfl) (fun _=> q11) (by kernel_rfl) ?_
     have q10:= bnd_is q10
     let x9 : Int:= ((or64 (shl64 s1 8) (w64 (x8.toNat : Int))))
     have e0:= sI0 q10
     subst e0
     exact gb bl1 hd (w64 ((i1 : Int) + 1),x9) ⟨⟨i1 + 1,w64_succ hlt1 hle1,by omega,q9⟩,mu_lt hlt1 hle1⟩ (by kernel_rfl)
    have hlt1 : ¬ i1 < x6.length:= by have:= of_decide_eq_false hc5; omega
    have e:= Eq.symm (each0_out q8 hlt1)
    subst e
    exact gb bk2 hd () trivial (by kernel_rfl)
   have e0:= sI0 q5
   subst e0
   exact gb bk1 hd () trivial (by kernel_rfl)
  refine gi hm (by kernel_rfl) (fun hc6 hm=> ?_) fun hc6 hm=> ?_
  ·skip
   have e0:= sI0 hm
   subst e0
   exact gend hd (by kernel_rfl)
  have e0:= sI0 hm
  subst e0
  exact gend hd (by kernel_rfl)
def H_der_get (rF : (List UInt8) → Int → Option (g_api_Item × (List UInt8) × Int)) : Prop:= ∀ {a0 : List UInt8} {a1 : Int} {r : g_api_Item × (List UInt8) × Int},rF a0 a1 = some r → Sf prog 108 [sl eB a0,.d (.i a1)] (.tup [ag (e_api_Item r.1),sl eB r.2.1,.d (.i r.2.2)])
def m_der_get_b3 (rF : (List UInt8) → Int → Option (g_api_Item × (List UInt8) × Int)) (a1 : Int) (s1 : (List UInt8) × (List UInt8) × (List g_api_Item)) : Option (((List UInt8) × (List UInt8) × (List g_api_Item)) ⊕ (((List UInt8) × (List g_api_Item)) ⊕ (g_api_Item × (List UInt8) × Int))) :=
 if (decide ((s1.2.1.length : Int) > 0)) = true then
  obind (rF s1.2.1 (w64 (a1 - 1))) fun x12 =>
  if (x12.2.2 != 0) = true then
   some (.inr (.inr ((⟨0,[],[]⟩ : g_api_Item),([] : List UInt8),71)))
  else
  obind (app 56 s1.2.2 ([x12.1] : List g_api_Item)) fun x13 =>
  some (.inl (s1.1,x12.2.1,x13))
 else
 some (.inr (.inl (s1.1,s1.2.2)))
def m_der_get_r (rF : (List UInt8) → Int → Option (g_api_Item × (List UInt8) × Int)) (a0 : List UInt8) (a1 : Int) : Option (g_api_Item × (List UInt8) × Int) :=
 if ((a0.length : Int) == 0) = true then
  some ((⟨0,[],[]⟩ : g_api_Item),([] : List UInt8),70)
 else
 obind (idx a0 0) fun x1 =>
 obind (m_der_find (w64 (x1.toNat : Int))) fun x2 =>
 if ((!x2.2) || (decide (a1 < 1))) = true then
  some ((⟨0,[],[]⟩ : g_api_Item),([] : List UInt8),71)
 else
 obind (cut a0 1 (a0.length : Int)) fun x3 =>
 obind (m_der_length x3) fun x4 =>
 if (x4.2.2 != 0) = true then
  some ((⟨0,[],[]⟩ : g_api_Item),([] : List UInt8),x4.2.2)
 else
 if (decide ((w64 ((w64 (1 + x4.2.1)) + x4.1)) > 8192)) = true then
  some ((⟨0,[],[]⟩ : g_api_Item),([] : List UInt8),71)
 else
 obind (cut a0 (w64 (1 + x4.2.1)) (a0.length : Int)) fun x5 =>
 if (decide (x4.1 > (x5.length : Int))) = true then
  some ((⟨0,[],[]⟩ : g_api_Item),([] : List UInt8),70)
 else
 obind (cut x5 0 x4.1) fun x6 =>
 obind (cut x5 x4.1 (x5.length : Int)) fun x7 =>
 if (x2.1.tag_ != 48) = true then
  obind (m_dyn_34 x2.1.may_ x6) fun x8 =>
  if (!x8) = true then
   some ((⟨0,[],[]⟩ : g_api_Item),([] : List UInt8),71)
  else
  obind (m_slices_Clone_byte_byte x6) fun x9 =>
  some ((⟨x2.1.tag_,x9,[]⟩ : g_api_Item),x7,0)
 else
 obind (iter ((m_der_get_b3 rF) a1) FUEL (x7,x6,([] : List g_api_Item))) fun x10=> match x10 with
 | .inr r=> some r
 | .inl y1 =>
 some ((⟨x2.1.tag_,[],y1.2⟩ : g_api_Item),y1.1,0)
theorem w_der_get_r {rF : (List UInt8) → Int → Option (g_api_Item × (List UInt8) × Int)} (hF : H_der_get rF) {a0 : List UInt8} {a1 : Int} {r : g_api_Item × (List UInt8) × Int} (hm : m_der_get_r rF a0 a1 = some r) : Sf prog 108 [sl eB a0,.d (.i a1)] (.tup [ag (e_api_Item r.1),sl eB r.2.1,.d (.i r.2.2)]) :=
 sp call108 func108 rfl ntmps108 rfl fun D0 As η0 m0 hd=> by
  unfold m_der_get_r at hm
  refine gi hm (by kernel_rfl) (fun hc1 hm=> ?_) fun hc1 hm=> ?_
  ·skip
   have e0:= sI0 hm
   subst e0
   exact gend hd (by kernel_rfl)
  obtain ⟨x1,q1,hm⟩:= oY0 hm
  refine gidx (k:= 1) (E:= eB) (fun _=> rfl) (fun _=> q1) (by kernel_rfl) ?_
  obtain ⟨x2,q2,hm⟩:= oY0 hm
  refine gc (fun _=> w_der_find q2) (by kernel_rfl) ?_
  refine gi hm (by kernel_rfl) (fun hc2 hm=> ?_) fun hc2 hm=> ?_
  ·skip
   have e0:= sI0 hm
   subst e0
   exact gend hd (by kernel_rfl)
  obtain ⟨x3,q3,hm⟩:= oY0 hm
  refine gcut (k:= 1) (E:= eB) (fun _=> rfl) (fun _=> q3) (by kernel_rfl) ?_
  obtain ⟨x4,q4,hm⟩:= oY0 hm
  refine gc (fun _=> w_der_length q4) (by kernel_rfl) ?_
  refine gi hm (by kernel_rfl) (fun hc3 hm=> ?_) fun hc3 hm=> ?_
  ·skip
   have e0:= sI0 hm
   subst e0
   exact gend hd (by kernel_rfl)
  refine gi hm (by kernel_rfl) (fun hc4 hm=> ?_) fun hc4 hm=> ?_
  ·skip
   have e0:= sI0 hm
   subst e0
   exact gend hd (by kernel_rfl)
  obtain ⟨x5,q5,hm⟩:= oY0 hm
  refine gcut (k:= 1) (E:= eB) (fun _=> rfl) (fun _=> q5) (by kernel_rfl) ?_
  refine gi hm (by kernel_rfl) (fun hc5 hm=> ?_) fun hc5 hm=> ?_
  ·skip
   have e0:= sI0 hm
   subst e0
   exact gend hd (by kernel_rfl)
  obtain ⟨x6,q6,hm⟩:= oY0 hm
  refine gcut (k:= 1) (E:= eB) (fun _=> rfl) (fun _=> q6) (by kernel_rfl) ?_
  obtain ⟨x7,q7,hm⟩:= oY0 hm
  refine gcut (k:= 1) (E:= eB) (fun _=> rfl) (fun _=> q7) (by kernel_rfl) ?_
  refine gi hm (by kernel_rfl) (fun hc6 hm=> ?_) fun hc6 hm=> ?_
  ·skip
   obtain ⟨x8,q8,hm⟩:= oY0 hm
   refine gdyn (fun _=> w_dyn_34 q8) (by kernel_rfl) ?_
   refine gi hm (by kernel_rfl) (fun hc7 hm=> ?_) fun hc7 hm=> ?_
   ·skip
    have e0:= sI0 hm
    subst e0
    exact gend hd (by kernel_rfl)
   obtain ⟨x9,q9,hm⟩:= oY0 hm
   refine gco (s_slices_Clone_byte_byte q9) (by kernel_rfl) ?_
   have e0:= sI0 hm
   subst e0
   exact gend hd (by kernel_rfl)
  obtain ⟨x10,q10,hm⟩:= oY0 hm
  refine gnilBU 0 e_api_Item 4 2 3 (by kernel_rfl) ?_
  refine gjU 0 (fun (y1 : (List UInt8) × (List g_api_Item))=> let (y_0,y_1):= y1; ⟨[(4,.pb 0 0),(5,sl eB y_0),(7,.pb 1 0)],[(0,.row 2 3 _ e_api_Item y_1),(1,.box 1 [.d (.i x2.1.tag_),.d (.v (fnV x2.1.may_))] 120),(2,.box 0 [.d (.i x2.1.tag_),sl eB [],.ow 2] 56)],[],3⟩) (fun y1=> x10 = .inl y1) (by kernel_rfl) (fun Jp bk1=> ?_) fun y1 hy=> ?_
  ·refine gl hd (fun (p : Nat × ((List UInt8) × (List UInt8) × (List g_api_Item)))=> let (p0,p_0,p_1,p_2):= p; ⟨[(1,.d (.i a1)),(4,.pb 0 0),(5,sl eB p_0),(11,sl eB p_1),(7,.pb 1 0)],[(0,.row 2 3 _ e_api_Item p_2),(1,.box 1 [.d (.i x2.1.tag_),.d (.v (fnV x2.1.may_))] 120),(2,.box 0 [.d (.i x2.1.tag_),sl eB [],.ow 2] 56)],[],3⟩) (fun p=> iter ((m_der_get_b3 rF) a1) p.1 p.2 = some x10) (fun p=> p.1) (FUEL,(x7,x6,([] : List g_api_Item))) q10 (by kernel_rfl) ?_
   rintro ⟨n1,s1⟩ q11 Jl bl1
   cases n1 with
   | zero=> exact (iter_zero q11).elim
   | succ n1 =>
    obtain ⟨y2,q13,q12⟩:= iter_succ q11
    unfold m_der_get_b3 at q13
    refine gi q13 (by kernel_rfl) (fun hc8 q13=> ?_) fun hc8 q13=> ?_
    ·skip
     obtain ⟨x12,q15,q13⟩:= oY0 q13
     refine gc (fun _=> hF q15) (by kernel_rfl) ?_
     refine gi q13 (by kernel_rfl) (fun hc9 q13=> ?_) fun hc9 q13=> ?_
     ·skip
      cases q13
      rcases q12 with ⟨sn,e,_⟩ | e
      ·cases e
      cases e
      dsimp only at hm
      have e0:= sI0 hm
      subst e0
      exact gend hd (by kernel_rfl)
     refine glitF (k:= 3) e_api_Item ([x12.1] : List g_api_Item) (fun _=> rfl) (by kernel_rfl) ?_
     obtain ⟨x13,q16,q13⟩:= oY0 q13
     refine gapp (k:= 3) (E:= e_api_Item) (fun _=> rfl) q16 (by kernel_rfl) ?_
     have e0:= sI0 q13
     subst e0
     rcases q12 with ⟨sn,e,q12'⟩ | e
     ·have e:= Sum.inl.inj e
      subst e
      exact gb bl1 hd (n1,_) ⟨q12',Nat.lt_succ_self _⟩ (by kernel_rfl)
     cases sum_lr e
    have e0:= sI0 q13
    subst e0
    rcases q12 with ⟨sn,e,_⟩ | e
    ·cases sum_rl e
    have e:= Sum.inr.inj e
    subst e
    exact gb bk1 hd (s1.1,s1.2.2) rfl (by kernel_rfl)
  subst hy
  dsimp only at hm
  have e0:= sI0 hm
  subst e0
  exact gend hd (by kernel_rfl)
def r_der_get : Nat → (List UInt8) → Int → Option (g_api_Item × (List UInt8) × Int)
 | 0,_,_=> none
 | n + 1,a0,a1=> m_der_get_r (r_der_get n) a0 a1
def m_der_get (a0 : List UInt8) (a1 : Int) : Option (g_api_Item × (List UInt8) × Int):= r_der_get FUEL a0 a1
theorem wr_der_get : ∀ n,H_der_get (r_der_get n)
 | 0=> fun hm=> by cases hm
 | n + 1=> fun hm=> w_der_get_r (wr_der_get n) hm
theorem w_der_get {a0 : List UInt8} {a1 : Int} {r : g_api_Item × (List UInt8) × Int} (hm : m_der_get a0 a1 = some r) : Sf prog 108 [sl eB a0,.d (.i a1)] (.tup [ag (e_api_Item r.1),sl eB r.2.1,.d (.i r.2.2)]):= wr_der_get FUEL hm
def m_der_Get (a0 : List UInt8) (a1 : Int) : Option (g_api_Item × Int × Int) :=
 if ((decide (a1 < 0)) || (decide (a1 > (a0.length : Int)))) = true then
  some ((⟨0,[],[]⟩ : g_api_Item),0,1)
 else
 obind (cut a0 a1 (a0.length : Int)) fun x1 =>
 obind (m_der_get x1 8) fun x2 =>
 if (x2.2.2 != 0) = true then
  some ((⟨0,[],[]⟩ : g_api_Item),0,x2.2.2)
 else
 bnd ((w64 ((a0.length : Int) - (x2.2.1.length : Int)))) fun x3 =>
 some (x2.1,x3,0)
theorem w_der_Get {a0 : List UInt8} {a1 : Int} {r : g_api_Item × Int × Int} (hm : m_der_Get a0 a1 = some r) : Sf prog 58 [sl eB a0,.d (.i a1)] (.tup [ag (e_api_Item r.1),.d (.i r.2.1),.d (.i r.2.2)]) :=
 sp call58 func58 rfl ntmps58 rfl fun D0 As η0 m0 hd=> by
  unfold m_der_Get at hm
  refine gi hm (by kernel_rfl) (fun hc1 hm=> ?_) fun hc1 hm=> ?_
  ·skip
   have e0:= sI0 hm
   subst e0
   exact gend hd (by kernel_rfl)
  obtain ⟨x1,q1,hm⟩:= oY0 hm
  refine gcut (k:= 1) (E:= eB) (fun _=> rfl) (fun _=> q1) (by kernel_rfl) ?_
  obtain ⟨x2,q2,hm⟩:= oY0 hm
  refine gc (fun _=> w_der_get q2) (by kernel_rfl) ?_
  refine gi hm (by kernel_rfl) (fun hc2 hm=> ?_) fun hc2 hm=> ?_
  ·skip
   have e0:= sI0 hm
   subst e0
   exact gend hd (by kernel_rfl)
  have hm:= bnd_is hm
  let x3 : Int:= ((w64 ((a0.length : Int) - (x2.2.1.length : Int))))
  have e0:= sI0 hm
  subst e0
  exact gend hd (by kernel_rfl)
def oddV : Value:= .iface 90 (.agg #[])
def m_cert_must (a0 : Bool) : Option (Option Unit):= some (if a0 = true then some () else none)
theorem w_cert_must {a0 : Bool} {r : Option Unit} (hm : m_cert_must a0 = some r) : Sb prog 92 [.d (.t a0)] [] 0 oddV (Pos r (fun r=> .tup []) (fun r=> []) 0) (r = none) :=
 sb call92 func92 rfl ntmps92 rfl fun D0 As η0 m0 hd=> by
  have e0:= sI0 hm
  subst e0
  refine gi' (b:= !a0) (by kernel_rfl) (fun hc=> ?_) fun hc=> ?_
  ·cases a0 with
   | true=> cases hc
   | false=> exact gthrow (by kernel_rfl) (by kernel_rfl)
  ·cases a0 with
   | true=> exact gendB hd (by kernel_rfl)
   | false=> cases hc
def m_der_AsSeq_1 (a0 : g_api_Item) : Option (List g_api_Item) :=
 obind (m_slices_Clone_api_Item_api_Item a0.L) fun x1 =>
 some x1
theorem w_der_AsSeq_1 {a0 : g_api_Item} {r : List g_api_Item} (hm : m_der_AsSeq_1 a0 = some r) : Sp prog 168 [ag (e_api_Item a0)] [] 0 (is (.ow 0) [.row 0 3 _ e_api_Item r] 1) :=
 sp call168 func168 rfl ntmps168 rfl fun D0 As η0 m0 hd=> by
  unfold m_der_AsSeq_1 at hm
  obtain ⟨x1,q1,hm⟩:= oY0 hm
  refine gco (s_slices_Clone_api_Item_api_Item q1) (by kernel_rfl) ?_
  have e0:= sI0 hm
  subst e0
  exact gend hd (by kernel_rfl)
def m_der_as_api_Item_168x (a0 : g_api_Item) (a1 : Int) : Option ((List g_api_Item) × Int) :=
 if (a0.Tag != a1) = true then
  some (([] : List g_api_Item),72)
 else
 obind (m_der_may a0 8) fun x1 =>
 if (!x1) = true then
  some (([] : List g_api_Item),71)
 else
 obind (m_der_AsSeq_1 a0) fun x2 =>
 some (x2,0)
theorem w_der_as_api_Item_168x {a0 : g_api_Item} {a1 : Int} {r : (List g_api_Item) × Int} (hm : m_der_as_api_Item_168x a0 a1 = some r) : Sp prog 167 [ag (e_api_Item a0),.d (.i a1),.fn (.func 168) [] []] [] 0 (is (.tup [.ow 0,.d (.i r.2)]) [.row 0 3 _ e_api_Item r.1] 1) :=
 sp call167 func167 rfl ntmps167 rfl fun D0 As η0 m0 hd=> by
  unfold m_der_as_api_Item_168x at hm
  refine gi hm (by kernel_rfl) (fun hc1 hm=> ?_) fun hc1 hm=> ?_
  ·skip
   refine gnil e_api_Item 6 3 (by kernel_rfl) ?_
   have e0:= sI0 hm
   subst e0
   exact gend hd (by kernel_rfl)
  obtain ⟨x1,q1,hm⟩:= oY0 hm
  refine gc (fun _=> w_der_may q1) (by kernel_rfl) ?_
  refine gi hm (by kernel_rfl) (fun hc2 hm=> ?_) fun hc2 hm=> ?_
  ·skip
   refine gnil e_api_Item 6 3 (by kernel_rfl) ?_
   have e0:= sI0 hm
   subst e0
   exact gend hd (by kernel_rfl)
  obtain ⟨x2,q2,hm⟩:= oY0 hm
  refine gco (w_der_AsSeq_1 q2) (by kernel_rfl) ?_
  have e0:= sI0 hm
  subst e0
  exact gend hd (by kernel_rfl)
def m_der_AsSeq (a0 : g_api_Item) : Option ((List g_api_Item) × Int) :=
 obind (m_der_as_api_Item_168x a0 48) fun x1 =>
 some (x1.1,x1.2)
theorem w_der_AsSeq {a0 : g_api_Item} {r : (List g_api_Item) × Int} (hm : m_der_AsSeq a0 = some r) : Sp prog 132 [ag (e_api_Item a0)] [] 0 (is (.tup [.ow 0,.d (.i r.2)]) [.row 0 3 _ e_api_Item r.1] 1) :=
 sp call132 func132 rfl ntmps132 rfl fun D0 As η0 m0 hd=> by
  unfold m_der_AsSeq at hm
  obtain ⟨x1,q1,hm⟩:= oY0 hm
  refine gco (w_der_as_api_Item_168x q1) (by kernel_rfl) ?_
  have e0:= sI0 hm
  subst e0
  exact gend hd (by kernel_rfl)
def m_cert_in (a0 : g_api_Item) : Option (Option g_cert_reader) :=
 obind (m_der_AsSeq a0) fun x1 =>
 obind (m_cert_must (x1.2 == 0)) fun y1=> match y1 with
 | none=> some none
 | some x2 =>
 some (some (⟨x1.1⟩ : g_cert_reader))
theorem w_cert_in {a0 : g_api_Item} {r : Option g_cert_reader} (hm : m_cert_in a0 = some r) : Sb prog 93 [ag (e_api_Item a0)] [] 0 oddV (Pos r (fun r=> .pb 0 0) (fun r=> [.box 0 [.d (.sl _ e_api_Item r.l_)] 100]) 1) (r = none) :=
 sb call93 func93 rfl ntmps93 rfl fun D0 As η0 m0 hd=> by
  unfold m_cert_in at hm
  obtain ⟨x1,q1,hm⟩:= oY0 hm
  refine gco (w_der_AsSeq q1) (by kernel_rfl) ?_
  obtain ⟨y1,q2,hm⟩:= oY0 hm
  rcases y1 with _ | x2
  ·dsimp only at hm
   have e0:= sI0 hm
   subst e0
   exact gpan (w_cert_must q2) (by kernel_rfl)
  dsimp only at hm
  refine gc (fun _=> (w_cert_must q2).sp) (by kernel_rfl) ?_
  have e0:= sI0 hm
  subst e0
  exact gendB hd (by kernel_rfl)
def m_der_AsInt_1_b2  (i1 : Int) (x5 : UInt8) (s1 : Int) : Option (Int) :=
 bnd ((or64 (shl64 s1 8) (w64 (x5.toNat : Int)))) fun x6 =>
 some x6
def m_der_AsInt_1 (a0 : g_api_Item) : Option Int :=
 obind (idx a0.B 0) fun x1 =>
 obind (
  obind (cut a0.B 1 (a0.B.length : Int)) fun x3 =>
  obind (each0 m_der_AsInt_1_b2 x3 0 (w64 (w8 (x1.toNat : Int)))) fun x4 =>
  some x4
 ) fun x2 =>
 some x2
theorem w_der_AsInt_1 {a0 : g_api_Item} {r : Int} (hm : m_der_AsInt_1 a0 = some r) : Sf prog 175 [ag (e_api_Item a0)] (.d (.i r)) :=
 sp call175 func175 rfl ntmps175 rfl fun D0 As η0 m0 hd=> by
  unfold m_der_AsInt_1 at hm
  obtain ⟨x1,q1,hm⟩:= oY0 hm
  refine gidx (k:= 1) (E:= eB) (fun _=> rfl) (fun _=> q1) (by kernel_rfl) ?_
  obtain ⟨x2,q2,hm⟩:= oY0 hm
  obtain ⟨x3,q3,q2⟩:= oY0 q2
  refine gcut (k:= 1) (E:= eB) (fun _=> rfl) (fun _=> q3) (by kernel_rfl) ?_
  obtain ⟨x4,q4,q2⟩:= oY0 q2
  refine glen 0 (E:= eB) (xs:= x3) 14 (by kernel_rfl) fun hle1=> ?_
  refine gjU 0 (fun (_ : Unit)=> ⟨[(3,.d (.i x2)),(1,.pb 0 0)],[(0,.box 0 [.d (.i a0.Tag),sl eB a0.B,sl e_api_Item a0.L] 56)],[],1⟩) (fun _=> True) (by kernel_rfl) (fun Jp bk1=> ?_) fun _ _=> ?_
  ·refine gjU 0 (fun (_ : Unit)=> ⟨[(3,.d (.i x4)),(1,.pb 0 0)],[(0,.box 0 [.d (.i a0.Tag),sl eB a0.B,sl e_api_Item a0.L] 56)],[],1⟩) (fun _=> True) (by kernel_rfl) (fun Jp bk2=> ?_) fun _ _=> ?_
   ·refine gl hd (fun (p : Int × (Int))=> let (p0,p_0):= p; ⟨[(3,.d (.i p_0)),(14,sl eB x3),(15,.d (.i (x3.length : Int))),(16,.d (.i p0)),(1,.pb 0 0)],[(0,.box 0 [.d (.i a0.Tag),sl eB a0.B,sl e_api_Item a0.L] 56)],[],1⟩) (fun p=> ∃ i : Nat,p.1 = (i : Int) ∧ i ≤ x3.length ∧ each0 m_der_AsInt_1_b2 (x3.drop i) (i : Int) p.2 = some x4) (fun p=> x3.length - p.1.toNat) (0,(w64 (w8 (x1.toNat : Int)))) ⟨0,rfl,Nat.zero_le _,q4⟩ (by kernel_rfl) ?_
    rintro ⟨_,s1⟩ ⟨i1,rfl,hi,q5⟩ Jl bl1
    refine gi' (b:= decide ((i1 : Int) < (x3.length : Int))) (by kernel_rfl) (fun hc1=> ?_) fun hc1=> ?_
    ·have hlt1 : i1 < x3.length:= by have:= of_decide_eq_true hc1; omega
     obtain ⟨x5,y1,q8,q7,q6⟩:= each0_in q5 hlt1
     unfold m_der_AsInt_1_b2 at q7
     refine gidx (k:= 1) (E:= eB) (fun _=> rfl) (fun _=> q8) (by kernel_rfl) ?_
     have q7:= bnd_is q7
     let x6 : Int:= ((or64 (shl64 s1 8) (w64 (x5.toNat : Int))))
     have e0:= sI0 q7
     subst e0
     exact gb bl1 hd (w64 ((i1 : Int) + 1),x6) ⟨⟨i1 + 1,w64_succ hlt1 hle1,by omega,q6⟩,mu_lt hlt1 hle1⟩ (by kernel_rfl)
    have hlt1 : ¬ i1 < x3.length:= by have:= of_decide_eq_false hc1; omega
    have e:= Eq.symm (each0_out q5 hlt1)
    subst e
    exact gb bk2 hd () trivial (by kernel_rfl)
   have e0:= sI0 q2
   subst e0
   exact gb bk1 hd () trivial (by kernel_rfl)
  have e0:= sI0 hm
  subst e0
  exact gend hd (by kernel_rfl)
def m_der_as_int_175x (a0 : g_api_Item) (a1 : Int) : Option (Int × Int) :=
 if (a0.Tag != a1) = true then
  some (0,72)
 else
 obind (m_der_may a0 8) fun x1 =>
 if (!x1) = true then
  some (0,71)
 else
 obind (m_der_AsInt_1 a0) fun x2 =>
 some (x2,0)
theorem w_der_as_int_175x {a0 : g_api_Item} {a1 : Int} {r : Int × Int} (hm : m_der_as_int_175x a0 a1 = some r) : Sf prog 174 [ag (e_api_Item a0),.d (.i a1),.fn (.func 175) [] []] (.tup [.d (.i r.1),.d (.i r.2)]) :=
 sp call174 func174 rfl ntmps174 rfl fun D0 As η0 m0 hd=> by
  unfold m_der_as_int_175x at hm
  refine gi hm (by kernel_rfl) (fun hc1 hm=> ?_) fun hc1 hm=> ?_
  ·skip
   have e0:= sI0 hm
   subst e0
   exact gend hd (by kernel_rfl)
  obtain ⟨x1,q1,hm⟩:= oY0 hm
  refine gc (fun _=> w_der_may q1) (by kernel_rfl) ?_
  refine gi hm (by kernel_rfl) (fun hc2 hm=> ?_) fun hc2 hm=> ?_
  ·skip
   have e0:= sI0 hm
   subst e0
   exact gend hd (by kernel_rfl)
  obtain ⟨x2,q2,hm⟩:= oY0 hm
  refine gc (fun _=> w_der_AsInt_1 q2) (by kernel_rfl) ?_
  have e0:= sI0 hm
  subst e0
  exact gend hd (by kernel_rfl)
def m_der_AsInt (a0 : g_api_Item) : Option (Int × Int) :=
 obind (m_der_as_int_175x a0 2) fun x1 =>
 some (x1.1,x1.2)
theorem w_der_AsInt {a0 : g_api_Item} {r : Int × Int} (hm : m_der_AsInt a0 = some r) : Sf prog 143 [ag (e_api_Item a0)] (.tup [.d (.i r.1),.d (.i r.2)]) :=
 sp call143 func143 rfl ntmps143 rfl fun D0 As η0 m0 hd=> by
  unfold m_der_AsInt at hm
  obtain ⟨x1,q1,hm⟩:= oY0 hm
  refine gc (fun _=> w_der_as_int_175x q1) (by kernel_rfl) ?_
  have e0:= sI0 hm
  subst e0
  exact gend hd (by kernel_rfl)
def m_cert_next_int_143x (a0 : g_cert_reader) : Option (Option (Int × g_cert_reader)) :=
 obind (m_cert_must (decide ((a0.l_.length : Int) > 0))) fun y1=> match y1 with
 | none=> some none
 | some x1 =>
 obind (idx a0.l_ 0) fun x2 =>
 obind (m_der_AsInt x2) fun x3 =>
 obind (m_cert_must (x3.2 == 0)) fun y2=> match y2 with
 | none=> some none
 | some x4 =>
 obind (cut a0.l_ 1 (a0.l_.length : Int)) fun x5 =>
 some (some (x3.1,(⟨x5⟩ : g_cert_reader)))
theorem w_cert_next_int_143x {a0 : g_cert_reader} {r : Option (Int × g_cert_reader)} (hm : m_cert_next_int_143x a0 = some r) : Sb prog 142 [.pb 0 0,.fn (.func 143) [] []] [.box 0 [sl e_api_Item a0.l_] 100] 1 oddV (Pos r (fun r=> .d (.i r.1)) (fun r=> [.box 0 [.d (.sl _ e_api_Item r.2.l_)] 100]) 1) (r = none) :=
 sb call142 func142 rfl ntmps142 rfl fun D0 As η0 m0 hd=> by
  unfold m_cert_next_int_143x at hm
  obtain ⟨y1,q1,hm⟩:= oY0 hm
  rcases y1 with _ | x1
  ·dsimp only at hm
   have e0:= sI0 hm
   subst e0
   exact gpan (w_cert_must q1) (by kernel_rfl)
  dsimp only at hm
  refine gc (fun _=> (w_cert_must q1).sp) (by kernel_rfl) ?_
  obtain ⟨x2,q2,hm⟩:= oY0 hm
  refine gidx (k:= 3) (E:= e_api_Item) (fun _=> rfl) (fun _=> q2) (by kernel_rfl) ?_
  obtain ⟨x3,q3,hm⟩:= oY0 hm
  refine gc (fun _=> w_der_AsInt q3) (by kernel_rfl) ?_
  obtain ⟨y2,q4,hm⟩:= oY0 hm
  rcases y2 with _ | x4
  ·dsimp only at hm
   have e0:= sI0 hm
   subst e0
   exact gpan (w_cert_must q4) (by kernel_rfl)
  dsimp only at hm
  refine gc (fun _=> (w_cert_must q4).sp) (by kernel_rfl) ?_
  obtain ⟨x5,q5,hm⟩:= oY0 hm
  refine gcut (k:= 3) (E:= e_api_Item) (fun _=> rfl) (fun _=> q5) (by kernel_rfl) ?_
  have e0:= sI0 hm
  subst e0
  exact gendB hd (by kernel_rfl)
def m_cert_reader_count (a0 : g_cert_reader) : Option (Option (Int × g_cert_reader)) :=
 obind (m_cert_next_int_143x a0) fun y1=> match y1 with
 | none=> some none
 | some x1 =>
 obind (m_cert_must (decide (x1.1 ≥ 0))) fun y2=> match y2 with
 | none=> some none
 | some x2 =>
 some (some (x1.1,x1.2))
theorem w_cert_reader_count {a0 : g_cert_reader} {r : Option (Int × g_cert_reader)} (hm : m_cert_reader_count a0 = some r) : Sb prog 102 [.pb 0 0] [.box 0 [sl e_api_Item a0.l_] 100] 1 oddV (Pos r (fun r=> .d (.i r.1)) (fun r=> [.box 0 [.d (.sl _ e_api_Item r.2.l_)] 100]) 1) (r = none) :=
 sb call102 func102 rfl ntmps102 rfl fun D0 As η0 m0 hd=> by
  unfold m_cert_reader_count at hm
  obtain ⟨y1,q1,hm⟩:= oY0 hm
  rcases y1 with _ | x1
  ·dsimp only at hm
   have e0:= sI0 hm
   subst e0
   exact gpan (w_cert_next_int_143x q1) (by kernel_rfl)
  dsimp only at hm
  refine gco (w_cert_next_int_143x q1).sp (by kernel_rfl) ?_
  obtain ⟨y2,q2,hm⟩:= oY0 hm
  rcases y2 with _ | x2
  ·dsimp only at hm
   have e0:= sI0 hm
   subst e0
   exact gpan (w_cert_must q2) (by kernel_rfl)
  dsimp only at hm
  refine gc (fun _=> (w_cert_must q2).sp) (by kernel_rfl) ?_
  have e0:= sI0 hm
  subst e0
  exact gendB hd (by kernel_rfl)
def m_cert_reader_big (a0 : g_cert_reader) : Option (Option (UInt64 × g_cert_reader)) :=
 obind (m_cert_reader_count a0) fun y1=> match y1 with
 | none=> some none
 | some x1 =>
 some (some ((toU x1.1),x1.2))
theorem w_cert_reader_big {a0 : g_cert_reader} {r : Option (UInt64 × g_cert_reader)} (hm : m_cert_reader_big a0 = some r) : Sb prog 95 [.pb 0 0] [.box 0 [sl e_api_Item a0.l_] 100] 1 oddV (Pos r (fun r=> .d (.u r.1)) (fun r=> [.box 0 [.d (.sl _ e_api_Item r.2.l_)] 100]) 1) (r = none) :=
 sb call95 func95 rfl ntmps95 rfl fun D0 As η0 m0 hd=> by
  unfold m_cert_reader_big at hm
  obtain ⟨y1,q1,hm⟩:= oY0 hm
  rcases y1 with _ | x1
  ·dsimp only at hm
   have e0:= sI0 hm
   subst e0
   exact gpan (w_cert_reader_count q1) (by kernel_rfl)
  dsimp only at hm
  refine gco (w_cert_reader_count q1).sp (by kernel_rfl) ?_
  have e0:= sI0 hm
  subst e0
  exact gendB hd (by kernel_rfl)
def m_cert_reader_end (a0 : g_cert_reader) : Option (Option g_cert_reader) :=
 obind (m_cert_must ((a0.l_.length : Int) == 0)) fun y1=> match y1 with
 | none=> some none
 | some x1 =>
 some (some a0)
theorem w_cert_reader_end {a0 : g_cert_reader} {r : Option g_cert_reader} (hm : m_cert_reader_end a0 = some r) : Sb prog 96 [.pb 0 0] [.box 0 [sl e_api_Item a0.l_] 100] 1 oddV (Pos r (fun r=> .tup []) (fun r=> [.box 0 [.d (.sl _ e_api_Item r.l_)] 100]) 1) (r = none) :=
 sb call96 func96 rfl ntmps96 rfl fun D0 As η0 m0 hd=> by
  unfold m_cert_reader_end at hm
  obtain ⟨y1,q1,hm⟩:= oY0 hm
  rcases y1 with _ | x1
  ·dsimp only at hm
   have e0:= sI0 hm
   subst e0
   exact gpan (w_cert_must q1) (by kernel_rfl)
  dsimp only at hm
  refine gc (fun _=> (w_cert_must q1).sp) (by kernel_rfl) ?_
  have e0:= sI0 hm
  subst e0
  exact gendB hd (by kernel_rfl)
def m_der_AsText_1 (a0 : g_api_Item) : Option ByteArray :=
 some (bs a0.B)
theorem w_der_AsText_1 {a0 : g_api_Item} {r : ByteArray} (hm : m_der_AsText_1 a0 = some r) : Sf prog 145 [ag (e_api_Item a0)] (.d (.s r)) :=
 sp call145 func145 rfl ntmps145 rfl fun D0 As η0 m0 hd=> by
  unfold m_der_AsText_1 at hm
  refine gbs (xs:= a0.B) (by kernel_rfl) ?_
  have e0:= sI0 hm
  subst e0
  exact gend hd (by kernel_rfl)
def m_der_as_string_145x (a0 : g_api_Item) (a1 : Int) : Option (ByteArray × Int) :=
 if (a0.Tag != a1) = true then
  some ((⟨#[]⟩ : ByteArray),72)
 else
 obind (m_der_may a0 8) fun x1 =>
 if (!x1) = true then
  some ((⟨#[]⟩ : ByteArray),71)
 else
 obind (m_der_AsText_1 a0) fun x2 =>
 some (x2,0)
theorem w_der_as_string_145x {a0 : g_api_Item} {a1 : Int} {r : ByteArray × Int} (hm : m_der_as_string_145x a0 a1 = some r) : Sf prog 144 [ag (e_api_Item a0),.d (.i a1),.fn (.func 145) [] []] (.tup [.d (.s r.1),.d (.i r.2)]) :=
 sp call144 func144 rfl ntmps144 rfl fun D0 As η0 m0 hd=> by
  unfold m_der_as_string_145x at hm
  refine gi hm (by kernel_rfl) (fun hc1 hm=> ?_) fun hc1 hm=> ?_
  ·skip
   have e0:= sI0 hm
   subst e0
   exact gend hd (by kernel_rfl)
  obtain ⟨x1,q1,hm⟩:= oY0 hm
  refine gc (fun _=> w_der_may q1) (by kernel_rfl) ?_
  refine gi hm (by kernel_rfl) (fun hc2 hm=> ?_) fun hc2 hm=> ?_
  ·skip
   have e0:= sI0 hm
   subst e0
   exact gend hd (by kernel_rfl)
  obtain ⟨x2,q2,hm⟩:= oY0 hm
  refine gc (fun _=> w_der_AsText_1 q2) (by kernel_rfl) ?_
  have e0:= sI0 hm
  subst e0
  exact gend hd (by kernel_rfl)
def m_der_AsText (a0 : g_api_Item) : Option (ByteArray × Int) :=
 obind (m_der_as_string_145x a0 12) fun x1 =>
 some (x1.1,x1.2)
theorem w_der_AsText {a0 : g_api_Item} {r : ByteArray × Int} (hm : m_der_AsText a0 = some r) : Sf prog 104 [ag (e_api_Item a0)] (.tup [.d (.s r.1),.d (.i r.2)]) :=
 sp call104 func104 rfl ntmps104 rfl fun D0 As η0 m0 hd=> by
  unfold m_der_AsText at hm
  obtain ⟨x1,q1,hm⟩:= oY0 hm
  refine gc (fun _=> w_der_as_string_145x q1) (by kernel_rfl) ?_
  have e0:= sI0 hm
  subst e0
  exact gend hd (by kernel_rfl)
def m_cert_next_api_Item_132x (a0 : g_cert_reader) : Option (Option ((List g_api_Item) × g_cert_reader)) :=
 obind (m_cert_must (decide ((a0.l_.length : Int) > 0))) fun y1=> match y1 with
 | none=> some none
 | some x1 =>
 obind (idx a0.l_ 0) fun x2 =>
 obind (m_der_AsSeq x2) fun x3 =>
 obind (m_cert_must (x3.2 == 0)) fun y2=> match y2 with
 | none=> some none
 | some x4 =>
 obind (cut a0.l_ 1 (a0.l_.length : Int)) fun x5 =>
 some (some (x3.1,(⟨x5⟩ : g_cert_reader)))
theorem w_cert_next_api_Item_132x {a0 : g_cert_reader} {r : Option ((List g_api_Item) × g_cert_reader)} (hm : m_cert_next_api_Item_132x a0 = some r) : Sb prog 133 [.pb 0 0,.fn (.func 132) [] []] [.box 0 [sl e_api_Item a0.l_] 100] 1 oddV (Pos r (fun r=> .ow 1) (fun r=> [.box 0 [.d (.sl _ e_api_Item r.2.l_)] 100,.row 1 3 _ e_api_Item r.1]) 2) (r = none) :=
 sb call133 func133 rfl ntmps133 rfl fun D0 As η0 m0 hd=> by
  unfold m_cert_next_api_Item_132x at hm
  obtain ⟨y1,q1,hm⟩:= oY0 hm
  rcases y1 with _ | x1
  ·dsimp only at hm
   have e0:= sI0 hm
   subst e0
   exact gpan (w_cert_must q1) (by kernel_rfl)
  dsimp only at hm
  refine gc (fun _=> (w_cert_must q1).sp) (by kernel_rfl) ?_
  obtain ⟨x2,q2,hm⟩:= oY0 hm
  refine gidx (k:= 3) (E:= e_api_Item) (fun _=> rfl) (fun _=> q2) (by kernel_rfl) ?_
  obtain ⟨x3,q3,hm⟩:= oY0 hm
  refine gco (w_der_AsSeq q3) (by kernel_rfl) ?_
  obtain ⟨y2,q4,hm⟩:= oY0 hm
  rcases y2 with _ | x4
  ·dsimp only at hm
   have e0:= sI0 hm
   subst e0
   exact gpan (w_cert_must q4) (by kernel_rfl)
  dsimp only at hm
  refine gc (fun _=> (w_cert_must q4).sp) (by kernel_rfl) ?_
  obtain ⟨x5,q5,hm⟩:= oY0 hm
  refine gcut (k:= 3) (E:= e_api_Item) (fun _=> rfl) (fun _=> q5) (by kernel_rfl) ?_
  have e0:= sI0 hm
  subst e0
  exact gendB hd (by kernel_rfl)
def m_cert_reader_sub (a0 : g_cert_reader) : Option (Option (g_cert_reader × g_cert_reader)) :=
 obind (m_cert_next_api_Item_132x a0) fun y1=> match y1 with
 | none=> some none
 | some x1 =>
 some (some ((⟨x1.1⟩ : g_cert_reader),x1.2))
theorem w_cert_reader_sub {a0 : g_cert_reader} {r : Option (g_cert_reader × g_cert_reader)} (hm : m_cert_reader_sub a0 = some r) : Sb prog 94 [.pb 0 0] [.box 0 [sl e_api_Item a0.l_] 100] 1 oddV (Pos r (fun r=> .pb 1 0) (fun r=> [.box 0 [.d (.sl _ e_api_Item r.2.l_)] 100,.box 1 [.d (.sl _ e_api_Item r.1.l_)] 100]) 2) (r = none) :=
 sb call94 func94 rfl ntmps94 rfl fun D0 As η0 m0 hd=> by
  unfold m_cert_reader_sub at hm
  obtain ⟨y1,q1,hm⟩:= oY0 hm
  rcases y1 with _ | x1
  ·dsimp only at hm
   have e0:= sI0 hm
   subst e0
   exact gpan (w_cert_next_api_Item_132x q1) (by kernel_rfl)
  dsimp only at hm
  refine gco (w_cert_next_api_Item_132x q1).sp (by kernel_rfl) ?_
  have e0:= sI0 hm
  subst e0
  exact gendB hd (by kernel_rfl)
def m_cert_next_string_104x (a0 : g_cert_reader) : Option (Option (ByteArray × g_cert_reader)) :=
 obind (m_cert_must (decide ((a0.l_.length : Int) > 0))) fun y1=> match y1 with
 | none=> some none
 | some x1 =>
 obind (idx a0.l_ 0) fun x2 =>
 obind (m_der_AsText x2) fun x3 =>
 obind (m_cert_must (x3.2 == 0)) fun y2=> match y2 with
 | none=> some none
 | some x4 =>
 obind (cut a0.l_ 1 (a0.l_.length : Int)) fun x5 =>
 some (some (x3.1,(⟨x5⟩ : g_cert_reader)))
theorem w_cert_next_string_104x {a0 : g_cert_reader} {r : Option (ByteArray × g_cert_reader)} (hm : m_cert_next_string_104x a0 = some r) : Sb prog 103 [.pb 0 0,.fn (.func 104) [] []] [.box 0 [sl e_api_Item a0.l_] 100] 1 oddV (Pos r (fun r=> .d (.s r.1)) (fun r=> [.box 0 [.d (.sl _ e_api_Item r.2.l_)] 100]) 1) (r = none) :=
 sb call103 func103 rfl ntmps103 rfl fun D0 As η0 m0 hd=> by
  unfold m_cert_next_string_104x at hm
  obtain ⟨y1,q1,hm⟩:= oY0 hm
  rcases y1 with _ | x1
  ·dsimp only at hm
   have e0:= sI0 hm
   subst e0
   exact gpan (w_cert_must q1) (by kernel_rfl)
  dsimp only at hm
  refine gc (fun _=> (w_cert_must q1).sp) (by kernel_rfl) ?_
  obtain ⟨x2,q2,hm⟩:= oY0 hm
  refine gidx (k:= 3) (E:= e_api_Item) (fun _=> rfl) (fun _=> q2) (by kernel_rfl) ?_
  obtain ⟨x3,q3,hm⟩:= oY0 hm
  refine gc (fun _=> w_der_AsText q3) (by kernel_rfl) ?_
  obtain ⟨y2,q4,hm⟩:= oY0 hm
  rcases y2 with _ | x4
  ·dsimp only at hm
   have e0:= sI0 hm
   subst e0
   exact gpan (w_cert_must q4) (by kernel_rfl)
  dsimp only at hm
  refine gc (fun _=> (w_cert_must q4).sp) (by kernel_rfl) ?_
  obtain ⟨x5,q5,hm⟩:= oY0 hm
  refine gcut (k:= 3) (E:= e_api_Item) (fun _=> rfl) (fun _=> q5) (by kernel_rfl) ?_
  have e0:= sI0 hm
  subst e0
  exact gendB hd (by kernel_rfl)
def m_cert_reader_texts_b2  (s1 : (List ByteArray) × (List g_api_Item)) : Option (((List ByteArray) × (List g_api_Item)) ⊕ (((List ByteArray) × (List g_api_Item)) ⊕ (Option ((List ByteArray) × g_cert_reader)))) :=
 if (decide ((s1.2.length : Int) > 0)) = true then
  obind (m_cert_next_string_104x (⟨s1.2⟩ : g_cert_reader)) fun y4=> match y4 with
  | none=> some (.inr (.inr none))
  | some x4 =>
  obind (app 16 s1.1 ([x4.1] : List ByteArray)) fun x5 =>
  some (.inl (x5,x4.2.l_))
 else
 some (.inr (.inl (s1.1,s1.2)))
def m_cert_reader_texts (a0 : g_cert_reader) : Option (Option ((List ByteArray) × g_cert_reader)) :=
 obind (m_cert_reader_sub a0) fun y1=> match y1 with
 | none=> some none
 | some x1 =>
 obind (iter m_cert_reader_texts_b2 FUEL (([] : List ByteArray),x1.1.l_)) fun x2=> match x2 with
 | .inr r=> some r
 | .inl y2 =>
 some (some (y2.1,x1.2))
theorem w_cert_reader_texts {a0 : g_cert_reader} {r : Option ((List ByteArray) × g_cert_reader)} (hm : m_cert_reader_texts a0 = some r) : Sb prog 105 [.pb 0 0] [.box 0 [sl e_api_Item a0.l_] 100] 1 oddV (Pos r (fun r=> .ow 1) (fun r=> [.box 0 [.d (.sl _ e_api_Item r.2.l_)] 100,.row 1 1 _ eS r.1]) 2) (r = none) :=
 sb call105 func105 rfl ntmps105 rfl fun D0 As η0 m0 hd=> by
  unfold m_cert_reader_texts at hm
  obtain ⟨y1,q1,hm⟩:= oY0 hm
  rcases y1 with _ | x1
  ·dsimp only at hm
   have e0:= sI0 hm
   subst e0
   exact gpan (w_cert_reader_sub q1) (by kernel_rfl)
  dsimp only at hm
  refine gco (w_cert_reader_sub q1).sp (by kernel_rfl) ?_
  obtain ⟨x2,q2,hm⟩:= oY0 hm
  refine gnilU 0 eS 3 1 (by kernel_rfl) ?_
  refine gjU 0 (fun (y2 : (List ByteArray) × (List g_api_Item))=> let (y_0,y_1):= y2; ⟨[(3,.ow 2),(6,.pb 1 0)],[(0,.row 2 1 _ eS y_0),(1,.box 1 [sl e_api_Item y_1] 100),(2,.box 0 [sl e_api_Item x1.2.l_] 100)],[],3⟩) (fun y2=> x2 = .inl y2) (by kernel_rfl) (fun Jp bk1=> ?_) fun y2 hy=> ?_
  ·refine gl hd (fun (p : Nat × ((List ByteArray) × (List g_api_Item)))=> let (p0,p_0,p_1):= p; ⟨[(3,.ow 2),(4,.pb 1 0),(6,.pb 1 0)],[(0,.row 2 1 _ eS p_0),(1,.box 1 [sl e_api_Item p_1] 100),(2,.box 0 [sl e_api_Item x1.2.l_] 100)],[],3⟩) (fun p=> iter m_cert_reader_texts_b2 p.1 p.2 = some x2) (fun p=> p.1) (FUEL,(([] : List ByteArray),x1.1.l_)) q2 (by kernel_rfl) ?_
   rintro ⟨n1,s1⟩ q3 Jl bl1
   cases n1 with
   | zero=> exact (iter_zero q3).elim
   | succ n1 =>
    obtain ⟨y3,q5,q4⟩:= iter_succ q3
    unfold m_cert_reader_texts_b2 at q5
    refine gi q5 (by kernel_rfl) (fun hc1 q5=> ?_) fun hc1 q5=> ?_
    ·skip
     obtain ⟨y4,q7,q5⟩:= oY0 q5
     rcases y4 with _ | x4
     ·dsimp only at q5
      cases q5
      rcases q4 with ⟨sn,e,_⟩ | e
      ·cases e
      cases e
      dsimp only at hm
      have e0:= sI0 hm
      subst e0
      exact gpan (w_cert_next_string_104x q7) (by kernel_rfl)
     dsimp only at q5
     refine gco (w_cert_next_string_104x q7).sp (by kernel_rfl) ?_
     refine glitF (k:= 1) eS ([x4.1] : List ByteArray) (fun _=> rfl) (by kernel_rfl) ?_
     obtain ⟨x5,q8,q5⟩:= oY0 q5
     refine gapp (k:= 1) (E:= eS) (fun _=> rfl) q8 (by kernel_rfl) ?_
     have e0:= sI0 q5
     subst e0
     rcases q4 with ⟨sn,e,q4'⟩ | e
     ·have e:= Sum.inl.inj e
      subst e
      exact gb bl1 hd (n1,_) ⟨q4',Nat.lt_succ_self _⟩ (by kernel_rfl)
     cases sum_lr e
    have e0:= sI0 q5
    subst e0
    rcases q4 with ⟨sn,e,_⟩ | e
    ·cases sum_rl e
    have e:= Sum.inr.inj e
    subst e
    exact gb bk1 hd (s1.1,s1.2) rfl (by kernel_rfl)
  subst hy
  dsimp only at hm
  have e0:= sI0 hm
  subst e0
  exact gendB hd (by kernel_rfl)
def m_der_AsBool_1 (a0 : g_api_Item) : Option Bool :=
 obind (idx a0.B 0) fun x1 =>
 some ((x1.toNat : Int) != 0)
theorem w_der_AsBool_1 {a0 : g_api_Item} {r : Bool} (hm : m_der_AsBool_1 a0 = some r) : Sf prog 147 [ag (e_api_Item a0)] (.d (.t r)) :=
 sp call147 func147 rfl ntmps147 rfl fun D0 As η0 m0 hd=> by
  unfold m_der_AsBool_1 at hm
  obtain ⟨x1,q1,hm⟩:= oY0 hm
  refine gidx (k:= 1) (E:= eB) (fun _=> rfl) (fun _=> q1) (by kernel_rfl) ?_
  have e0:= sI0 hm
  subst e0
  exact gend hd (by kernel_rfl)
def m_der_as_bool_147x (a0 : g_api_Item) (a1 : Int) : Option (Bool × Int) :=
 if (a0.Tag != a1) = true then
  some (false,72)
 else
 obind (m_der_may a0 8) fun x1 =>
 if (!x1) = true then
  some (false,71)
 else
 obind (m_der_AsBool_1 a0) fun x2 =>
 some (x2,0)
theorem w_der_as_bool_147x {a0 : g_api_Item} {a1 : Int} {r : Bool × Int} (hm : m_der_as_bool_147x a0 a1 = some r) : Sf prog 146 [ag (e_api_Item a0),.d (.i a1),.fn (.func 147) [] []] (.tup [.d (.t r.1),.d (.i r.2)]) :=
 sp call146 func146 rfl ntmps146 rfl fun D0 As η0 m0 hd=> by
  unfold m_der_as_bool_147x at hm
  refine gi hm (by kernel_rfl) (fun hc1 hm=> ?_) fun hc1 hm=> ?_
  ·skip
   have e0:= sI0 hm
   subst e0
   exact gend hd (by kernel_rfl)
  obtain ⟨x1,q1,hm⟩:= oY0 hm
  refine gc (fun _=> w_der_may q1) (by kernel_rfl) ?_
  refine gi hm (by kernel_rfl) (fun hc2 hm=> ?_) fun hc2 hm=> ?_
  ·skip
   have e0:= sI0 hm
   subst e0
   exact gend hd (by kernel_rfl)
  obtain ⟨x2,q2,hm⟩:= oY0 hm
  refine gc (fun _=> w_der_AsBool_1 q2) (by kernel_rfl) ?_
  have e0:= sI0 hm
  subst e0
  exact gend hd (by kernel_rfl)
def m_der_AsBool (a0 : g_api_Item) : Option (Bool × Int) :=
 obind (m_der_as_bool_147x a0 1) fun x1 =>
 some (x1.1,x1.2)
theorem w_der_AsBool {a0 : g_api_Item} {r : Bool × Int} (hm : m_der_AsBool a0 = some r) : Sf prog 107 [ag (e_api_Item a0)] (.tup [.d (.t r.1),.d (.i r.2)]) :=
 sp call107 func107 rfl ntmps107 rfl fun D0 As η0 m0 hd=> by
  unfold m_der_AsBool at hm
  obtain ⟨x1,q1,hm⟩:= oY0 hm
  refine gc (fun _=> w_der_as_bool_147x q1) (by kernel_rfl) ?_
  have e0:= sI0 hm
  subst e0
  exact gend hd (by kernel_rfl)
def m_cert_next_bool_107x (a0 : g_cert_reader) : Option (Option (Bool × g_cert_reader)) :=
 obind (m_cert_must (decide ((a0.l_.length : Int) > 0))) fun y1=> match y1 with
 | none=> some none
 | some x1 =>
 obind (idx a0.l_ 0) fun x2 =>
 obind (m_der_AsBool x2) fun x3 =>
 obind (m_cert_must (x3.2 == 0)) fun y2=> match y2 with
 | none=> some none
 | some x4 =>
 obind (cut a0.l_ 1 (a0.l_.length : Int)) fun x5 =>
 some (some (x3.1,(⟨x5⟩ : g_cert_reader)))
theorem w_cert_next_bool_107x {a0 : g_cert_reader} {r : Option (Bool × g_cert_reader)} (hm : m_cert_next_bool_107x a0 = some r) : Sb prog 106 [.pb 0 0,.fn (.func 107) [] []] [.box 0 [sl e_api_Item a0.l_] 100] 1 oddV (Pos r (fun r=> .d (.t r.1)) (fun r=> [.box 0 [.d (.sl _ e_api_Item r.2.l_)] 100]) 1) (r = none) :=
 sb call106 func106 rfl ntmps106 rfl fun D0 As η0 m0 hd=> by
  unfold m_cert_next_bool_107x at hm
  obtain ⟨y1,q1,hm⟩:= oY0 hm
  rcases y1 with _ | x1
  ·dsimp only at hm
   have e0:= sI0 hm
   subst e0
   exact gpan (w_cert_must q1) (by kernel_rfl)
  dsimp only at hm
  refine gc (fun _=> (w_cert_must q1).sp) (by kernel_rfl) ?_
  obtain ⟨x2,q2,hm⟩:= oY0 hm
  refine gidx (k:= 3) (E:= e_api_Item) (fun _=> rfl) (fun _=> q2) (by kernel_rfl) ?_
  obtain ⟨x3,q3,hm⟩:= oY0 hm
  refine gc (fun _=> w_der_AsBool q3) (by kernel_rfl) ?_
  obtain ⟨y2,q4,hm⟩:= oY0 hm
  rcases y2 with _ | x4
  ·dsimp only at hm
   have e0:= sI0 hm
   subst e0
   exact gpan (w_cert_must q4) (by kernel_rfl)
  dsimp only at hm
  refine gc (fun _=> (w_cert_must q4).sp) (by kernel_rfl) ?_
  obtain ⟨x5,q5,hm⟩:= oY0 hm
  refine gcut (k:= 3) (E:= e_api_Item) (fun _=> rfl) (fun _=> q5) (by kernel_rfl) ?_
  have e0:= sI0 hm
  subst e0
  exact gendB hd (by kernel_rfl)
def m_cert_reader_pre (a0 : g_cert_reader) : Option (Option (g_api_Cert × g_cert_reader)) :=
 obind (m_cert_reader_count a0) fun y1=> match y1 with
 | none=> some none
 | some x1 =>
 obind (m_cert_next_string_104x x1.2) fun y2=> match y2 with
 | none=> some none
 | some x2 =>
 obind (m_cert_next_string_104x x2.2) fun y3=> match y3 with
 | none=> some none
 | some x3 =>
 obind (m_cert_reader_big x3.2) fun y4=> match y4 with
 | none=> some none
 | some x4 =>
 obind (m_cert_reader_texts x4.2) fun y5=> match y5 with
 | none=> some none
 | some x5 =>
 obind (m_cert_reader_count x5.2) fun y6=> match y6 with
 | none=> some none
 | some x6 =>
 obind (m_cert_reader_count x6.2) fun y7=> match y7 with
 | none=> some none
 | some x7 =>
 obind (m_cert_next_bool_107x x7.2) fun y8=> match y8 with
 | none=> some none
 | some x8 =>
 obind (m_cert_reader_count x8.2) fun y9=> match y9 with
 | none=> some none
 | some x9 =>
 obind (m_cert_reader_texts x9.2) fun y10=> match y10 with
 | none=> some none
 | some x10 =>
 obind (m_cert_reader_end x10.2) fun y11=> match y11 with
 | none=> some none
 | some x11 =>
 some (some ((⟨x1.1,x2.1,x3.1,x4.1,x5.1,x6.1,x7.1,x8.1,x9.1,x10.1,[],(⟨0,0⟩ : g_api_Sig)⟩ : g_api_Cert),x11))
theorem w_cert_reader_pre {a0 : g_cert_reader} {r : Option (g_api_Cert × g_cert_reader)} (hm : m_cert_reader_pre a0 = some r) : Sb prog 57 [.pb 0 0] [.box 0 [sl e_api_Item a0.l_] 100] 1 oddV (Pos r (fun r=> .agg (List.set (((e_api_Cert r.1)).map dv) 10 (.d (.v (.slice none 0 0))))) (fun r=> [.box 0 [.d (.sl _ e_api_Item r.2.l_)] 100]) 1) (r = none) :=
 sb call57 func57 rfl ntmps57 rfl fun D0 As η0 m0 hd=> by
  unfold m_cert_reader_pre at hm
  obtain ⟨y1,q1,hm⟩:= oY0 hm
  rcases y1 with _ | x1
  ·dsimp only at hm
   have e0:= sI0 hm
   subst e0
   exact gpan (w_cert_reader_count q1) (by kernel_rfl)
  dsimp only at hm
  refine gco (w_cert_reader_count q1).sp (by kernel_rfl) ?_
  obtain ⟨y2,q2,hm⟩:= oY0 hm
  rcases y2 with _ | x2
  ·dsimp only at hm
   have e0:= sI0 hm
   subst e0
   exact gpan (w_cert_next_string_104x q2) (by kernel_rfl)
  dsimp only at hm
  refine gco (w_cert_next_string_104x q2).sp (by kernel_rfl) ?_
  obtain ⟨y3,q3,hm⟩:= oY0 hm
  rcases y3 with _ | x3
  ·dsimp only at hm
   have e0:= sI0 hm
   subst e0
   exact gpan (w_cert_next_string_104x q3) (by kernel_rfl)
  dsimp only at hm
  refine gco (w_cert_next_string_104x q3).sp (by kernel_rfl) ?_
  obtain ⟨y4,q4,hm⟩:= oY0 hm
  rcases y4 with _ | x4
  ·dsimp only at hm
   have e0:= sI0 hm
   subst e0
   exact gpan (w_cert_reader_big q4) (by kernel_rfl)
  dsimp only at hm
  refine gco (w_cert_reader_big q4).sp (by kernel_rfl) ?_
  obtain ⟨y5,q5,hm⟩:= oY0 hm
  rcases y5 with _ | x5
  ·dsimp only at hm
   have e0:= sI0 hm
   subst e0
   exact gpan (w_cert_reader_texts q5) (by kernel_rfl)
  dsimp only at hm
  refine gco (w_cert_reader_texts q5).sp (by kernel_rfl) ?_
  obtain ⟨y6,q6,hm⟩:= oY0 hm
  rcases y6 with _ | x6
  ·dsimp only at hm
   have e0:= sI0 hm
   subst e0
   exact gpan (w_cert_reader_count q6) (by kernel_rfl)
  dsimp only at hm
  refine gco (w_cert_reader_count q6).sp (by kernel_rfl) ?_
  obtain ⟨y7,q7,hm⟩:= oY0 hm
  rcases y7 with _ | x7
  ·dsimp only at hm
   have e0:= sI0 hm
   subst e0
   exact gpan (w_cert_reader_count q7) (by kernel_rfl)
  dsimp only at hm
  refine gco (w_cert_reader_count q7).sp (by kernel_rfl) ?_
  obtain ⟨y8,q8,hm⟩:= oY0 hm
  rcases y8 with _ | x8
  ·dsimp only at hm
   have e0:= sI0 hm
   subst e0
   exact gpan (w_cert_next_bool_107x q8) (by kernel_rfl)
  dsimp only at hm
  refine gco (w_cert_next_bool_107x q8).sp (by kernel_rfl) ?_
  obtain ⟨y9,q9,hm⟩:= oY0 hm
  rcases y9 with _ | x9
  ·dsimp only at hm
   have e0:= sI0 hm
   subst e0
   exact gpan (w_cert_reader_count q9) (by kernel_rfl)
  dsimp only at hm
  refine gco (w_cert_reader_count q9).sp (by kernel_rfl) ?_
  obtain ⟨y10,q10,hm⟩:= oY0 hm
  rcases y10 with _ | x10
  ·dsimp only at hm
   have e0:= sI0 hm
   subst e0
   exact gpan (w_cert_reader_texts q10) (by kernel_rfl)
  dsimp only at hm
  refine gco (w_cert_reader_texts q10).sp (by kernel_rfl) ?_
  obtain ⟨y11,q11,hm⟩:= oY0 hm
  rcases y11 with _ | x11
  ·dsimp only at hm
   have e0:= sI0 hm
   subst e0
   exact gpan (w_cert_reader_end q11) (by kernel_rfl)
  dsimp only at hm
  refine gco (w_cert_reader_end q11).sp (by kernel_rfl) ?_
  have e0:= sI0 hm
  subst e0
  exact gendB hd (by kernel_rfl)
def m_cert_reader_body_b5  (s1 : (List g_api_Item) × (List g_api_Promise)) : Option (((List g_api_Item) × (List g_api_Promise)) ⊕ (((List g_api_Item) × (List g_api_Promise)) ⊕ (Option (g_api_Cert × g_cert_reader)))) :=
 if (decide ((s1.1.length : Int) > 0)) = true then
  obind (m_cert_reader_sub (⟨s1.1⟩ : g_cert_reader)) fun y6=> match y6 with
  | none=> some (.inr (.inr none))
  | some x6 =>
  obind (m_cert_reader_count x6.1) fun y7 =>
  obind y7 fun x7 =>
  obind (m_cert_reader_count x7.2) fun y8 =>
  obind y8 fun x8 =>
  obind (m_cert_reader_big x8.2) fun y9 =>
  obind y9 fun x9 =>
  obind (m_cert_reader_big x9.2) fun y10 =>
  obind y10 fun x10 =>
  obind (m_cert_reader_big x10.2) fun y11 =>
  obind y11 fun x11 =>
  obind (m_cert_reader_big x11.2) fun y12 =>
  obind y12 fun x12 =>
  obind (app 48 s1.2 ([(⟨x7.1,x8.1,(x9.1,x10.1),(⟨x11.1,x12.1⟩ : g_api_Sig)⟩ : g_api_Promise)] : List g_api_Promise)) fun x13 =>
  obind (m_cert_reader_end x12.2) fun y13=> match y13 with
  | none=> some (.inr (.inr none))
  | some x14 =>
  some (.inl (x6.2.l_,x13))
 else
 some (.inr (.inl (s1.1,s1.2)))
def m_cert_reader_body (a0 : g_cert_reader) : Option (Option (g_api_Cert × g_cert_reader)) :=
 obind (m_cert_reader_sub a0) fun y1=> match y1 with
 | none=> some none
 | some x1 =>
 obind (m_cert_reader_pre x1.1) fun y2=> match y2 with
 | none=> some none
 | some x2 =>
 obind (m_cert_reader_sub x1.2) fun y3=> match y3 with
 | none=> some none
 | some x3 =>
 obind (iter m_cert_reader_body_b5 FUEL (x3.1.l_,([] : List g_api_Promise))) fun x4=> match x4 with
 | .inr r=> some r
 | .inl y4 =>
 obind (m_cert_reader_end x3.2) fun y14=> match y14 with
 | none=> some none
 | some x15 =>
 some (some ((⟨x2.1.Serial,x2.1.Issuer,x2.1.Subject,x2.1.Key,x2.1.Names,x2.1.From,x2.1.Until,x2.1.Ca,x2.1.Depth,x2.1.Permit,y4.2,x2.1.Sig⟩ : g_api_Cert),x15))
theorem w_cert_reader_body {a0 : g_cert_reader} {r : Option (g_api_Cert × g_cert_reader)} (hm : m_cert_reader_body a0 = some r) : Sb prog 56 [.pb 0 0] [.box 0 [sl e_api_Item a0.l_] 100] 1 oddV (Pos r (fun r=> ag (e_api_Cert r.1)) (fun r=> [.box 0 [.d (.sl _ e_api_Item r.2.l_)] 100]) 1) (r = none) :=
 sb call56 func56 rfl ntmps56 rfl fun D0 As η0 m0 hd=> by
  unfold m_cert_reader_body at hm
  obtain ⟨y1,q1,hm⟩:= oY0 hm
  rcases y1 with _ | x1
  ·dsimp only at hm
   have e0:= sI0 hm
   subst e0
   exact gpan (w_cert_reader_sub q1) (by kernel_rfl)
  dsimp only at hm
  refine gco (w_cert_reader_sub q1).sp (by kernel_rfl) ?_
  obtain ⟨y2,q2,hm⟩:= oY0 hm
  rcases y2 with _ | x2
  ·dsimp only at hm
   have e0:= sI0 hm
   subst e0
   exact gpan (w_cert_reader_pre q2) (by kernel_rfl)
  dsimp only at hm
  refine gco (w_cert_reader_pre q2).sp (by kernel_rfl) ?_
  obtain ⟨y3,q3,hm⟩:= oY0 hm
  rcases y3 with _ | x3
  ·dsimp only at hm
   have e0:= sI0 hm
   subst e0
   exact gpan (w_cert_reader_sub q3) (by kernel_rfl)
  dsimp only at hm
  refine gco (w_cert_reader_sub q3).sp (by kernel_rfl) ?_
  obtain ⟨x4,q4,hm⟩:= oY0 hm
  refine gnilBU 0 e_api_Promise 3 10 6 (by kernel_rfl) ?_
  refine gjU 0 (fun (y4 : (List g_api_Item) × (List g_api_Promise))=> let (y_0,y_1):= y4; ⟨[(0,.pb 0 0),(2,.pb 1 0),(3,.pb 3 0),(10,.pb 4 0),(7,.pb 2 0)],[(0,.row 5 6 _ e_api_Promise y_1),(1,.box 4 [sl e_api_Item y_0] 100),(2,.box 0 [sl e_api_Item x3.2.l_] 100),(3,.box 3 [.d (.i x2.1.Serial),.d (.s x2.1.Issuer),.d (.s x2.1.Subject),.d (.u x2.1.Key),sl eS x2.1.Names,.d (.i x2.1.From),.d (.i x2.1.Until),.d (.t x2.1.Ca),.d (.i x2.1.Depth),sl eS x2.1.Permit,.ow 5,.d (.u x2.1.Sig.E),.d (.u x2.1.Sig.S)] 28),(4,.box 2 [sl e_api_Item x2.2.l_] 100),(5,.box 1 [.d (.i 0),.d (.s ByteArray.empty),.d (.s ByteArray.empty),.d (.u 0),sl eS [],.d (.i 0),.d (.i 0),.d (.t false),.d (.i 0),sl eS [],sl e_api_Promise [],.d (.u 0),.d (.u 0)] 28)],[],6⟩) (fun y4=> x4 = .inl y4) (by kernel_rfl) (fun Jp bk1=> ?_) fun y4 hy=> ?_
  ·refine gl hd (fun (p : Nat × ((List g_api_Item) × (List g_api_Promise)))=> let (p0,p_0,p_1):= p; ⟨[(0,.pb 0 0),(2,.pb 1 0),(3,.pb 3 0),(4,.pb 4 0),(10,.pb 4 0),(7,.pb 2 0)],[(0,.row 5 6 _ e_api_Promise p_1),(1,.box 4 [sl e_api_Item p_0] 100),(2,.box 0 [sl e_api_Item x3.2.l_] 100),(3,.box 3 [.d (.i x2.1.Serial),.d (.s x2.1.Issuer),.d (.s x2.1.Subject),.d (.u x2.1.Key),sl eS x2.1.Names,.d (.i x2.1.From),.d (.i x2.1.Until),.d (.t x2.1.Ca),.d (.i x2.1.Depth),sl eS x2.1.Permit,.ow 5,.d (.u x2.1.Sig.E),.d (.u x2.1.Sig.S)] 28),(4,.box 2 [sl e_api_Item x2.2.l_] 100),(5,.box 1 [.d (.i 0),.d (.s ByteArray.empty),.d (.s ByteArray.empty),.d (.u 0),sl eS [],.d (.i 0),.d (.i 0),.d (.t false),.d (.i 0),sl eS [],sl e_api_Promise [],.d (.u 0),.d (.u 0)] 28)],[],6⟩) (fun p=> iter m_cert_reader_body_b5 p.1 p.2 = some x4) (fun p=> p.1) (FUEL,(x3.1.l_,([] : List g_api_Promise))) q4 (by kernel_rfl) ?_
   rintro ⟨n1,s1⟩ q5 Jl bl1
   cases n1 with
   | zero=> exact (iter_zero q5).elim
   | succ n1 =>
    obtain ⟨y5,q7,q6⟩:= iter_succ q5
    unfold m_cert_reader_body_b5 at q7
    refine gi q7 (by kernel_rfl) (fun hc1 q7=> ?_) fun hc1 q7=> ?_
    ·skip
     obtain ⟨y6,q9,q7⟩:= oY0 q7
     rcases y6 with _ | x6
     ·dsimp only at q7
      cases q7
      rcases q6 with ⟨sn,e,_⟩ | e
      ·cases e
      cases e
      dsimp only at hm
      have e0:= sI0 hm
      subst e0
      exact gpan (w_cert_reader_sub q9) (by kernel_rfl)
     dsimp only at q7
     refine gco (w_cert_reader_sub q9).sp (by kernel_rfl) ?_
     obtain ⟨x7,q10,q7⟩:= obind2_some q7
     refine gco (w_cert_reader_count q10).sp (by kernel_rfl) ?_
     obtain ⟨x8,q12,q7⟩:= obind2_some q7
     refine gco (w_cert_reader_count q12).sp (by kernel_rfl) ?_
     obtain ⟨x9,q14,q7⟩:= obind2_some q7
     refine gco (w_cert_reader_big q14).sp (by kernel_rfl) ?_
     obtain ⟨x10,q16,q7⟩:= obind2_some q7
     refine gco (w_cert_reader_big q16).sp (by kernel_rfl) ?_
     obtain ⟨x11,q18,q7⟩:= obind2_some q7
     refine gco (w_cert_reader_big q18).sp (by kernel_rfl) ?_
     obtain ⟨x12,q20,q7⟩:= obind2_some q7
     refine gco (w_cert_reader_big q20).sp (by kernel_rfl) ?_
     refine glitF (k:= 6) e_api_Promise ([(⟨x7.1,x8.1,(x9.1,x10.1),(⟨x11.1,x12.1⟩ : g_api_Sig)⟩ : g_api_Promise)] : List g_api_Promise) (fun _=> rfl) (by kernel_rfl) ?_
     obtain ⟨x13,q22,q7⟩:= oY0 q7
     refine gapp (k:= 6) (E:= e_api_Promise) (fun _=> rfl) q22 (by kernel_rfl) ?_
     obtain ⟨y13,q23,q7⟩:= oY0 q7
     rcases y13 with _ | x14
     ·dsimp only at q7
      cases q7
      rcases q6 with ⟨sn,e,_⟩ | e
      ·cases e
      cases e
      dsimp only at hm
      have e0:= sI0 hm
      subst e0
      exact gpan (w_cert_reader_end q23) (by kernel_rfl)
     dsimp only at q7
     refine gco (w_cert_reader_end q23).sp (by kernel_rfl) ?_
     have e0:= sI0 q7
     subst e0
     rcases q6 with ⟨sn,e,q6'⟩ | e
     ·have e:= Sum.inl.inj e
      subst e
      exact gb bl1 hd (n1,_) ⟨q6',Nat.lt_succ_self _⟩ (by kernel_rfl)
     cases sum_lr e
    have e0:= sI0 q7
    subst e0
    rcases q6 with ⟨sn,e,_⟩ | e
    ·cases sum_rl e
    have e:= Sum.inr.inj e
    subst e
    exact gb bk1 hd (s1.1,s1.2) rfl (by kernel_rfl)
  subst hy
  dsimp only at hm
  obtain ⟨y14,q24,hm⟩:= oY0 hm
  rcases y14 with _ | x15
  ·dsimp only at hm
   have e0:= sI0 hm
   subst e0
   exact gpan (w_cert_reader_end q24) (by kernel_rfl)
  dsimp only at hm
  refine gco (w_cert_reader_end q24).sp (by kernel_rfl) ?_
  have e0:= sI0 hm
  subst e0
  exact gendB hd (by kernel_rfl)
def m_cert_reader_whole (a0 : g_cert_reader) : Option (Option (g_api_Cert × g_cert_reader)) :=
 obind (m_cert_reader_sub a0) fun y1=> match y1 with
 | none=> some none
 | some x1 =>
 obind (m_cert_reader_body x1.1) fun y2=> match y2 with
 | none=> some none
 | some x2 =>
 obind (m_cert_reader_sub x1.2) fun y3=> match y3 with
 | none=> some none
 | some x3 =>
 obind (m_cert_reader_big x3.1) fun y4=> match y4 with
 | none=> some none
 | some x4 =>
 obind (m_cert_reader_big x4.2) fun y5=> match y5 with
 | none=> some none
 | some x5 =>
 obind (m_cert_reader_end x5.2) fun y6=> match y6 with
 | none=> some none
 | some x6 =>
 obind (m_cert_reader_end x3.2) fun y7=> match y7 with
 | none=> some none
 | some x7 =>
 some (some ((⟨x2.1.Serial,x2.1.Issuer,x2.1.Subject,x2.1.Key,x2.1.Names,x2.1.From,x2.1.Until,x2.1.Ca,x2.1.Depth,x2.1.Permit,x2.1.Proms,(⟨x4.1,x5.1⟩ : g_api_Sig)⟩ : g_api_Cert),x7))
theorem w_cert_reader_whole {a0 : g_cert_reader} {r : Option (g_api_Cert × g_cert_reader)} (hm : m_cert_reader_whole a0 = some r) : Sb prog 54 [.pb 0 0] [.box 0 [sl e_api_Item a0.l_] 100] 1 oddV (Pos r (fun r=> ag (e_api_Cert r.1)) (fun r=> [.box 0 [.d (.sl _ e_api_Item r.2.l_)] 100]) 1) (r = none) :=
 sb call54 func54 rfl ntmps54 rfl fun D0 As η0 m0 hd=> by
  unfold m_cert_reader_whole at hm
  obtain ⟨y1,q1,hm⟩:= oY0 hm
  rcases y1 with _ | x1
  ·dsimp only at hm
   have e0:= sI0 hm
   subst e0
   exact gpan (w_cert_reader_sub q1) (by kernel_rfl)
  dsimp only at hm
  refine gco (w_cert_reader_sub q1).sp (by kernel_rfl) ?_
  obtain ⟨y2,q2,hm⟩:= oY0 hm
  rcases y2 with _ | x2
  ·dsimp only at hm
   have e0:= sI0 hm
   subst e0
   exact gpan (w_cert_reader_body q2) (by kernel_rfl)
  dsimp only at hm
  refine gco (w_cert_reader_body q2).sp (by kernel_rfl) ?_
  obtain ⟨y3,q3,hm⟩:= oY0 hm
  rcases y3 with _ | x3
  ·dsimp only at hm
   have e0:= sI0 hm
   subst e0
   exact gpan (w_cert_reader_sub q3) (by kernel_rfl)
  dsimp only at hm
  refine gco (w_cert_reader_sub q3).sp (by kernel_rfl) ?_
  obtain ⟨y4,q4,hm⟩:= oY0 hm
  rcases y4 with _ | x4
  ·dsimp only at hm
   have e0:= sI0 hm
   subst e0
   exact gpan (w_cert_reader_big q4) (by kernel_rfl)
  dsimp only at hm
  refine gco (w_cert_reader_big q4).sp (by kernel_rfl) ?_
  obtain ⟨y5,q5,hm⟩:= oY0 hm
  rcases y5 with _ | x5
  ·dsimp only at hm
   have e0:= sI0 hm
   subst e0
   exact gpan (w_cert_reader_big q5) (by kernel_rfl)
  dsimp only at hm
  refine gco (w_cert_reader_big q5).sp (by kernel_rfl) ?_
  obtain ⟨y6,q6,hm⟩:= oY0 hm
  rcases y6 with _ | x6
  ·dsimp only at hm
   have e0:= sI0 hm
   subst e0
   exact gpan (w_cert_reader_end q6) (by kernel_rfl)
  dsimp only at hm
  refine gco (w_cert_reader_end q6).sp (by kernel_rfl) ?_
  obtain ⟨y7,q7,hm⟩:= oY0 hm
  rcases y7 with _ | x7
  ·dsimp only at hm
   have e0:= sI0 hm
   subst e0
   exact gpan (w_cert_reader_end q7) (by kernel_rfl)
  dsimp only at hm
  refine gco (w_cert_reader_end q7).sp (by kernel_rfl) ?_
  have e0:= sI0 hm
  subst e0
  exact gendB hd (by kernel_rfl)
theorem d1_91 (a b : Value) (w : World) : CallsDIn (FW none) 0 prog 91 #[a,b] .returning w fun e u' w'=> ∃ v,e = .returned v ∧ u' = .returning ∧ w' = w:= by
 refine CallsDIn.mono (recov_of (N:= 11) (args:= [a,b]) (u:= .returning) (u':= .returning) (v:= .nilIface) (R:= fun w'=> w' = w) func91 rfl ntmps91 rfl (Nat.le_of_ble_eq_true rfl) rfl (fun c₀ cs hu=> .inr ⟨by simp [recoverD,hu],rfl,rfl⟩) ?_) fun e u2 w' ⟨x,h1,h2,_,h3⟩=> ⟨x,h1,h2,h3⟩
 refine wpc_seq (wpc_region (l:= [_]) ?_)
 refine s_mv ?_
 refine wpl_nil (nrm ?_)
 refine wpc_block (wpc_seq (wpc_region (l:= [_]) ?_))
 refine wpl_val (v:= .bool true) (w':= w) rfl (fun _ e=> by cases e) (by kernel_rfl) ?_
 refine wpl_nil (nrm ?_)
 refine wpc_true rfl ?_
 exact wpc_skip (nrmB ⟨.inl rfl,rfl⟩)
def zd28 : List D:= [.i 0,.s .empty,.s .empty,.u 0,.v (.slice none 0 0),.i 0,.i 0,.t false,.i 0,.v (.slice none 0 0),.v (.slice none 0 0),.u 0,.u 0]
theorem d2_91 (m : Mem) (As : List Ow) (w : World) (bc be : Nat) (cs es : List Value) (hc : cs.length = 13) (he : es.length = 1) (hc1 : ∀ v ∈ cs,v.oneCell' = true) (he1 : ∀ v ∈ es,v.oneCell' = true) (S : St m (bx bc cs 28 :: bx be es 31 :: As) w) :
  CallsDIn (FW none) 0 prog 91 #[pt bc 0,pt be 0] (.panicking (chn oddV)) w fun e u' w'=> ∃ v,e = .returned v ∧ u' = .panicking [{ v:= oddV,recovered:= true }] ∧ Kd w w' ∧
   ∃ M zs ze,m ≤ M ∧ FRL M zd28 zs ∧ FR M (.i 71) ze ∧ St M (bx bc zs 28 :: bx be [ze] 31 :: As) w':= by
 refine recov_of (N:= 11) (args:= [pt bc 0,pt be 0]) (u:= .panicking (chn oddV)) (u':= .panicking [{ v:= oddV,recovered:= true }]) (v:= oddV) func91 rfl ntmps91 rfl (Nat.le_of_ble_eq_true rfl) rfl (fun c₀ cs hu=> .inl (by simp [recoverD,hu,chn])) ?_
 refine wpc_seq (wpc_region (l:= [_]) ?_)
 refine s_mv ?_
 refine wpl_nil (nrm ?_)
 refine wpc_block (wpc_seq (wpc_region (l:= [_]) ?_))
 refine wpl_val (v:= .bool false) (w':= w) rfl (fun _ e=> by cases e) (by kernel_rfl) ?_
 refine wpl_nil (nrm ?_)
 refine wpc_false rfl ?_
 refine wpc_seq (wpc_region (l:= [_,_,_]) ?_)
 refine wpl_val (v:= .tuple #[.agg #[],.bool true]) (w':= w) rfl (fun _ e=> by cases e) (by kernel_rfl) ?_
 refine wpl_val (v:= .bool true) (w':= w) rfl (fun _ e=> by cases e) (by kernel_rfl) ?_
 refine wpl_val (v:= .agg #[]) (w':= w) rfl (fun _ e=> by cases e) (by kernel_rfl) ?_
 refine wpl_nil (nrm ?_)
 refine wpc_true rfl ?_
 let η0 : Env:= fun n=> if n = 0 then some (pt bc 0) else if n = 1 then some (pt be 0) else none
 have h0 : η0 0 = some (pt bc 0):= rfl
 have h1 : η0 1 = some (pt be 0):= rfl
 have hd : ∀ n,η0 n ≠ none → n < 2:= fun n h=> by
  show n < 2
  have h : (if n = 0 then some (pt bc 0) else if n = 1 then some (pt be 0) else none) ≠ none:= h
  split at h
  ·omega
  ·split at h
   ·omega
   ·exact absurd rfl h
 have ho:= fun (l : List Value) (v : Value) (hv : v ∈ l) (q : ∀ v ∈ l,v.oneCell' = true)=> q v hv
 let s0 : AS:= ⟨[(0,.pb 0 0),(1,.pb 1 0)],[(0,.box 0 (List.replicate 13 .any) 28),(1,.box 1 [.any] 31)],[],2⟩
 have any_rel : ∀ {n : Nat} {l : List Value},l.length = n → RelL η0 m (List.replicate n .any) l:= fun hl=> ⟨by simp [hl],fun k c u a b=> by
  rw [List.getElem?_replicate] at a
  split at a
  ·cases a; exact .any _
  ·cases a⟩
 have S2 : St m (rep η0 m (.box 0 (List.replicate 13 .any) 28) :: rep η0 m (.box 1 [.any] 31) :: As) w:= by
  have T:= St.closeBox h0 (any_rel hc) hc1 S
  have T2:= T.perm (List.Perm.swap _ _ _)
  have T3:= St.closeBox h1 (any_rel (n:= 1) he) he1 T2
  exact T3.perm (List.Perm.swap _ _ _)
 refine wpc_mono (Q:= Ax.pk none prog 11 (w,[],true) (outG (Rl As η0 m (fun _ : Unit=> ⟨[],[(0,.box 0 (zd28.map .d) 28),(1,.box 1 [.d (.i 71)] 31)],[],2⟩) (fun _=> True)) oddV (fun _ _=> False)) [.blk 0]) ?_ (gat s0 (η:= η0) (m:= m) ?_ (gretG () trivial hd (by kernel_rfl)))
 ·intro e f' w' q
  have fin : Rl As η0 m (fun _ : Unit=> ⟨[],[(0,.box 0 (zd28.map .d) 28),(1,.box 1 [.d (.i 71)] 31)],[],2⟩) (fun _=> True) f' w' → ∃ M zs ze,m ≤ M ∧ FRL M zd28 zs ∧ FR M (.i 71) ze ∧ St M (bx bc zs 28 :: bx be [ze] 31 :: As) w' :=
   fun ⟨_,_,η,M,le,l,gm⟩=> let ⟨zs,ze,a,b,c⟩:= two_boxes h0 h1 le gm; ⟨M,zs,ze,l,a,b,c⟩
  cases e with
  | normal=> exact ⟨.inl rfl,fin q⟩
  | ret=> exact ⟨.inr rfl,fin q⟩
  | exit id =>
   have q : (bif Nat.beq id 0 then Rl As η0 m (fun _ : Unit=> ⟨[],[(0,.box 0 (zd28.map .d) 28),(1,.box 1 [.d (.i 71)] 31)],[],2⟩) (fun _=> True) f' w' else False):= q
   cases hb : Nat.beq id 0
   ·rw [hb] at q; exact q.elim
   ·rw [hb] at q
    refine (show inBlk 0 _ (.exit id) f' w' from ?_)
    simp only [inBlk,hb,cond_true]
    exact ⟨by simp,fin q⟩
  | goto l=> exact q.elim
  | panic ch=> exact q.2.elim
  | outgrown=> exact q.elim
 ·refine ⟨fun t=> ?_,fun n d h=> (by cases h),hd,S2,?_,fun t ht=> ?_⟩
  ·match t with
   | 0=> exact .pb h0
   | 1=> exact .pb h1
   | t + 2=> exact .any _
  ·show [0,1].Nodup; decide
  ·have : t ∈ [0,1]:= ht
   show t < 2
   simp at this; omega
def mp_cert_get_54x (a0 : List UInt8) (x1 : g_api_Item × Int × Int) : Option (Option (g_api_Cert × Int)) :=
 obind (m_cert_must (x1.2.1 == (a0.length : Int))) fun y1=> match y1 with
 | none=> some none
 | some x2 =>
 obind (m_cert_in x1.1) fun y2=> match y2 with
 | none=> some none
 | some x3 =>
 obind (m_cert_reader_whole x3) fun y3=> match y3 with
 | none=> some none
 | some x4 =>
 obind (m_cert_Check x4.1) fun x5 =>
 obind (m_cert_must (x5 == 0)) fun y4=> match y4 with
 | none=> some none
 | some x6 =>
 some (some (x4.1,0))
def m_cert_get_54x (a0 : List UInt8) : Option (g_api_Cert × Int) :=
 obind (m_der_Get a0 0) fun x1 =>
 if (x1.2.2 != 0) = true then
  some ((⟨0,ByteArray.empty,ByteArray.empty,0,[],0,0,false,0,[],[],(⟨0,0⟩ : g_api_Sig)⟩ : g_api_Cert),x1.2.2)
 else
 obind (mp_cert_get_54x a0 x1) fun z=> some (match z with
  | none=> ((⟨0,ByteArray.empty,ByteArray.empty,0,[],0,0,false,0,[],[],(⟨0,0⟩ : g_api_Sig)⟩ : g_api_Cert),71)
  | some c=> c)
theorem w_cert_get_54x {a0 : List UInt8} {r : g_api_Cert × Int} (hm : m_cert_get_54x a0 = some r) : Sf prog 53 [sl eB a0,.fn (.func 54) [] []] (.tup [ag (e_api_Cert r.1),.d (.i r.2)]):= by
 unfold m_cert_get_54x at hm
 obtain ⟨x1,q1,hm⟩:= oY0 hm
 refine get_of (N:= 33) (nc:= 13) (tc:= 28) (te:= 31) (zd:= [.i 0,.s ByteArray.empty,.s ByteArray.empty,.u 0,.v (.slice none 0 0),.i 0,.i 0,.t false,.i 0,.v (.slice none 0 0),.v (.slice none 0 0),.u 0,.u 0]) (ev0:= .i 71) (ov:= oddV) (ok1:= ((x1.2.2 != 0)) = false) (okX:= ((x1.2.2 != 0)) = false ∧ mp_cert_get_54x a0 x1 = some none) (okE:= fun c=> ((x1.2.2 != 0)) = false ∧ mp_cert_get_54x a0 x1 = some (some c)) (JE:= fun (c : g_api_Cert × Int)=> ⟨[(4,.pb 0 0),(5,.pb 1 0)],[(0,.box 0 [.d (.i c.1.Serial),.d (.s c.1.Issuer),.d (.s c.1.Subject),.d (.u c.1.Key),sl eS c.1.Names,.d (.i c.1.From),.d (.i c.1.Until),.d (.t c.1.Ca),.d (.i c.1.Depth),sl eS c.1.Permit,sl e_api_Promise c.1.Proms,.d (.u c.1.Sig.E),.d (.u c.1.Sig.S)] 28),(1,.box 1 [.d (.i c.2)] 31)],[],2⟩) (J1:= ⟨[(0,sl eB a0),(1,.fn (.func 54) [] []),(4,.pb 0 0),(5,.pb 1 0),(6,.pb 2 0),(7,.d (.i x1.2.1))],[(0,.box 2 [.d (.i x1.1.Tag),sl eB x1.1.B,sl e_api_Item x1.1.L] 56),(1,.box 1 [.d (.i x1.2.2)] 31),(2,.box 0 [.d (.i 0),.d (.s ByteArray.empty),.d (.s ByteArray.empty),.d (.u 0),sl eS [],.d (.i 0),.d (.i 0),.d (.t false),.d (.i 0),sl eS [],sl e_api_Promise [],.d (.u 0),.d (.u 0)] 28)],[],3⟩) call53 call91 func53 rfl ntmps53 rfl rfl ⟨rfl,rfl⟩ rfl ?_ ?_ ?_ (fun c hc=> rfl) ?_ (d1_91) (d2_91)
 ·intro D0 As η0 m0 Jp hd bk
  refine G.h ?_
  refine gc (fun _=> w_der_Get q1) (by kernel_rfl) ?_
  refine gi hm (by kernel_rfl) (fun hc1 hm=> ?_) fun hc1 hm=> ?_
  ·skip
   have e0:= sI0 hm
   subst e0
   exact gend hd (by kernel_rfl)
  exact gb bk hd () hc1 (by kernel_rfl)
 ·intro hok D0 As η0 m0 hd
  refine G.h ?_
  rw [if_neg (by rw [hok]; decide)] at hm
  obtain ⟨z,hz,hm⟩:= oY0 hm
  have hz2:= hz
  unfold mp_cert_get_54x at hz2
  obtain ⟨y1,q2,hz2⟩:= oY0 hz2
  rcases y1 with _ | x2
  ·dsimp only at hz2
   have e0:= sI0 hz2
   subst e0
   exact gpanG (w_cert_must q2) ⟨hok,hz⟩ hd (by kernel_rfl) (by kernel_rfl)
  dsimp only at hz2
  refine gc (fun _=> (w_cert_must q2).sp) (by kernel_rfl) ?_
  obtain ⟨y2,q3,hz2⟩:= oY0 hz2
  rcases y2 with _ | x3
  ·dsimp only at hz2
   have e0:= sI0 hz2
   subst e0
   exact gpanG (w_cert_in q3) ⟨hok,hz⟩ hd (by kernel_rfl) (by kernel_rfl)
  dsimp only at hz2
  refine gco (w_cert_in q3).sp (by kernel_rfl) ?_
  obtain ⟨y3,q4,hz2⟩:= oY0 hz2
  rcases y3 with _ | x4
  ·dsimp only at hz2
   have e0:= sI0 hz2
   subst e0
   exact gpanG (w_cert_reader_whole q4) ⟨hok,hz⟩ hd (by kernel_rfl) (by kernel_rfl)
  dsimp only at hz2
  refine gco (w_cert_reader_whole q4).sp (by kernel_rfl) ?_
  obtain ⟨x5,q5,hz2⟩:= oY0 hz2
  refine gc (fun _=> w_cert_Check q5) (by kernel_rfl) ?_
  obtain ⟨y4,q6,hz2⟩:= oY0 hz2
  rcases y4 with _ | x6
  ·dsimp only at hz2
   have e0:= sI0 hz2
   subst e0
   exact gpanG (w_cert_must q6) ⟨hok,hz⟩ hd (by kernel_rfl) (by kernel_rfl)
  dsimp only at hz2
  refine gc (fun _=> (w_cert_must q6).sp) (by kernel_rfl) ?_
  have e0:= sI0 hz2
  subst e0
  exact gretG _ ⟨hok,hz⟩ hd (by kernel_rfl)
 ·rintro c ⟨hC,hz⟩ D0 As η0 m0 hd
  rw [if_neg (by rw [hC]; decide),hz] at hm
  have e0 : c = r:= sI0 hm
  subst e0
  exact G.h (gend hd (by kernel_rfl))
 ·rintro ⟨hC,hz⟩ D0 As η0 m0 hd
  rw [if_neg (by rw [hC]; decide),hz] at hm
  have e0 : ((⟨0,ByteArray.empty,ByteArray.empty,0,[],0,0,false,0,[],[],(⟨0,0⟩ : g_api_Sig)⟩ : g_api_Cert),71) = r:= sI0 hm
  subst e0
  exact G.h (gend hd (by kernel_rfl))
def m_cert_Get (a0 : List UInt8) : Option (g_api_Cert × Int) :=
 obind (m_cert_get_54x a0) fun x1 =>
 some (x1.1,x1.2)
theorem w_cert_Get {a0 : List UInt8} {r : g_api_Cert × Int} (hm : m_cert_Get a0 = some r) : Sf prog 26 [sl eB a0] (.tup [ag (e_api_Cert r.1),.d (.i r.2)]) :=
 sp call26 func26 rfl ntmps26 rfl fun D0 As η0 m0 hd=> by
  unfold m_cert_Get at hm
  obtain ⟨x1,q1,hm⟩:= oY0 hm
  refine gc (fun _=> w_cert_get_54x q1) (by kernel_rfl) ?_
  have e0:= sI0 hm
  subst e0
  exact gend hd (by kernel_rfl)
def mp_cert_get_56x (a0 : List UInt8) (x1 : g_api_Item × Int × Int) : Option (Option (g_api_Cert × Int)) :=
 obind (m_cert_must (x1.2.1 == (a0.length : Int))) fun y1=> match y1 with
 | none=> some none
 | some x2 =>
 obind (m_cert_in x1.1) fun y2=> match y2 with
 | none=> some none
 | some x3 =>
 obind (m_cert_reader_body x3) fun y3=> match y3 with
 | none=> some none
 | some x4 =>
 obind (m_cert_Check x4.1) fun x5 =>
 obind (m_cert_must (x5 == 0)) fun y4=> match y4 with
 | none=> some none
 | some x6 =>
 some (some (x4.1,0))
def m_cert_get_56x (a0 : List UInt8) : Option (g_api_Cert × Int) :=
 obind (m_der_Get a0 0) fun x1 =>
 if (x1.2.2 != 0) = true then
  some ((⟨0,ByteArray.empty,ByteArray.empty,0,[],0,0,false,0,[],[],(⟨0,0⟩ : g_api_Sig)⟩ : g_api_Cert),x1.2.2)
 else
 obind (mp_cert_get_56x a0 x1) fun z=> some (match z with
  | none=> ((⟨0,ByteArray.empty,ByteArray.empty,0,[],0,0,false,0,[],[],(⟨0,0⟩ : g_api_Sig)⟩ : g_api_Cert),71)
  | some c=> c)
theorem w_cert_get_56x {a0 : List UInt8} {r : g_api_Cert × Int} (hm : m_cert_get_56x a0 = some r) : Sf prog 53 [sl eB a0,.fn (.func 56) [] []] (.tup [ag (e_api_Cert r.1),.d (.i r.2)]):= by
 unfold m_cert_get_56x at hm
 obtain ⟨x1,q1,hm⟩:= oY0 hm
 refine get_of (N:= 33) (nc:= 13) (tc:= 28) (te:= 31) (zd:= [.i 0,.s ByteArray.empty,.s ByteArray.empty,.u 0,.v (.slice none 0 0),.i 0,.i 0,.t false,.i 0,.v (.slice none 0 0),.v (.slice none 0 0),.u 0,.u 0]) (ev0:= .i 71) (ov:= oddV) (ok1:= ((x1.2.2 != 0)) = false) (okX:= ((x1.2.2 != 0)) = false ∧ mp_cert_get_56x a0 x1 = some none) (okE:= fun c=> ((x1.2.2 != 0)) = false ∧ mp_cert_get_56x a0 x1 = some (some c)) (JE:= fun (c : g_api_Cert × Int)=> ⟨[(4,.pb 0 0),(5,.pb 1 0)],[(0,.box 0 [.d (.i c.1.Serial),.d (.s c.1.Issuer),.d (.s c.1.Subject),.d (.u c.1.Key),sl eS c.1.Names,.d (.i c.1.From),.d (.i c.1.Until),.d (.t c.1.Ca),.d (.i c.1.Depth),sl eS c.1.Permit,sl e_api_Promise c.1.Proms,.d (.u c.1.Sig.E),.d (.u c.1.Sig.S)] 28),(1,.box 1 [.d (.i c.2)] 31)],[],2⟩) (J1:= ⟨[(0,sl eB a0),(1,.fn (.func 56) [] []),(4,.pb 0 0),(5,.pb 1 0),(6,.pb 2 0),(7,.d (.i x1.2.1))],[(0,.box 2 [.d (.i x1.1.Tag),sl eB x1.1.B,sl e_api_Item x1.1.L] 56),(1,.box 1 [.d (.i x1.2.2)] 31),(2,.box 0 [.d (.i 0),.d (.s ByteArray.empty),.d (.s ByteArray.empty),.d (.u 0),sl eS [],.d (.i 0),.d (.i 0),.d (.t false),.d (.i 0),sl eS [],sl e_api_Promise [],.d (.u 0),.d (.u 0)] 28)],[],3⟩) call53 call91 func53 rfl ntmps53 rfl rfl ⟨rfl,rfl⟩ rfl ?_ ?_ ?_ (fun c hc=> rfl) ?_ (d1_91) (d2_91)
 ·intro D0 As η0 m0 Jp hd bk
  refine G.h ?_
  refine gc (fun _=> w_der_Get q1) (by kernel_rfl) ?_
  refine gi hm (by kernel_rfl) (fun hc1 hm=> ?_) fun hc1 hm=> ?_
  ·skip
   have e0:= sI0 hm
   subst e0
   exact gend hd (by kernel_rfl)
  exact gb bk hd () hc1 (by kernel_rfl)
 ·intro hok D0 As η0 m0 hd
  refine G.h ?_
  rw [if_neg (by rw [hok]; decide)] at hm
  obtain ⟨z,hz,hm⟩:= oY0 hm
  have hz2:= hz
  unfold mp_cert_get_56x at hz2
  obtain ⟨y1,q2,hz2⟩:= oY0 hz2
  rcases y1 with _ | x2
  ·dsimp only at hz2
   have e0:= sI0 hz2
   subst e0
   exact gpanG (w_cert_must q2) ⟨hok,hz⟩ hd (by kernel_rfl) (by kernel_rfl)
  dsimp only at hz2
  refine gc (fun _=> (w_cert_must q2).sp) (by kernel_rfl) ?_
  obtain ⟨y2,q3,hz2⟩:= oY0 hz2
  rcases y2 with _ | x3
  ·dsimp only at hz2
   have e0:= sI0 hz2
   subst e0
   exact gpanG (w_cert_in q3) ⟨hok,hz⟩ hd (by kernel_rfl) (by kernel_rfl)
  dsimp only at hz2
  refine gco (w_cert_in q3).sp (by kernel_rfl) ?_
  obtain ⟨y3,q4,hz2⟩:= oY0 hz2
  rcases y3 with _ | x4
  ·dsimp only at hz2
   have e0:= sI0 hz2
   subst e0
   exact gpanG (w_cert_reader_body q4) ⟨hok,hz⟩ hd (by kernel_rfl) (by kernel_rfl)
  dsimp only at hz2
  refine gco (w_cert_reader_body q4).sp (by kernel_rfl) ?_
  obtain ⟨x5,q5,hz2⟩:= oY0 hz2
  refine gc (fun _=> w_cert_Check q5) (by kernel_rfl) ?_
  obtain ⟨y4,q6,hz2⟩:= oY0 hz2
  rcases y4 with _ | x6
  ·dsimp only at hz2
   have e0:= sI0 hz2
   subst e0
   exact gpanG (w_cert_must q6) ⟨hok,hz⟩ hd (by kernel_rfl) (by kernel_rfl)
  dsimp only at hz2
  refine gc (fun _=> (w_cert_must q6).sp) (by kernel_rfl) ?_
  have e0:= sI0 hz2
  subst e0
  exact gretG _ ⟨hok,hz⟩ hd (by kernel_rfl)
 ·rintro c ⟨hC,hz⟩ D0 As η0 m0 hd
  rw [if_neg (by rw [hC]; decide),hz] at hm
  have e0 : c = r:= sI0 hm
  subst e0
  exact G.h (gend hd (by kernel_rfl))
 ·rintro ⟨hC,hz⟩ D0 As η0 m0 hd
  rw [if_neg (by rw [hC]; decide),hz] at hm
  have e0 : ((⟨0,ByteArray.empty,ByteArray.empty,0,[],0,0,false,0,[],[],(⟨0,0⟩ : g_api_Sig)⟩ : g_api_Cert),71) = r:= sI0 hm
  subst e0
  exact G.h (gend hd (by kernel_rfl))
def m_cert_GetBody (a0 : List UInt8) : Option (g_api_Cert × Int) :=
 obind (m_cert_get_56x a0) fun x1 =>
 some (x1.1,x1.2)
theorem w_cert_GetBody {a0 : List UInt8} {r : g_api_Cert × Int} (hm : m_cert_GetBody a0 = some r) : Sf prog 28 [sl eB a0] (.tup [ag (e_api_Cert r.1),.d (.i r.2)]) :=
 sp call28 func28 rfl ntmps28 rfl fun D0 As η0 m0 hd=> by
  unfold m_cert_GetBody at hm
  obtain ⟨x1,q1,hm⟩:= oY0 hm
  refine gc (fun _=> w_cert_get_56x q1) (by kernel_rfl) ?_
  have e0:= sI0 hm
  subst e0
  exact gend hd (by kernel_rfl)
def mp_cert_get_57x (a0 : List UInt8) (x1 : g_api_Item × Int × Int) : Option (Option (g_api_Cert × Int)) :=
 obind (m_cert_must (x1.2.1 == (a0.length : Int))) fun y1=> match y1 with
 | none=> some none
 | some x2 =>
 obind (m_cert_in x1.1) fun y2=> match y2 with
 | none=> some none
 | some x3 =>
 obind (m_cert_reader_pre x3) fun y3=> match y3 with
 | none=> some none
 | some x4 =>
 obind (m_cert_Check (⟨x4.1.Serial,x4.1.Issuer,x4.1.Subject,x4.1.Key,x4.1.Names,x4.1.From,x4.1.Until,x4.1.Ca,x4.1.Depth,x4.1.Permit,[],x4.1.Sig⟩ : g_api_Cert)) fun x5 =>
 obind (m_cert_must (x5 == 0)) fun y4=> match y4 with
 | none=> some none
 | some x6 =>
 some (some ((⟨x4.1.Serial,x4.1.Issuer,x4.1.Subject,x4.1.Key,x4.1.Names,x4.1.From,x4.1.Until,x4.1.Ca,x4.1.Depth,x4.1.Permit,[],x4.1.Sig⟩ : g_api_Cert),0))
def m_cert_get_57x (a0 : List UInt8) : Option (g_api_Cert × Int) :=
 obind (m_der_Get a0 0) fun x1 =>
 if (x1.2.2 != 0) = true then
  some ((⟨0,ByteArray.empty,ByteArray.empty,0,[],0,0,false,0,[],[],(⟨0,0⟩ : g_api_Sig)⟩ : g_api_Cert),x1.2.2)
 else
 obind (mp_cert_get_57x a0 x1) fun z=> some (match z with
  | none=> ((⟨0,ByteArray.empty,ByteArray.empty,0,[],0,0,false,0,[],[],(⟨0,0⟩ : g_api_Sig)⟩ : g_api_Cert),71)
  | some c=> c)
theorem w_cert_get_57x {a0 : List UInt8} {r : g_api_Cert × Int} (hm : m_cert_get_57x a0 = some r) : Sf prog 53 [sl eB a0,.fn (.func 57) [] []] (.tup [ag (e_api_Cert r.1),.d (.i r.2)]):= by
 unfold m_cert_get_57x at hm
 obtain ⟨x1,q1,hm⟩:= oY0 hm
 refine get_of (N:= 33) (nc:= 13) (tc:= 28) (te:= 31) (zd:= [.i 0,.s ByteArray.empty,.s ByteArray.empty,.u 0,.v (.slice none 0 0),.i 0,.i 0,.t false,.i 0,.v (.slice none 0 0),.v (.slice none 0 0),.u 0,.u 0]) (ev0:= .i 71) (ov:= oddV) (ok1:= ((x1.2.2 != 0)) = false) (okX:= ((x1.2.2 != 0)) = false ∧ mp_cert_get_57x a0 x1 = some none) (okE:= fun c=> ((x1.2.2 != 0)) = false ∧ mp_cert_get_57x a0 x1 = some (some c)) (JE:= fun (c : g_api_Cert × Int)=> ⟨[(4,.pb 0 0),(5,.pb 1 0)],[(0,.box 0 [.d (.i c.1.Serial),.d (.s c.1.Issuer),.d (.s c.1.Subject),.d (.u c.1.Key),sl eS c.1.Names,.d (.i c.1.From),.d (.i c.1.Until),.d (.t c.1.Ca),.d (.i c.1.Depth),sl eS c.1.Permit,sl e_api_Promise c.1.Proms,.d (.u c.1.Sig.E),.d (.u c.1.Sig.S)] 28),(1,.box 1 [.d (.i c.2)] 31)],[],2⟩) (J1:= ⟨[(0,sl eB a0),(1,.fn (.func 57) [] []),(4,.pb 0 0),(5,.pb 1 0),(6,.pb 2 0),(7,.d (.i x1.2.1))],[(0,.box 2 [.d (.i x1.1.Tag),sl eB x1.1.B,sl e_api_Item x1.1.L] 56),(1,.box 1 [.d (.i x1.2.2)] 31),(2,.box 0 [.d (.i 0),.d (.s ByteArray.empty),.d (.s ByteArray.empty),.d (.u 0),sl eS [],.d (.i 0),.d (.i 0),.d (.t false),.d (.i 0),sl eS [],sl e_api_Promise [],.d (.u 0),.d (.u 0)] 28)],[],3⟩) call53 call91 func53 rfl ntmps53 rfl rfl ⟨rfl,rfl⟩ rfl ?_ ?_ ?_ (fun c hc=> rfl) ?_ (d1_91) (d2_91)
 ·intro D0 As η0 m0 Jp hd bk
  refine G.h ?_
  refine gc (fun _=> w_der_Get q1) (by kernel_rfl) ?_
  refine gi hm (by kernel_rfl) (fun hc1 hm=> ?_) fun hc1 hm=> ?_
  ·skip
   have e0:= sI0 hm
   subst e0
   exact gend hd (by kernel_rfl)
  exact gb bk hd () hc1 (by kernel_rfl)
 ·intro hok D0 As η0 m0 hd
  refine G.h ?_
  rw [if_neg (by rw [hok]; decide)] at hm
  obtain ⟨z,hz,hm⟩:= oY0 hm
  have hz2:= hz
  unfold mp_cert_get_57x at hz2
  obtain ⟨y1,q2,hz2⟩:= oY0 hz2
  rcases y1 with _ | x2
  ·dsimp only at hz2
   have e0:= sI0 hz2
   subst e0
   exact gpanG (w_cert_must q2) ⟨hok,hz⟩ hd (by kernel_rfl) (by kernel_rfl)
  dsimp only at hz2
  refine gc (fun _=> (w_cert_must q2).sp) (by kernel_rfl) ?_
  obtain ⟨y2,q3,hz2⟩:= oY0 hz2
  rcases y2 with _ | x3
  ·dsimp only at hz2
   have e0:= sI0 hz2
   subst e0
   exact gpanG (w_cert_in q3) ⟨hok,hz⟩ hd (by kernel_rfl) (by kernel_rfl)
  dsimp only at hz2
  refine gco (w_cert_in q3).sp (by kernel_rfl) ?_
  obtain ⟨y3,q4,hz2⟩:= oY0 hz2
  rcases y3 with _ | x4
  ·dsimp only at hz2
   have e0:= sI0 hz2
   subst e0
   exact gpanG (w_cert_reader_pre q4) ⟨hok,hz⟩ hd (by kernel_rfl) (by kernel_rfl)
  dsimp only at hz2
  refine gco (w_cert_reader_pre q4).sp (by kernel_rfl) ?_
  obtain ⟨x5,q5,hz2⟩:= oY0 hz2
  refine gc (fun _=> w_cert_Check q5) (by kernel_rfl) ?_
  obtain ⟨y4,q6,hz2⟩:= oY0 hz2
  rcases y4 with _ | x6
  ·dsimp only at hz2
   have e0:= sI0 hz2
   subst e0
   exact gpanG (w_cert_must q6) ⟨hok,hz⟩ hd (by kernel_rfl) (by kernel_rfl)
  dsimp only at hz2
  refine gc (fun _=> (w_cert_must q6).sp) (by kernel_rfl) ?_
  have e0:= sI0 hz2
  subst e0
  exact gretG _ ⟨hok,hz⟩ hd (by kernel_rfl)
 ·rintro c ⟨hC,hz⟩ D0 As η0 m0 hd
  rw [if_neg (by rw [hC]; decide),hz] at hm
  have e0 : c = r:= sI0 hm
  subst e0
  exact G.h (gend hd (by kernel_rfl))
 ·rintro ⟨hC,hz⟩ D0 As η0 m0 hd
  rw [if_neg (by rw [hC]; decide),hz] at hm
  have e0 : ((⟨0,ByteArray.empty,ByteArray.empty,0,[],0,0,false,0,[],[],(⟨0,0⟩ : g_api_Sig)⟩ : g_api_Cert),71) = r:= sI0 hm
  subst e0
  exact G.h (gend hd (by kernel_rfl))
def m_cert_GetPre (a0 : List UInt8) : Option (g_api_Cert × Int) :=
 obind (m_cert_get_57x a0) fun x1 =>
 some (x1.1,x1.2)
theorem w_cert_GetPre {a0 : List UInt8} {r : g_api_Cert × Int} (hm : m_cert_GetPre a0 = some r) : Sf prog 30 [sl eB a0] (.tup [ag (e_api_Cert r.1),.d (.i r.2)]) :=
 sp call30 func30 rfl ntmps30 rfl fun D0 As η0 m0 hd=> by
  unfold m_cert_GetPre at hm
  obtain ⟨x1,q1,hm⟩:= oY0 hm
  refine gc (fun _=> w_cert_get_57x q1) (by kernel_rfl) ?_
  have e0:= sI0 hm
  subst e0
  exact gend hd (by kernel_rfl)
def m_law18_example  : Option g_api_Cert :=
 some (⟨1,(⟨#[103,114,101,97,116,115,101,97,108]⟩ : ByteArray),ByteArray.empty,4,([(⟨#[120,46,97]⟩ : ByteArray)] : List ByteArray),0,9,false,0,[],[],(⟨0,0⟩ : g_api_Sig)⟩ : g_api_Cert)
theorem w_law18_example  {r : g_api_Cert} (hm : m_law18_example = some r) : Sf prog 34 [] (ag (e_api_Cert r)) :=
 sp call34 func34 rfl ntmps34 rfl fun D0 As η0 m0 hd=> by
  unfold m_law18_example at hm
  refine glitF (k:= 1) eS ([(⟨#[120,46,97]⟩ : ByteArray)] : List ByteArray) (fun _=> rfl) (by kernel_rfl) ?_
  have e0:= sI0 hm
  subst e0
  exact gend hd (by kernel_rfl)
def m_law18_live  : Option Bool :=
 obind (m_law18_example ) fun x1 =>
 obind (m_cert_Pre x1) fun x2 =>
 obind (m_cert_GetPre x2.1) fun x3 =>
 obind (m_cert_Put x1) fun x4 =>
 obind (m_cert_Get x4.1) fun x5 =>
 obind (m_cert_Body x1) fun x6 =>
 obind (m_cert_GetBody x6.1) fun x7 =>
 obind (m_cert_Leaf x1) fun x8 =>
 obind (m_cert_Get x2.1) fun x9 =>
 bnd ((((((((x2.2 == 0) && (x3.2 == 0)) && (x4.2 == 0)) && (x5.2 == 0)) && (x6.2 == 0)) && (x7.2 == 0)) && (x8.2 == 0))) fun x10 =>
 obind (gu x10 (m_cert_Same x3.1 x1)) fun x11 =>
 obind (gu (x10 && x11) (m_cert_Same x5.1 x1)) fun x12 =>
 obind (gu ((x10 && x11) && x12) (m_cert_Same x7.1 x1)) fun x13 =>
 obind (gu (((x10 && x11) && x12) && x13) (m_merkle_Leaf x2.1)) fun x14 =>
 obind (gu ((((x10 && x11) && x12) && x13) && (eqSum x8.1 x14)) (m_cert_Check (⟨0,(⟨#[114]⟩ : ByteArray),(⟨#[114]⟩ : ByteArray),4,[],0,9,true,2,([(⟨#[42,46,97]⟩ : ByteArray)] : List ByteArray),[],(⟨0,0⟩ : g_api_Sig)⟩ : g_api_Cert))) fun x15 =>
 obind (gu (((((x10 && x11) && x12) && x13) && (eqSum x8.1 x14)) && (x15 == 0)) (m_cert_Check (⟨x1.Serial,x1.Issuer,x1.Subject,x1.Key,x1.Names,x1.From,x1.Until,x1.Ca,x1.Depth,x1.Permit,([(⟨0,0,(0,0),(⟨0,0⟩ : g_api_Sig)⟩ : g_api_Promise),(⟨0,0,(0,0),(⟨0,0⟩ : g_api_Sig)⟩ : g_api_Promise)] : List g_api_Promise),x1.Sig⟩ : g_api_Cert))) fun x16 =>
 obind (gu ((((((x10 && x11) && x12) && x13) && (eqSum x8.1 x14)) && (x15 == 0)) && (x16 == 1)) (m_cert_Check (⟨x1.Serial,x1.Issuer,x1.Subject,x1.Key,[],x1.From,x1.Until,x1.Ca,x1.Depth,x1.Permit,x1.Proms,x1.Sig⟩ : g_api_Cert))) fun x17 =>
 obind (gu ((((((((x10 && x11) && x12) && x13) && (eqSum x8.1 x14)) && (x15 == 0)) && (x16 == 1)) && (x17 == 1)) && (x9.2 == 71)) (m_cert_Same x1 (⟨0,(⟨#[114]⟩ : ByteArray),(⟨#[114]⟩ : ByteArray),4,[],0,9,true,2,([(⟨#[42,46,97]⟩ : ByteArray)] : List ByteArray),[],(⟨0,0⟩ : g_api_Sig)⟩ : g_api_Cert))) fun x18 =>
 bnd ((((((((((x10 && x11) && x12) && x13) && (eqSum x8.1 x14)) && (x15 == 0)) && (x16 == 1)) && (x17 == 1)) && (x9.2 == 71)) && (!x18))) fun x19 =>
 some x19
theorem w_law18_live  {r : Bool} (hm : m_law18_live = some r) : Sf prog 12 [] (.d (.t r)) :=
 sp call12 func12 rfl ntmps12 rfl fun D0 As η0 m0 hd=> by
  unfold m_law18_live at hm
  obtain ⟨x1,q1,hm⟩:= oY0 hm
  refine gc (fun _=> w_law18_example q1) (by kernel_rfl) ?_
  obtain ⟨x2,q2,hm⟩:= oY0 hm
  refine gc (fun _=> d_cert_Pre q2) (by kernel_rfl) ?_
  obtain ⟨x3,q3,hm⟩:= oY0 hm
  refine gc (fun _=> w_cert_GetPre q3) (by kernel_rfl) ?_
  obtain ⟨x4,q4,hm⟩:= oY0 hm
  refine gco (w_cert_Put q4) (by kernel_rfl) ?_
  obtain ⟨x5,q5,hm⟩:= oY0 hm
  refine gco (w_cert_Get q5) (by kernel_rfl) ?_
  obtain ⟨x6,q6,hm⟩:= oY0 hm
  refine gco (w_cert_Body q6) (by kernel_rfl) ?_
  obtain ⟨x7,q7,hm⟩:= oY0 hm
  refine gco (w_cert_GetBody q7) (by kernel_rfl) ?_
  refine glitF (k:= 1) eS ([(⟨#[42,46,97]⟩ : ByteArray)] : List ByteArray) (fun _=> rfl) (by kernel_rfl) ?_
  obtain ⟨x8,q8,hm⟩:= oY0 hm
  refine gc (fun _=> w_cert_Leaf q8) (by kernel_rfl) ?_
  refine glitF (k:= 6) e_api_Promise ([(⟨0,0,(0,0),(⟨0,0⟩ : g_api_Sig)⟩ : g_api_Promise),(⟨0,0,(0,0),(⟨0,0⟩ : g_api_Sig)⟩ : g_api_Promise)] : List g_api_Promise) (fun _=> rfl) (by kernel_rfl) ?_
  obtain ⟨x9,q9,hm⟩:= oY0 hm
  refine gc (fun _=> w_cert_Get q9) (by kernel_rfl) ?_
  have hm:= bnd_is hm
  let x10 : Bool:= ((((((((x2.2 == 0) && (x3.2 == 0)) && (x4.2 == 0)) && (x5.2 == 0)) && (x6.2 == 0)) && (x7.2 == 0)) && (x8.2 == 0)))
  obtain ⟨x11,q11,hm⟩:= oY0 hm
  refine gcG (fun h=> w_cert_Same (gu_t h q11)) (by kernel_rfl) ?_
  obtain ⟨x12,q12,hm⟩:= oY0 hm
  refine gcG (fun h=> w_cert_Same (gu_t h q12)) (by kernel_rfl) ?_
  obtain ⟨x13,q13,hm⟩:= oY0 hm
  refine gcG (fun h=> w_cert_Same (gu_t h q13)) (by kernel_rfl) ?_
  obtain ⟨x14,q14,hm⟩:= oY0 hm
  refine gcG (fun h=> w_merkle_Leaf (gu_t h q14)) (by kernel_rfl) ?_
  obtain ⟨x15,q15,hm⟩:= oY0 hm
  refine gcG (fun h=> w_cert_Check (gu_t h q15)) (by kernel_rfl) ?_
  obtain ⟨x16,q16,hm⟩:= oY0 hm
  refine gcG (fun h=> w_cert_Check (gu_t h q16)) (by kernel_rfl) ?_
  obtain ⟨x17,q17,hm⟩:= oY0 hm
  refine gcG (fun h=> w_cert_Check (gu_t h q17)) (by kernel_rfl) ?_
  obtain ⟨x18,q18,hm⟩:= oY0 hm
  refine gcG (fun h=> w_cert_Same (gu_t h q18)) (by kernel_rfl) ?_
  have hm:= bnd_is hm
  let x19 : Bool:= ((((((((((x10 && x11) && x12) && x13) && (eqSum x8.1 x14)) && (x15 == 0)) && (x16 == 1)) && (x17 == 1)) && (x9.2 == 71)) && (!x18)))
  have e0:= sI0 hm
  subst e0
  exact gend hd (by kernel_rfl)
def m_ref18_little_b1 (a0 : List ByteArray) (s1 : Int) : Option ((Int) ⊕ ((Unit) ⊕ Bool)) :=
 if ((decide (s1 < (a0.length : Int))) && (decide (s1 < 20))) = true then
  obind (idx a0 s1) fun x3 =>
  if (decide ((x3.size : Int) > 200)) = true then
   some (.inr (.inr false))
  else
  some (.inl (w64 (s1 + 1)))
 else
 some (.inr (.inl ()))
def m_ref18_little (a0 : List ByteArray) : Option Bool :=
 obind (iter (m_ref18_little_b1 a0) FUEL 0) fun x1=> match x1 with
 | .inr r=> some r
 | .inl y1 =>
 bnd ((decide ((a0.length : Int) ≤ 16))) fun x4 =>
 some x4
theorem w_ref18_little {a0 : List ByteArray} {r : Bool} (hm : m_ref18_little a0 = some r) : Sf prog 36 [sl eS a0] (.d (.t r)) :=
 sp call36 func36 rfl ntmps36 rfl fun D0 As η0 m0 hd=> by
  unfold m_ref18_little at hm
  obtain ⟨x1,q1,hm⟩:= oY0 hm
  refine gjU 0 (fun (y1 : Unit)=> ⟨[(0,sl eS a0)],[],[],0⟩) (fun y1=> x1 = .inl y1) (by kernel_rfl) (fun Jp bk1=> ?_) fun y1 hy=> ?_
  ·refine gl hd (fun (p : Nat × (Int))=> let (p0,p_0):= p; ⟨[(0,sl eS a0),(3,.d (.i p_0))],[],[],0⟩) (fun p=> iter (m_ref18_little_b1 a0) p.1 p.2 = some x1) (fun p=> p.1) (FUEL,0) q1 (by kernel_rfl) ?_
   rintro ⟨n1,s1⟩ q2 Jl bl1
   cases n1 with
   | zero=> exact (iter_zero q2).elim
   | succ n1 =>
    obtain ⟨y2,q4,q3⟩:= iter_succ q2
    unfold m_ref18_little_b1 at q4
    refine gi q4 (by kernel_rfl) (fun hc1 q4=> ?_) fun hc1 q4=> ?_
    ·skip
     obtain ⟨x3,q6,q4⟩:= oY0 q4
     refine gidx (k:= 1) (E:= eS) (fun _=> rfl) (fun _=> q6) (by kernel_rfl) ?_
     refine gi q4 (by kernel_rfl) (fun hc2 q4=> ?_) fun hc2 q4=> ?_
     ·skip
      cases q4
      rcases q3 with ⟨sn,e,_⟩ | e
      ·cases e
      cases e
      dsimp only at hm
      have e0:= sI0 hm
      subst e0
      exact gend hd (by kernel_rfl)
     have e0:= sI0 q4
     subst e0
     rcases q3 with ⟨sn,e,q3'⟩ | e
     ·have e:= Sum.inl.inj e
      subst e
      exact gb bl1 hd (n1,_) ⟨q3',Nat.lt_succ_self _⟩ (by kernel_rfl)
     cases sum_lr e
    have e0:= sI0 q4
    subst e0
    rcases q3 with ⟨sn,e,_⟩ | e
    ·cases sum_rl e
    have e:= Sum.inr.inj e
    subst e
    exact gb bk1 hd () rfl (by kernel_rfl)
  subst hy
  dsimp only at hm
  have hm:= bnd_is hm
  let x4 : Bool:= ((decide ((a0.length : Int) ≤ 16)))
  have e0:= sI0 hm
  subst e0
  exact gend hd (by kernel_rfl)
def m_ref18_Few (a0 : g_api_Cert) : Option Bool :=
 obind (gu ((decide ((a0.Issuer.size : Int) ≤ 300)) && (decide ((a0.Subject.size : Int) ≤ 300))) (m_ref18_little a0.Names)) fun x1 =>
 obind (gu (((decide ((a0.Issuer.size : Int) ≤ 300)) && (decide ((a0.Subject.size : Int) ≤ 300))) && x1) (m_ref18_little a0.Permit)) fun x2 =>
 bnd ((((((decide ((a0.Issuer.size : Int) ≤ 300)) && (decide ((a0.Subject.size : Int) ≤ 300))) && x1) && x2) && (decide ((a0.Proms.length : Int) ≤ 8)))) fun x3 =>
 some x3
theorem w_ref18_Few {a0 : g_api_Cert} {r : Bool} (hm : m_ref18_Few a0 = some r) : Sf prog 13 [ag (e_api_Cert a0)] (.d (.t r)) :=
 sp call13 func13 rfl ntmps13 rfl fun D0 As η0 m0 hd=> by
  unfold m_ref18_Few at hm
  obtain ⟨x1,q1,hm⟩:= oY0 hm
  refine gcG (fun h=> w_ref18_little (gu_t h q1)) (by kernel_rfl) ?_
  obtain ⟨x2,q2,hm⟩:= oY0 hm
  refine gcG (fun h=> w_ref18_little (gu_t h q2)) (by kernel_rfl) ?_
  have hm:= bnd_is hm
  let x3 : Bool:= ((((((decide ((a0.Issuer.size : Int) ≤ 300)) && (decide ((a0.Subject.size : Int) ≤ 300))) && x1) && x2) && (decide ((a0.Proms.length : Int) ≤ 8))))
  have e0:= sI0 hm
  subst e0
  exact gend hd (by kernel_rfl)
def m_ref18_num (a0 : Int) : Option Bool :=
 bnd (((decide (a0 ≥ 0)) && (decide (a0 ≤ 1099511627776)))) fun x1 =>
 some x1
theorem w_ref18_num {a0 : Int} {r : Bool} (hm : m_ref18_num a0 = some r) : Sf prog 71 [.d (.i a0)] (.d (.t r)) :=
 sp call71 func71 rfl ntmps71 rfl fun D0 As η0 m0 hd=> by
  unfold m_ref18_num at hm
  have hm:= bnd_is hm
  let x1 : Bool:= (((decide (a0 ≥ 0)) && (decide (a0 ≤ 1099511627776))))
  have e0:= sI0 hm
  subst e0
  exact gend hd (by kernel_rfl)
def m_ref18_Text_b1 (a0 : ByteArray) (s1 : Int) : Option ((Int) ⊕ ((Unit) ⊕ Bool)) :=
 if (decide (s1 < (a0.size : Int))) = true then
  obind (idx a0.data.toList s1) fun x3 =>
  obind (gu (!(decide ((x3.toNat : Int) < 33))) (idx a0.data.toList s1)) fun x4 =>
  if ((decide ((x3.toNat : Int) < 33)) || (decide ((x4.toNat : Int) > 126))) = true then
   some (.inr (.inr false))
  else
  some (.inl (w64 (s1 + 1)))
 else
 some (.inr (.inl ()))
def m_ref18_Text (a0 : ByteArray) : Option Bool :=
 obind (iter (m_ref18_Text_b1 a0) FUEL 0) fun x1=> match x1 with
 | .inr r=> some r
 | .inl y1 =>
 bnd (((decide ((a0.size : Int) ≥ 1)) && (decide ((a0.size : Int) ≤ 64)))) fun x5 =>
 some x5
theorem w_ref18_Text {a0 : ByteArray} {r : Bool} (hm : m_ref18_Text a0 = some r) : Sf prog 72 [.d (.s a0)] (.d (.t r)) :=
 sp call72 func72 rfl ntmps72 rfl fun D0 As η0 m0 hd=> by
  unfold m_ref18_Text at hm
  obtain ⟨x1,q1,hm⟩:= oY0 hm
  refine gjU 0 (fun (y1 : Unit)=> ⟨[(0,.d (.s a0))],[],[],0⟩) (fun y1=> x1 = .inl y1) (by kernel_rfl) (fun Jp bk1=> ?_) fun y1 hy=> ?_
  ·refine gl hd (fun (p : Nat × (Int))=> let (p0,p_0):= p; ⟨[(0,.d (.s a0)),(3,.d (.i p_0))],[],[],0⟩) (fun p=> iter (m_ref18_Text_b1 a0) p.1 p.2 = some x1) (fun p=> p.1) (FUEL,0) q1 (by kernel_rfl) ?_
   rintro ⟨n1,s1⟩ q2 Jl bl1
   cases n1 with
   | zero=> exact (iter_zero q2).elim
   | succ n1 =>
    obtain ⟨y2,q4,q3⟩:= iter_succ q2
    unfold m_ref18_Text_b1 at q4
    refine gi q4 (by kernel_rfl) (fun hc1 q4=> ?_) fun hc1 q4=> ?_
    ·skip
     obtain ⟨x3,q6,q4⟩:= oY0 q4
     refine gidxS (fun _=> q6) (by kernel_rfl) ?_
     obtain ⟨x4,q7,q4⟩:= oY0 q4
     refine gidxSG (fun h=> gu_t h q7) (by kernel_rfl) ?_
     refine gi q4 (by kernel_rfl) (fun hc2 q4=> ?_) fun hc2 q4=> ?_
     ·skip
      cases q4
      rcases q3 with ⟨sn,e,_⟩ | e
      ·cases e
      cases e
      dsimp only at hm
      have e0:= sI0 hm
      subst e0
      exact gend hd (by kernel_rfl)
     have e0:= sI0 q4
     subst e0
     rcases q3 with ⟨sn,e,q3'⟩ | e
     ·have e:= Sum.inl.inj e
      subst e
      exact gb bl1 hd (n1,_) ⟨q3',Nat.lt_succ_self _⟩ (by kernel_rfl)
     cases sum_lr e
    have e0:= sI0 q4
    subst e0
    rcases q3 with ⟨sn,e,_⟩ | e
    ·cases sum_rl e
    have e:= Sum.inr.inj e
    subst e
    exact gb bk1 hd () rfl (by kernel_rfl)
  subst hy
  dsimp only at hm
  have hm:= bnd_is hm
  let x5 : Bool:= (((decide ((a0.size : Int) ≥ 1)) && (decide ((a0.size : Int) ≤ 64))))
  have e0:= sI0 hm
  subst e0
  exact gend hd (by kernel_rfl)
def m_ref18_SigMay (a0 : g_api_Sig) : Option Bool :=
 bnd (((decide ((a0.E.toNat : Int) < 1152921504606845789)) && (decide ((a0.S.toNat : Int) < 1152921504606845789)))) fun x1 =>
 some x1
theorem w_ref18_SigMay {a0 : g_api_Sig} {r : Bool} (hm : m_ref18_SigMay a0 = some r) : Sf prog 73 [ag (e_api_Sig a0)] (.d (.t r)) :=
 sp call73 func73 rfl ntmps73 rfl fun D0 As η0 m0 hd=> by
  unfold m_ref18_SigMay at hm
  have hm:= bnd_is hm
  let x1 : Bool:= (((decide ((a0.E.toNat : Int) < 1152921504606845789)) && (decide ((a0.S.toNat : Int) < 1152921504606845789))))
  have e0:= sI0 hm
  subst e0
  exact gend hd (by kernel_rfl)
def m_ref18_PromMay (a0 : g_api_Promise) : Option Bool :=
 obind (m_ref18_num a0.Log) fun x1 =>
 obind (gu x1 (m_ref18_num a0.At)) fun x2 =>
 obind (gu (((x1 && x2) && (decide ((a0.Leaf.1.toNat : Int) < 2305843009213693951))) && (decide ((a0.Leaf.2.toNat : Int) < 2305843009213693951))) (m_ref18_SigMay a0.Sig)) fun x3 =>
 bnd (((((x1 && x2) && (decide ((a0.Leaf.1.toNat : Int) < 2305843009213693951))) && (decide ((a0.Leaf.2.toNat : Int) < 2305843009213693951))) && x3)) fun x4 =>
 some x4
theorem w_ref18_PromMay {a0 : g_api_Promise} {r : Bool} (hm : m_ref18_PromMay a0 = some r) : Sf prog 74 [ag (e_api_Promise a0)] (.d (.t r)) :=
 sp call74 func74 rfl ntmps74 rfl fun D0 As η0 m0 hd=> by
  unfold m_ref18_PromMay at hm
  obtain ⟨x1,q1,hm⟩:= oY0 hm
  refine gc (fun _=> w_ref18_num q1) (by kernel_rfl) ?_
  obtain ⟨x2,q2,hm⟩:= oY0 hm
  refine gcG (fun h=> w_ref18_num (gu_t h q2)) (by kernel_rfl) ?_
  obtain ⟨x3,q3,hm⟩:= oY0 hm
  refine gcG (fun h=> w_ref18_SigMay (gu_t h q3)) (by kernel_rfl) ?_
  have hm:= bnd_is hm
  let x4 : Bool:= (((((x1 && x2) && (decide ((a0.Leaf.1.toNat : Int) < 2305843009213693951))) && (decide ((a0.Leaf.2.toNat : Int) < 2305843009213693951))) && x3))
  have e0:= sI0 hm
  subst e0
  exact gend hd (by kernel_rfl)
def m_ref11_cut_b1 (a0 : ByteArray) (s1 : (List ByteArray) × Int × Int) : Option (((List ByteArray) × Int × Int) ⊕ ((List ByteArray) × Int)) :=
 if (decide (s1.2.2 < (a0.size : Int))) = true then
  obind (
   obind (idx a0.data.toList s1.2.2) fun x5 =>
   if ((x5.toNat : Int) == 46) = true then
    obind (cutS a0 s1.2.1 s1.2.2) fun x6 =>
    obind (app 16 s1.1 ([x6] : List ByteArray)) fun x7 =>
    some (x7,(w64 (s1.2.2 + 1)))
   else
   some (s1.1,s1.2.1)
  ) fun x4 =>
  some (.inl (x4.1,x4.2,(w64 (s1.2.2 + 1))))
 else
 some (.inr (s1.1,s1.2.1))
def m_ref11_cut (a0 : ByteArray) : Option (List ByteArray) :=
 obind (
  obind (iter (m_ref11_cut_b1 a0) FUEL (([] : List ByteArray),0,0)) fun x2 =>
  some (x2.1,x2.2)
 ) fun x1 =>
 obind (cutS a0 x1.2 (a0.size : Int)) fun x8 =>
 obind (app 16 x1.1 ([x8] : List ByteArray)) fun x9 =>
 some x9
theorem w_ref11_cut {a0 : ByteArray} {r : List ByteArray} (hm : m_ref11_cut a0 = some r) : Sp prog 158 [.d (.s a0)] [] 0 (is (.ow 0) [.row 0 1 _ eS r] 1) :=
 sp call158 func158 rfl ntmps158 rfl fun D0 As η0 m0 hd=> by
  unfold m_ref11_cut at hm
  obtain ⟨x1,q1,hm⟩:= oY0 hm
  obtain ⟨x2,q2,q1⟩:= oY0 q1
  refine gnilU 0 eS 3 1 (by kernel_rfl) ?_
  refine gjU 0 (fun (_ : Unit)=> let (y_0,y_1):= x1; ⟨[(0,.d (.s a0)),(3,.ow 0),(4,.d (.i y_1))],[(0,.row 0 1 _ eS y_0)],[],1⟩) (fun _=> True) (by kernel_rfl) (fun Jp bk1=> ?_) fun _ _=> ?_
  ·refine gjU 0 (fun (_ : Unit)=> let (y_0,y_1):= x2; ⟨[(0,.d (.s a0)),(3,.ow 0),(4,.d (.i y_1))],[(0,.row 0 1 _ eS y_0)],[],1⟩) (fun _=> True) (by kernel_rfl) (fun Jp bk2=> ?_) fun _ _=> ?_
   ·refine gl hd (fun (p : Nat × ((List ByteArray) × Int × Int))=> let (p0,p_0,p_1,p_2):= p; ⟨[(0,.d (.s a0)),(3,.ow 0),(4,.d (.i p_1)),(5,.d (.i p_2))],[(0,.row 0 1 _ eS p_0)],[],1⟩) (fun p=> iter (m_ref11_cut_b1 a0) p.1 p.2 = some x2) (fun p=> p.1) (FUEL,(([] : List ByteArray),0,0)) q2 (by kernel_rfl) ?_
    rintro ⟨n1,s1⟩ q3 Jl bl1
    cases n1 with
    | zero=> exact (iter_zero q3).elim
    | succ n1 =>
     obtain ⟨y1,q5,q4⟩:= iter_succ q3
     unfold m_ref11_cut_b1 at q5
     refine gi q5 (by kernel_rfl) (fun hc1 q5=> ?_) fun hc1 q5=> ?_
     ·skip
      obtain ⟨x4,q7,q5⟩:= oY0 q5
      refine gjU 1 (fun (_ : Unit)=> let (y_0,y_1):= x4; ⟨[(0,.d (.s a0)),(3,.ow 0),(4,.d (.i y_1)),(5,.d (.i s1.2.2))],[(0,.row 0 1 _ eS y_0)],[],1⟩) (fun _=> True) (by kernel_rfl) (fun Jp bk3=> ?_) fun _ _=> ?_
      ·skip
       obtain ⟨x5,q8,q7⟩:= oY0 q7
       refine gidxS (fun _=> q8) (by kernel_rfl) ?_
       refine gi q7 (by kernel_rfl) (fun hc2 q7=> ?_) fun hc2 q7=> ?_
       ·skip
        obtain ⟨x6,q9,q7⟩:= oY0 q7
        refine gcutS (fun _=> q9) (by kernel_rfl) ?_
        refine glitF (k:= 1) eS ([x6] : List ByteArray) (fun _=> rfl) (by kernel_rfl) ?_
        obtain ⟨x7,q10,q7⟩:= oY0 q7
        refine gapp (k:= 1) (E:= eS) (fun _=> rfl) q10 (by kernel_rfl) ?_
        have e0:= sI0 q7
        subst e0
        exact gb bk3 hd () trivial (by kernel_rfl)
       have e0:= sI0 q7
       subst e0
       exact gb bk3 hd () trivial (by kernel_rfl)
      have e0:= sI0 q5
      subst e0
      rcases q4 with ⟨sn,e,q4'⟩ | e
      ·have e:= Sum.inl.inj e
       subst e
       exact gb bl1 hd (n1,_) ⟨q4',Nat.lt_succ_self _⟩ (by kernel_rfl)
      cases sum_lr e
     have e0:= sI0 q5
     subst e0
     rcases q4 with ⟨sn,e,_⟩ | e
     ·cases sum_rl e
     have e:= Sum.inr.inj e
     subst e
     exact gb bk2 hd () trivial (by kernel_rfl)
   have e0:= sI0 q1
   subst e0
   exact gb bk1 hd () trivial (by kernel_rfl)
  obtain ⟨x8,q11,hm⟩:= oY0 hm
  refine gcutS (fun _=> q11) (by kernel_rfl) ?_
  refine glitF (k:= 1) eS ([x8] : List ByteArray) (fun _=> rfl) (by kernel_rfl) ?_
  obtain ⟨x9,q12,hm⟩:= oY0 hm
  refine gapp (k:= 1) (E:= eS) (fun _=> rfl) q12 (by kernel_rfl) ?_
  have e0:= sI0 hm
  subst e0
  exact gend hd (by kernel_rfl)
def m_ref11_word (a0 : UInt8) : Option Bool :=
 bnd ((((decide ((a0.toNat : Int) ≥ 97)) && (decide ((a0.toNat : Int) ≤ 122))) || ((decide ((a0.toNat : Int) ≥ 48)) && (decide ((a0.toNat : Int) ≤ 57))))) fun x1 =>
 some x1
theorem w_ref11_word {a0 : UInt8} {r : Bool} (hm : m_ref11_word a0 = some r) : Sf prog 187 [.d (.b a0)] (.d (.t r)) :=
 sp call187 func187 rfl ntmps187 rfl fun D0 As η0 m0 hd=> by
  unfold m_ref11_word at hm
  have hm:= bnd_is hm
  let x1 : Bool:= ((((decide ((a0.toNat : Int) ≥ 97)) && (decide ((a0.toNat : Int) ≤ 122))) || ((decide ((a0.toNat : Int) ≥ 48)) && (decide ((a0.toNat : Int) ≤ 57)))))
  have e0:= sI0 hm
  subst e0
  exact gend hd (by kernel_rfl)
def m_ref11_label_b1 (a0 : ByteArray) (s1 : Int) : Option ((Int) ⊕ ((Unit) ⊕ Bool)) :=
 if (decide (s1 < (a0.size : Int))) = true then
  obind (idx a0.data.toList s1) fun x8 =>
  obind (m_ref11_word x8) fun x9 =>
  obind (gu (!x9) (idx a0.data.toList s1)) fun x10 =>
  if ((!x9) && ((x10.toNat : Int) != 45)) = true then
   some (.inr (.inr false))
  else
  some (.inl (w64 (s1 + 1)))
 else
 some (.inr (.inl ()))
def m_ref11_label (a0 : ByteArray) : Option Bool :=
 obind (gu (!((decide ((a0.size : Int) < 1)) || (decide ((a0.size : Int) > 16)))) (idx a0.data.toList (w64 ((a0.size : Int) - 1)))) fun x1 =>
 obind (gu (!((decide ((a0.size : Int) < 1)) || (decide ((a0.size : Int) > 16)))) (m_ref11_word x1)) fun x2 =>
 obind (gu (!(((decide ((a0.size : Int) < 1)) || (decide ((a0.size : Int) > 16))) || (!x2))) (idx a0.data.toList 0)) fun x3 =>
 obind (gu (!(((decide ((a0.size : Int) < 1)) || (decide ((a0.size : Int) > 16))) || (!x2))) (m_ref11_word x3)) fun x4 =>
 obind (gu ((!(((decide ((a0.size : Int) < 1)) || (decide ((a0.size : Int) > 16))) || (!x2))) && (!x4)) (idx a0.data.toList 0)) fun x5 =>
 if ((((decide ((a0.size : Int) < 1)) || (decide ((a0.size : Int) > 16))) || (!x2)) || ((!x4) && ((x5.toNat : Int) != 95))) = true then
  some false
 else
 obind (iter (m_ref11_label_b1 a0) FUEL 1) fun x6=> match x6 with
 | .inr r=> some r
 | .inl y1 =>
 some true
theorem w_ref11_label {a0 : ByteArray} {r : Bool} (hm : m_ref11_label a0 = some r) : Sf prog 159 [.d (.s a0)] (.d (.t r)) :=
 sp call159 func159 rfl ntmps159 rfl fun D0 As η0 m0 hd=> by
  unfold m_ref11_label at hm
  obtain ⟨x1,q1,hm⟩:= oY0 hm
  refine gidxSG (fun h=> gu_t h q1) (by kernel_rfl) ?_
  obtain ⟨x2,q2,hm⟩:= oY0 hm
  refine gcG (fun h=> w_ref11_word (gu_t h q2)) (by kernel_rfl) ?_
  obtain ⟨x3,q3,hm⟩:= oY0 hm
  refine gidxSG (fun h=> gu_t h q3) (by kernel_rfl) ?_
  obtain ⟨x4,q4,hm⟩:= oY0 hm
  refine gcG (fun h=> w_ref11_word (gu_t h q4)) (by kernel_rfl) ?_
  obtain ⟨x5,q5,hm⟩:= oY0 hm
  refine gidxSG (fun h=> gu_t h q5) (by kernel_rfl) ?_
  refine gi hm (by kernel_rfl) (fun hc1 hm=> ?_) fun hc1 hm=> ?_
  ·skip
   have e0:= sI0 hm
   subst e0
   exact gend hd (by kernel_rfl)
  obtain ⟨x6,q6,hm⟩:= oY0 hm
  refine gjU 0 (fun (y1 : Unit)=> ⟨[],[],[],0⟩) (fun y1=> x6 = .inl y1) (by kernel_rfl) (fun Jp bk1=> ?_) fun y1 hy=> ?_
  ·refine gl hd (fun (p : Nat × (Int))=> let (p0,p_0):= p; ⟨[(0,.d (.s a0)),(3,.d (.i (a0.size : Int))),(4,.d (.i p_0))],[],[],0⟩) (fun p=> iter (m_ref11_label_b1 a0) p.1 p.2 = some x6) (fun p=> p.1) (FUEL,1) q6 (by kernel_rfl) ?_
   rintro ⟨n1,s1⟩ q7 Jl bl1
   cases n1 with
   | zero=> exact (iter_zero q7).elim
   | succ n1 =>
    obtain ⟨y2,q9,q8⟩:= iter_succ q7
    unfold m_ref11_label_b1 at q9
    refine gi q9 (by kernel_rfl) (fun hc2 q9=> ?_) fun hc2 q9=> ?_
    ·skip
     obtain ⟨x8,q11,q9⟩:= oY0 q9
     refine gidxS (fun _=> q11) (by kernel_rfl) ?_
     obtain ⟨x9,q12,q9⟩:= oY0 q9
     refine gc (fun _=> w_ref11_word q12) (by kernel_rfl) ?_
     obtain ⟨x10,q13,q9⟩:= oY0 q9
     refine gidxSG (fun h=> gu_t h q13) (by kernel_rfl) ?_
     refine gi q9 (by kernel_rfl) (fun hc3 q9=> ?_) fun hc3 q9=> ?_
     ·skip
      cases q9
      rcases q8 with ⟨sn,e,_⟩ | e
      ·cases e
      cases e
      dsimp only at hm
      have e0:= sI0 hm
      subst e0
      exact gend hd (by kernel_rfl)
     have e0:= sI0 q9
     subst e0
     rcases q8 with ⟨sn,e,q8'⟩ | e
     ·have e:= Sum.inl.inj e
      subst e
      exact gb bl1 hd (n1,_) ⟨q8',Nat.lt_succ_self _⟩ (by kernel_rfl)
     cases sum_lr e
    have e0:= sI0 q9
    subst e0
    rcases q8 with ⟨sn,e,_⟩ | e
    ·cases sum_rl e
    have e:= Sum.inr.inj e
    subst e
    exact gb bk1 hd () rfl (by kernel_rfl)
  subst hy
  dsimp only at hm
  have e0:= sI0 hm
  subst e0
  exact gend hd (by kernel_rfl)
def m_ref11_Name_b1 (x1 : List ByteArray) (s1 : Int) : Option ((Int) ⊕ ((Unit) ⊕ Bool)) :=
 if (decide (s1 < (x1.length : Int))) = true then
  obind (idx x1 s1) fun x4 =>
  obind (m_ref11_label x4) fun x5 =>
  if (!x5) = true then
   some (.inr (.inr false))
  else
  some (.inl (w64 (s1 + 1)))
 else
 some (.inr (.inl ()))
def m_ref11_Name (a0 : ByteArray) : Option Bool :=
 if (decide ((a0.size : Int) > 64)) = true then
  some false
 else
 obind (m_ref11_cut a0) fun x1 =>
 obind (iter (m_ref11_Name_b1 x1) FUEL 0) fun x2=> match x2 with
 | .inr r=> some r
 | .inl y1 =>
 bnd ((decide ((x1.length : Int) ≤ 8))) fun x6 =>
 some x6
theorem w_ref11_Name {a0 : ByteArray} {r : Bool} (hm : m_ref11_Name a0 = some r) : Sf prog 122 [.d (.s a0)] (.d (.t r)) :=
 sp call122 func122 rfl ntmps122 rfl fun D0 As η0 m0 hd=> by
  unfold m_ref11_Name at hm
  refine gi hm (by kernel_rfl) (fun hc1 hm=> ?_) fun hc1 hm=> ?_
  ·skip
   have e0:= sI0 hm
   subst e0
   exact gend hd (by kernel_rfl)
  obtain ⟨x1,q1,hm⟩:= oY0 hm
  refine gco (w_ref11_cut q1) (by kernel_rfl) ?_
  obtain ⟨x2,q2,hm⟩:= oY0 hm
  refine gjU 0 (fun (y1 : Unit)=> ⟨[(3,.ow 0)],[(0,.row 0 1 _ eS x1)],[],1⟩) (fun y1=> x2 = .inl y1) (by kernel_rfl) (fun Jp bk1=> ?_) fun y1 hy=> ?_
  ·refine gl hd (fun (p : Nat × (Int))=> let (p0,p_0):= p; ⟨[(3,.ow 0),(4,.d (.i p_0))],[(0,.row 0 1 _ eS x1)],[],1⟩) (fun p=> iter (m_ref11_Name_b1 x1) p.1 p.2 = some x2) (fun p=> p.1) (FUEL,0) q2 (by kernel_rfl) ?_
   rintro ⟨n1,s1⟩ q3 Jl bl1
   cases n1 with
   | zero=> exact (iter_zero q3).elim
   | succ n1 =>
    obtain ⟨y2,q5,q4⟩:= iter_succ q3
    unfold m_ref11_Name_b1 at q5
    refine gi q5 (by kernel_rfl) (fun hc2 q5=> ?_) fun hc2 q5=> ?_
    ·skip
     obtain ⟨x4,q7,q5⟩:= oY0 q5
     refine gidxO (E:= eS) (fun _=> q7) (by kernel_rfl) ?_
     refine gldO (k:= 1) (fo:= 0) (nn:= 1) (ag:= false) (E:= eS) (fun _=> rfl) (fun _=> q7) (by kernel_rfl) ?_
     obtain ⟨x5,q8,q5⟩:= oY0 q5
     refine gc (fun _=> w_ref11_label q8) (by kernel_rfl) ?_
     refine gi q5 (by kernel_rfl) (fun hc3 q5=> ?_) fun hc3 q5=> ?_
     ·skip
      cases q5
      rcases q4 with ⟨sn,e,_⟩ | e
      ·cases e
      cases e
      dsimp only at hm
      have e0:= sI0 hm
      subst e0
      exact gend hd (by kernel_rfl)
     have e0:= sI0 q5
     subst e0
     rcases q4 with ⟨sn,e,q4'⟩ | e
     ·have e:= Sum.inl.inj e
      subst e
      exact gb bl1 hd (n1,_) ⟨q4',Nat.lt_succ_self _⟩ (by kernel_rfl)
     cases sum_lr e
    have e0:= sI0 q5
    subst e0
    rcases q4 with ⟨sn,e,_⟩ | e
    ·cases sum_rl e
    have e:= Sum.inr.inj e
    subst e
    exact gb bk1 hd () rfl (by kernel_rfl)
  subst hy
  dsimp only at hm
  have hm:= bnd_is hm
  let x6 : Bool:= ((decide ((x1.length : Int) ≤ 8)))
  have e0:= sI0 hm
  subst e0
  exact gend hd (by kernel_rfl)
def m_ref18_unlike_b2 (a0 : List ByteArray) (s1 : Int) (s2 : Int) : Option ((Int) ⊕ ((Unit) ⊕ Bool)) :=
 if (decide (s2 < s1)) = true then
  obind (idx a0 s2) fun x5 =>
  obind (idx a0 s1) fun x6 =>
  if (eqS x5 x6) = true then
   some (.inr (.inr false))
  else
  some (.inl (w64 (s2 + 1)))
 else
 some (.inr (.inl ()))
def m_ref18_unlike_b1 (a0 : List ByteArray) (s1 : Int) : Option ((Int) ⊕ ((Unit) ⊕ Bool)) :=
 if (decide (s1 < (a0.length : Int))) = true then
  obind (iter (m_ref18_unlike_b2 a0 s1) FUEL 0) fun x3=> match x3 with
  | .inr r=> some (.inr (.inr r))
  | .inl y3 =>
  some (.inl (w64 (s1 + 1)))
 else
 some (.inr (.inl ()))
def m_ref18_unlike (a0 : List ByteArray) : Option Bool :=
 obind (iter (m_ref18_unlike_b1 a0) FUEL 0) fun x1=> match x1 with
 | .inr r=> some r
 | .inl y1 =>
 some true
theorem w_ref18_unlike {a0 : List ByteArray} {r : Bool} (hm : m_ref18_unlike a0 = some r) : Sf prog 123 [sl eS a0] (.d (.t r)) :=
 sp call123 func123 rfl ntmps123 rfl fun D0 As η0 m0 hd=> by
  unfold m_ref18_unlike at hm
  obtain ⟨x1,q1,hm⟩:= oY0 hm
  refine gjU 0 (fun (y1 : Unit)=> ⟨[],[],[],0⟩) (fun y1=> x1 = .inl y1) (by kernel_rfl) (fun Jp bk1=> ?_) fun y1 hy=> ?_
  ·refine gl hd (fun (p : Nat × (Int))=> let (p0,p_0):= p; ⟨[(0,sl eS a0),(3,.d (.i p_0))],[],[],0⟩) (fun p=> iter (m_ref18_unlike_b1 a0) p.1 p.2 = some x1) (fun p=> p.1) (FUEL,0) q1 (by kernel_rfl) ?_
   rintro ⟨n1,s1⟩ q2 Jl bl1
   cases n1 with
   | zero=> exact (iter_zero q2).elim
   | succ n1 =>
    obtain ⟨y2,q4,q3⟩:= iter_succ q2
    unfold m_ref18_unlike_b1 at q4
    refine gi q4 (by kernel_rfl) (fun hc1 q4=> ?_) fun hc1 q4=> ?_
    ·skip
     obtain ⟨x3,q6,q4⟩:= oY0 q4
     refine gjU 2 (fun (y3 : Unit)=> ⟨[(0,sl eS a0),(3,.d (.i s1))],[],[],0⟩) (fun y3=> x3 = .inl y3) (by kernel_rfl) (fun Jp bk2=> ?_) fun y3 hy=> ?_
     ·refine gl hd (fun (p : Nat × (Int))=> let (p0,p_0):= p; ⟨[(0,sl eS a0),(3,.d (.i s1)),(4,.d (.i p_0))],[],[],0⟩) (fun p=> iter (m_ref18_unlike_b2 a0 s1) p.1 p.2 = some x3) (fun p=> p.1) (FUEL,0) q6 (by kernel_rfl) ?_
      rintro ⟨n2,s2⟩ q7 Jl bl2
      cases n2 with
      | zero=> exact (iter_zero q7).elim
      | succ n2 =>
       obtain ⟨y4,q9,q8⟩:= iter_succ q7
       unfold m_ref18_unlike_b2 at q9
       refine gi q9 (by kernel_rfl) (fun hc2 q9=> ?_) fun hc2 q9=> ?_
       ·skip
        obtain ⟨x5,q11,q9⟩:= oY0 q9
        refine gidx (k:= 1) (E:= eS) (fun _=> rfl) (fun _=> q11) (by kernel_rfl) ?_
        obtain ⟨x6,q12,q9⟩:= oY0 q9
        refine gidx (k:= 1) (E:= eS) (fun _=> rfl) (fun _=> q12) (by kernel_rfl) ?_
        refine gi q9 (by kernel_rfl) (fun hc3 q9=> ?_) fun hc3 q9=> ?_
        ·skip
         cases q9
         rcases q8 with ⟨sn,e,_⟩ | e
         ·cases e
         cases e
         dsimp only at q4
         cases q4
         rcases q3 with ⟨sn,e,_⟩ | e
         ·cases e
         cases e
         dsimp only at hm
         have e0:= sI0 hm
         subst e0
         exact gend hd (by kernel_rfl)
        have e0:= sI0 q9
        subst e0
        rcases q8 with ⟨sn,e,q8'⟩ | e
        ·have e:= Sum.inl.inj e
         subst e
         exact gb bl2 hd (n2,_) ⟨q8',Nat.lt_succ_self _⟩ (by kernel_rfl)
        cases sum_lr e
       have e0:= sI0 q9
       subst e0
       rcases q8 with ⟨sn,e,_⟩ | e
       ·cases sum_rl e
       have e:= Sum.inr.inj e
       subst e
       exact gb bk2 hd () rfl (by kernel_rfl)
     subst hy
     dsimp only at q4
     have e0:= sI0 q4
     subst e0
     rcases q3 with ⟨sn,e,q3'⟩ | e
     ·have e:= Sum.inl.inj e
      subst e
      exact gb bl1 hd (n1,_) ⟨q3',Nat.lt_succ_self _⟩ (by kernel_rfl)
     cases sum_lr e
    have e0:= sI0 q4
    subst e0
    rcases q3 with ⟨sn,e,_⟩ | e
    ·cases sum_rl e
    have e:= Sum.inr.inj e
    subst e
    exact gb bk1 hd () rfl (by kernel_rfl)
  subst hy
  dsimp only at hm
  have e0:= sI0 hm
  subst e0
  exact gend hd (by kernel_rfl)
def m_ref11_Star (a0 : ByteArray) : Option (ByteArray × Bool) :=
 obind (gu (!((decide ((a0.size : Int) < 3)) || (decide ((a0.size : Int) > 64)))) (idx a0.data.toList 0)) fun x1 =>
 obind (gu (!(((decide ((a0.size : Int) < 3)) || (decide ((a0.size : Int) > 64))) || ((x1.toNat : Int) != 42))) (idx a0.data.toList 1)) fun x2 =>
 obind (gu (!((((decide ((a0.size : Int) < 3)) || (decide ((a0.size : Int) > 64))) || ((x1.toNat : Int) != 42)) || ((x2.toNat : Int) != 46))) (cutS a0 2 (a0.size : Int))) fun x3 =>
 obind (gu (!((((decide ((a0.size : Int) < 3)) || (decide ((a0.size : Int) > 64))) || ((x1.toNat : Int) != 42)) || ((x2.toNat : Int) != 46))) (m_ref11_Name x3)) fun x4 =>
 if (((((decide ((a0.size : Int) < 3)) || (decide ((a0.size : Int) > 64))) || ((x1.toNat : Int) != 42)) || ((x2.toNat : Int) != 46)) || (!x4)) = true then
  some ((⟨#[]⟩ : ByteArray),false)
 else
 obind (cutS a0 2 (a0.size : Int)) fun x5 =>
 obind (m_ref11_cut x5) fun x6 =>
 if (decide ((x6.length : Int) > 7)) = true then
  some ((⟨#[]⟩ : ByteArray),false)
 else
 obind (cutS a0 2 (a0.size : Int)) fun x7 =>
 some (x7,true)
theorem w_ref11_Star {a0 : ByteArray} {r : ByteArray × Bool} (hm : m_ref11_Star a0 = some r) : Sf prog 160 [.d (.s a0)] (.tup [.d (.s r.1),.d (.t r.2)]) :=
 sp call160 func160 rfl ntmps160 rfl fun D0 As η0 m0 hd=> by
  unfold m_ref11_Star at hm
  obtain ⟨x1,q1,hm⟩:= oY0 hm
  refine gidxSG (fun h=> gu_t h q1) (by kernel_rfl) ?_
  obtain ⟨x2,q2,hm⟩:= oY0 hm
  refine gidxSG (fun h=> gu_t h q2) (by kernel_rfl) ?_
  obtain ⟨x3,q3,hm⟩:= oY0 hm
  refine gcutSG (fun h=> gu_t h q3) (by kernel_rfl) ?_
  obtain ⟨x4,q4,hm⟩:= oY0 hm
  refine gcG (fun h=> w_ref11_Name (gu_t h q4)) (by kernel_rfl) ?_
  refine gspl 28 hm (by kernel_rfl) (fun hc1 hm=> ?_) fun hc1 hm=> ?_
  ·skip
   refine gi' (b:= true) (by kernel_rfl) (fun _=> ?_) (fun h=> by cases h)
   have e0:= sI0 hm
   subst e0
   exact gend hd (by kernel_rfl)
  obtain ⟨x5,q5,hm⟩:= oY0 hm
  refine gcutS (fun _=> q5) (by kernel_rfl) ?_
  obtain ⟨x6,q6,hm⟩:= oY0 hm
  refine gco (w_ref11_cut q6) (by kernel_rfl) ?_
  refine gi hm (by kernel_rfl) (fun hc2 hm=> ?_) fun hc2 hm=> ?_
  ·skip
   have e0:= sI0 hm
   subst e0
   exact gend hd (by kernel_rfl)
  obtain ⟨x7,q7,hm⟩:= oY0 hm
  refine gcutS (fun _=> q7) (by kernel_rfl) ?_
  have e0:= sI0 hm
  subst e0
  exact gend hd (by kernel_rfl)
def m_ref11_Pattern (a0 : ByteArray) : Option Int :=
 obind (m_ref11_Star a0) fun x1 =>
 obind (gu (!x1.2) (m_ref11_Name a0)) fun x2 =>
 if ((!x1.2) && (!x2)) = true then
  some 110
 else
 some 0
theorem w_ref11_Pattern {a0 : ByteArray} {r : Int} (hm : m_ref11_Pattern a0 = some r) : Sf prog 124 [.d (.s a0)] (.d (.i r)) :=
 sp call124 func124 rfl ntmps124 rfl fun D0 As η0 m0 hd=> by
  unfold m_ref11_Pattern at hm
  obtain ⟨x1,q1,hm⟩:= oY0 hm
  refine gc (fun _=> w_ref11_Star q1) (by kernel_rfl) ?_
  obtain ⟨x2,q2,hm⟩:= oY0 hm
  refine gcG (fun h=> w_ref11_Name (gu_t h q2)) (by kernel_rfl) ?_
  refine gi hm (by kernel_rfl) (fun hc1 hm=> ?_) fun hc1 hm=> ?_
  ·skip
   have e0:= sI0 hm
   subst e0
   exact gend hd (by kernel_rfl)
  have e0:= sI0 hm
  subst e0
  exact gend hd (by kernel_rfl)
def m_ref18_kind_b2 (a0 : g_api_Cert) (s1 : Int) : Option ((Int) ⊕ ((Unit) ⊕ Bool)) :=
 if (decide (s1 < (a0.Names.length : Int))) = true then
  obind (idx a0.Names s1) fun x3 =>
  obind (m_ref11_Name x3) fun x4 =>
  if (!x4) = true then
   some (.inr (.inr false))
  else
  some (.inl (w64 (s1 + 1)))
 else
 some (.inr (.inl ()))
def m_ref18_kind_b3 (a0 : g_api_Cert) (s2 : Int) : Option ((Int) ⊕ ((Unit) ⊕ Bool)) :=
 if (decide (s2 < (a0.Permit.length : Int))) = true then
  obind (idx a0.Permit s2) fun x9 =>
  obind (m_ref11_Pattern x9) fun x10 =>
  if (x10 != 0) = true then
   some (.inr (.inr false))
  else
  some (.inl (w64 (s2 + 1)))
 else
 some (.inr (.inl ()))
def m_ref18_kind (a0 : g_api_Cert) : Option Bool :=
 if (!a0.Ca) = true then
  obind (iter (m_ref18_kind_b2 a0) FUEL 0) fun x1=> match x1 with
  | .inr r=> some r
  | .inl y1 =>
  obind (gu (((eqS a0.Subject (⟨#[]⟩ : ByteArray)) && (decide ((a0.Names.length : Int) ≥ 1))) && (decide ((a0.Names.length : Int) ≤ 8))) (m_ref18_unlike a0.Names)) fun x5 =>
  bnd (((((((eqS a0.Subject (⟨#[]⟩ : ByteArray)) && (decide ((a0.Names.length : Int) ≥ 1))) && (decide ((a0.Names.length : Int) ≤ 8))) && x5) && (a0.Depth == 0)) && ((a0.Permit.length : Int) == 0))) fun x6 =>
  some x6
 else
 obind (iter (m_ref18_kind_b3 a0) FUEL 0) fun x7=> match x7 with
 | .inr r=> some r
 | .inl y3 =>
 obind (m_ref18_Text a0.Subject) fun x11 =>
 obind (gu ((((x11 && ((a0.Names.length : Int) == 0)) && (decide (a0.Depth ≥ 0))) && (decide (a0.Depth ≤ 4))) && (decide ((a0.Permit.length : Int) ≤ 8))) (m_ref18_unlike a0.Permit)) fun x12 =>
 bnd ((((((x11 && ((a0.Names.length : Int) == 0)) && (decide (a0.Depth ≥ 0))) && (decide (a0.Depth ≤ 4))) && (decide ((a0.Permit.length : Int) ≤ 8))) && x12)) fun x13 =>
 some x13
theorem w_ref18_kind {a0 : g_api_Cert} {r : Bool} (hm : m_ref18_kind a0 = some r) : Sf prog 75 [ag (e_api_Cert a0)] (.d (.t r)) :=
 sp call75 func75 rfl ntmps75 rfl fun D0 As η0 m0 hd=> by
  unfold m_ref18_kind at hm
  refine gi hm (by kernel_rfl) (fun hc1 hm=> ?_) fun hc1 hm=> ?_
  ·skip
   obtain ⟨x1,q1,hm⟩:= oY0 hm
   refine gjU 0 (fun (y1 : Unit)=> ⟨[(1,.pb 0 0)],[(0,.box 0 [.d (.i a0.Serial),.d (.s a0.Issuer),.d (.s a0.Subject),.d (.u a0.Key),sl eS a0.Names,.d (.i a0.From),.d (.i a0.Until),.d (.t a0.Ca),.d (.i a0.Depth),sl eS a0.Permit,sl e_api_Promise a0.Proms,.d (.u a0.Sig.E),.d (.u a0.Sig.S)] 28)],[],1⟩) (fun y1=> x1 = .inl y1) (by kernel_rfl) (fun Jp bk1=> ?_) fun y1 hy=> ?_
   ·refine gl hd (fun (p : Nat × (Int))=> let (p0,p_0):= p; ⟨[(1,.pb 0 0),(3,.d (.i p_0))],[(0,.box 0 [.d (.i a0.Serial),.d (.s a0.Issuer),.d (.s a0.Subject),.d (.u a0.Key),sl eS a0.Names,.d (.i a0.From),.d (.i a0.Until),.d (.t a0.Ca),.d (.i a0.Depth),sl eS a0.Permit,sl e_api_Promise a0.Proms,.d (.u a0.Sig.E),.d (.u a0.Sig.S)] 28)],[],1⟩) (fun p=> iter (m_ref18_kind_b2 a0) p.1 p.2 = some x1) (fun p=> p.1) (FUEL,0) q1 (by kernel_rfl) ?_
    rintro ⟨n1,s1⟩ q2 Jl bl1
    cases n1 with
    | zero=> exact (iter_zero q2).elim
    | succ n1 =>
     obtain ⟨y2,q4,q3⟩:= iter_succ q2
     unfold m_ref18_kind_b2 at q4
     refine gi q4 (by kernel_rfl) (fun hc2 q4=> ?_) fun hc2 q4=> ?_
     ·skip
      obtain ⟨x3,q6,q4⟩:= oY0 q4
      refine gidx (k:= 1) (E:= eS) (fun _=> rfl) (fun _=> q6) (by kernel_rfl) ?_
      obtain ⟨x4,q7,q4⟩:= oY0 q4
      refine gc (fun _=> w_ref11_Name q7) (by kernel_rfl) ?_
      refine gi q4 (by kernel_rfl) (fun hc3 q4=> ?_) fun hc3 q4=> ?_
      ·skip
       cases q4
       rcases q3 with ⟨sn,e,_⟩ | e
       ·cases e
       cases e
       dsimp only at hm
       have e0:= sI0 hm
       subst e0
       exact gend hd (by kernel_rfl)
      have e0:= sI0 q4
      subst e0
      rcases q3 with ⟨sn,e,q3'⟩ | e
      ·have e:= Sum.inl.inj e
       subst e
       exact gb bl1 hd (n1,_) ⟨q3',Nat.lt_succ_self _⟩ (by kernel_rfl)
      cases sum_lr e
     have e0:= sI0 q4
     subst e0
     rcases q3 with ⟨sn,e,_⟩ | e
     ·cases sum_rl e
     have e:= Sum.inr.inj e
     subst e
     exact gb bk1 hd () rfl (by kernel_rfl)
   subst hy
   dsimp only at hm
   obtain ⟨x5,q8,hm⟩:= oY0 hm
   refine gcG (fun h=> w_ref18_unlike (gu_t h q8)) (by kernel_rfl) ?_
   have hm:= bnd_is hm
   let x6 : Bool:= (((((((eqS a0.Subject (⟨#[]⟩ : ByteArray)) && (decide ((a0.Names.length : Int) ≥ 1))) && (decide ((a0.Names.length : Int) ≤ 8))) && x5) && (a0.Depth == 0)) && ((a0.Permit.length : Int) == 0)))
   have e0:= sI0 hm
   subst e0
   exact gend hd (by kernel_rfl)
  obtain ⟨x7,q10,hm⟩:= oY0 hm
  refine gjU 2 (fun (y3 : Unit)=> ⟨[(1,.pb 0 0)],[(0,.box 0 [.d (.i a0.Serial),.d (.s a0.Issuer),.d (.s a0.Subject),.d (.u a0.Key),sl eS a0.Names,.d (.i a0.From),.d (.i a0.Until),.d (.t a0.Ca),.d (.i a0.Depth),sl eS a0.Permit,sl e_api_Promise a0.Proms,.d (.u a0.Sig.E),.d (.u a0.Sig.S)] 28)],[],1⟩) (fun y3=> x7 = .inl y3) (by kernel_rfl) (fun Jp bk2=> ?_) fun y3 hy=> ?_
  ·refine gl hd (fun (p : Nat × (Int))=> let (p0,p_0):= p; ⟨[(1,.pb 0 0),(4,.d (.i p_0))],[(0,.box 0 [.d (.i a0.Serial),.d (.s a0.Issuer),.d (.s a0.Subject),.d (.u a0.Key),sl eS a0.Names,.d (.i a0.From),.d (.i a0.Until),.d (.t a0.Ca),.d (.i a0.Depth),sl eS a0.Permit,sl e_api_Promise a0.Proms,.d (.u a0.Sig.E),.d (.u a0.Sig.S)] 28)],[],1⟩) (fun p=> iter (m_ref18_kind_b3 a0) p.1 p.2 = some x7) (fun p=> p.1) (FUEL,0) q10 (by kernel_rfl) ?_
   rintro ⟨n2,s2⟩ q11 Jl bl2
   cases n2 with
   | zero=> exact (iter_zero q11).elim
   | succ n2 =>
    obtain ⟨y4,q13,q12⟩:= iter_succ q11
    unfold m_ref18_kind_b3 at q13
    refine gi q13 (by kernel_rfl) (fun hc4 q13=> ?_) fun hc4 q13=> ?_
    ·skip
     obtain ⟨x9,q15,q13⟩:= oY0 q13
     refine gidx (k:= 1) (E:= eS) (fun _=> rfl) (fun _=> q15) (by kernel_rfl) ?_
     obtain ⟨x10,q16,q13⟩:= oY0 q13
     refine gc (fun _=> w_ref11_Pattern q16) (by kernel_rfl) ?_
     refine gi q13 (by kernel_rfl) (fun hc5 q13=> ?_) fun hc5 q13=> ?_
     ·skip
      cases q13
      rcases q12 with ⟨sn,e,_⟩ | e
      ·cases e
      cases e
      dsimp only at hm
      have e0:= sI0 hm
      subst e0
      exact gend hd (by kernel_rfl)
     have e0:= sI0 q13
     subst e0
     rcases q12 with ⟨sn,e,q12'⟩ | e
     ·have e:= Sum.inl.inj e
      subst e
      exact gb bl2 hd (n2,_) ⟨q12',Nat.lt_succ_self _⟩ (by kernel_rfl)
     cases sum_lr e
    have e0:= sI0 q13
    subst e0
    rcases q12 with ⟨sn,e,_⟩ | e
    ·cases sum_rl e
    have e:= Sum.inr.inj e
    subst e
    exact gb bk2 hd () rfl (by kernel_rfl)
  subst hy
  dsimp only at hm
  obtain ⟨x11,q17,hm⟩:= oY0 hm
  refine gc (fun _=> w_ref18_Text q17) (by kernel_rfl) ?_
  obtain ⟨x12,q18,hm⟩:= oY0 hm
  refine gcG (fun h=> w_ref18_unlike (gu_t h q18)) (by kernel_rfl) ?_
  have hm:= bnd_is hm
  let x13 : Bool:= ((((((x11 && ((a0.Names.length : Int) == 0)) && (decide (a0.Depth ≥ 0))) && (decide (a0.Depth ≤ 4))) && (decide ((a0.Permit.length : Int) ≤ 8))) && x12))
  have e0:= sI0 hm
  subst e0
  exact gend hd (by kernel_rfl)
def m_ref18_form_b2 (a0 : g_api_Cert) (s1 : Int) : Option ((Int) ⊕ ((Unit) ⊕ Bool)) :=
 if (decide (s1 < (a0.Proms.length : Int))) = true then
  obind (idx a0.Proms s1) fun x8 =>
  obind (m_ref18_PromMay x8) fun x9 =>
  obind (gu ((!(!x9)) && (decide (s1 > 0))) (idx a0.Proms (w64 (s1 - 1)))) fun x10 =>
  obind (gu ((!(!x9)) && (decide (s1 > 0))) (idx a0.Proms s1)) fun x11 =>
  if ((!x9) || ((decide (s1 > 0)) && (decide (x10.Log ≥ x11.Log)))) = true then
   some (.inr (.inr false))
  else
  some (.inl (w64 (s1 + 1)))
 else
 some (.inr (.inl ()))
def m_ref18_form (a0 : g_api_Cert) : Option Bool :=
 obind (m_ref18_num a0.Serial) fun x1 =>
 obind (gu (!(!x1)) (m_ref18_num a0.From)) fun x2 =>
 obind (gu (!((!x1) || (!x2))) (m_ref18_num a0.Until)) fun x3 =>
 obind (gu (!((((!x1) || (!x2)) || (!x3)) || (decide (a0.From ≥ a0.Until)))) (m_ref18_Text a0.Issuer)) fun x4 =>
 obind (gu (!((((((((!x1) || (!x2)) || (!x3)) || (decide (a0.From ≥ a0.Until))) || (!x4)) || (decide ((a0.Key.toNat : Int) < 1))) || (decide ((a0.Key.toNat : Int) ≥ 2305843009213691579))) || (decide ((a0.Proms.length : Int) > 4)))) (m_ref18_SigMay a0.Sig)) fun x5 =>
 if (((((((((!x1) || (!x2)) || (!x3)) || (decide (a0.From ≥ a0.Until))) || (!x4)) || (decide ((a0.Key.toNat : Int) < 1))) || (decide ((a0.Key.toNat : Int) ≥ 2305843009213691579))) || (decide ((a0.Proms.length : Int) > 4))) || (!x5)) = true then
  some false
 else
 obind (iter (m_ref18_form_b2 a0) FUEL 0) fun x6=> match x6 with
 | .inr r=> some r
 | .inl y1 =>
 obind (m_ref18_kind a0) fun x12 =>
 some x12
theorem w_ref18_form {a0 : g_api_Cert} {r : Bool} (hm : m_ref18_form a0 = some r) : Sf prog 40 [ag (e_api_Cert a0)] (.d (.t r)) :=
 sp call40 func40 rfl ntmps40 rfl fun D0 As η0 m0 hd=> by
  unfold m_ref18_form at hm
  obtain ⟨x1,q1,hm⟩:= oY0 hm
  refine gc (fun _=> w_ref18_num q1) (by kernel_rfl) ?_
  obtain ⟨x2,q2,hm⟩:= oY0 hm
  refine gcG (fun h=> w_ref18_num (gu_t h q2)) (by kernel_rfl) ?_
  obtain ⟨x3,q3,hm⟩:= oY0 hm
  refine gcG (fun h=> w_ref18_num (gu_t h q3)) (by kernel_rfl) ?_
  obtain ⟨x4,q4,hm⟩:= oY0 hm
  refine gcG (fun h=> w_ref18_Text (gu_t h q4)) (by kernel_rfl) ?_
  obtain ⟨x5,q5,hm⟩:= oY0 hm
  refine gcG (fun h=> w_ref18_SigMay (gu_t h q5)) (by kernel_rfl) ?_
  refine gi hm (by kernel_rfl) (fun hc1 hm=> ?_) fun hc1 hm=> ?_
  ·skip
   have e0:= sI0 hm
   subst e0
   exact gend hd (by kernel_rfl)
  obtain ⟨x6,q6,hm⟩:= oY0 hm
  refine gjU 0 (fun (y1 : Unit)=> ⟨[(1,.pb 0 0)],[(0,.box 0 [.d (.i a0.Serial),.d (.s a0.Issuer),.d (.s a0.Subject),.d (.u a0.Key),sl eS a0.Names,.d (.i a0.From),.d (.i a0.Until),.d (.t a0.Ca),.d (.i a0.Depth),sl eS a0.Permit,sl e_api_Promise a0.Proms,.d (.u a0.Sig.E),.d (.u a0.Sig.S)] 28)],[],1⟩) (fun y1=> x6 = .inl y1) (by kernel_rfl) (fun Jp bk1=> ?_) fun y1 hy=> ?_
  ·refine gl hd (fun (p : Nat × (Int))=> let (p0,p_0):= p; ⟨[(1,.pb 0 0),(3,.d (.i p_0))],[(0,.box 0 [.d (.i a0.Serial),.d (.s a0.Issuer),.d (.s a0.Subject),.d (.u a0.Key),sl eS a0.Names,.d (.i a0.From),.d (.i a0.Until),.d (.t a0.Ca),.d (.i a0.Depth),sl eS a0.Permit,sl e_api_Promise a0.Proms,.d (.u a0.Sig.E),.d (.u a0.Sig.S)] 28)],[],1⟩) (fun p=> iter (m_ref18_form_b2 a0) p.1 p.2 = some x6) (fun p=> p.1) (FUEL,0) q6 (by kernel_rfl) ?_
   rintro ⟨n1,s1⟩ q7 Jl bl1
   cases n1 with
   | zero=> exact (iter_zero q7).elim
   | succ n1 =>
    obtain ⟨y2,q9,q8⟩:= iter_succ q7
    unfold m_ref18_form_b2 at q9
    refine gi q9 (by kernel_rfl) (fun hc2 q9=> ?_) fun hc2 q9=> ?_
    ·skip
     obtain ⟨x8,q11,q9⟩:= oY0 q9
     refine gidx (k:= 6) (E:= e_api_Promise) (fun _=> rfl) (fun _=> q11) (by kernel_rfl) ?_
     obtain ⟨x9,q12,q9⟩:= oY0 q9
     refine gc (fun _=> w_ref18_PromMay q12) (by kernel_rfl) ?_
     obtain ⟨x10,q13,q9⟩:= oY0 q9
     refine gidxG (k:= 6) (E:= e_api_Promise) (fun _=> rfl) (fun h=> gu_t h q13) (by kernel_rfl) ?_
     obtain ⟨x11,q14,q9⟩:= oY0 q9
     refine gidxG (k:= 6) (E:= e_api_Promise) (fun _=> rfl) (fun h=> gu_t h q14) (by kernel_rfl) ?_
     refine gi q9 (by kernel_rfl) (fun hc3 q9=> ?_) fun hc3 q9=> ?_
     ·skip
      cases q9
      rcases q8 with ⟨sn,e,_⟩ | e
      ·cases e
      cases e
      dsimp only at hm
      have e0:= sI0 hm
      subst e0
      exact gend hd (by kernel_rfl)
     have e0:= sI0 q9
     subst e0
     rcases q8 with ⟨sn,e,q8'⟩ | e
     ·have e:= Sum.inl.inj e
      subst e
      exact gb bl1 hd (n1,_) ⟨q8',Nat.lt_succ_self _⟩ (by kernel_rfl)
     cases sum_lr e
    have e0:= sI0 q9
    subst e0
    rcases q8 with ⟨sn,e,_⟩ | e
    ·cases sum_rl e
    have e:= Sum.inr.inj e
    subst e
    exact gb bk1 hd () rfl (by kernel_rfl)
  subst hy
  dsimp only at hm
  obtain ⟨x12,q15,hm⟩:= oY0 hm
  refine gc (fun _=> w_ref18_kind q15) (by kernel_rfl) ?_
  have e0:= sI0 hm
  subst e0
  exact gend hd (by kernel_rfl)
def m_ref07_least (a0 : List UInt8) : Option Bool :=
 if ((decide ((a0.length : Int) < 1)) || (decide ((a0.length : Int) > 8))) = true then
  some false
 else
 obind (gu (!((a0.length : Int) == 1)) (idx a0 0)) fun x1 =>
 obind (gu ((!((a0.length : Int) == 1)) && ((x1.toNat : Int) == 0)) (idx a0 1)) fun x2 =>
 obind (gu ((!((a0.length : Int) == 1)) && (!(((x1.toNat : Int) == 0) && (decide ((x2.toNat : Int) < 128))))) (idx a0 0)) fun x3 =>
 obind (gu (((!((a0.length : Int) == 1)) && (!(((x1.toNat : Int) == 0) && (decide ((x2.toNat : Int) < 128))))) && ((x3.toNat : Int) == 255)) (idx a0 1)) fun x4 =>
 bnd ((((a0.length : Int) == 1) || ((!(((x1.toNat : Int) == 0) && (decide ((x2.toNat : Int) < 128)))) && (!(((x3.toNat : Int) == 255) && (decide ((x4.toNat : Int) ≥ 128))))))) fun x5 =>
 some x5
theorem w_ref07_least {a0 : List UInt8} {r : Bool} (hm : m_ref07_least a0 = some r) : Sf prog 161 [sl eB a0] (.d (.t r)) :=
 sp call161 func161 rfl ntmps161 rfl fun D0 As η0 m0 hd=> by
  unfold m_ref07_least at hm
  refine gi hm (by kernel_rfl) (fun hc1 hm=> ?_) fun hc1 hm=> ?_
  ·skip
   have e0:= sI0 hm
   subst e0
   exact gend hd (by kernel_rfl)
  obtain ⟨x1,q1,hm⟩:= oY0 hm
  refine gidxG (k:= 1) (E:= eB) (fun _=> rfl) (fun h=> gu_t h q1) (by kernel_rfl) ?_
  obtain ⟨x2,q2,hm⟩:= oY0 hm
  refine gidxG (k:= 1) (E:= eB) (fun _=> rfl) (fun h=> gu_t h q2) (by kernel_rfl) ?_
  obtain ⟨x3,q3,hm⟩:= oY0 hm
  refine gidxG (k:= 1) (E:= eB) (fun _=> rfl) (fun h=> gu_t h q3) (by kernel_rfl) ?_
  obtain ⟨x4,q4,hm⟩:= oY0 hm
  refine gidxG (k:= 1) (E:= eB) (fun _=> rfl) (fun h=> gu_t h q4) (by kernel_rfl) ?_
  have hm:= bnd_is hm
  let x5 : Bool:= ((((a0.length : Int) == 1) || ((!(((x1.toNat : Int) == 0) && (decide ((x2.toNat : Int) < 128)))) && (!(((x3.toNat : Int) == 255) && (decide ((x4.toNat : Int) ≥ 128)))))))
  have e0:= sI0 hm
  subst e0
  exact gend hd (by kernel_rfl)
def m_ref07_text_b1 (a0 : List UInt8) (s1 : Int) : Option ((Int) ⊕ ((Unit) ⊕ Bool)) :=
 if (decide (s1 < (a0.length : Int))) = true then
  obind (idx a0 s1) fun x3 =>
  obind (gu (!(decide ((x3.toNat : Int) < 32))) (idx a0 s1)) fun x4 =>
  if ((decide ((x3.toNat : Int) < 32)) || (decide ((x4.toNat : Int) > 126))) = true then
   some (.inr (.inr false))
  else
  some (.inl (w64 (s1 + 1)))
 else
 some (.inr (.inl ()))
def m_ref07_text (a0 : List UInt8) : Option Bool :=
 obind (iter (m_ref07_text_b1 a0) FUEL 0) fun x1=> match x1 with
 | .inr r=> some r
 | .inl y1 =>
 some true
theorem w_ref07_text {a0 : List UInt8} {r : Bool} (hm : m_ref07_text a0 = some r) : Sf prog 162 [sl eB a0] (.d (.t r)) :=
 sp call162 func162 rfl ntmps162 rfl fun D0 As η0 m0 hd=> by
  unfold m_ref07_text at hm
  obtain ⟨x1,q1,hm⟩:= oY0 hm
  refine gjU 0 (fun (y1 : Unit)=> ⟨[],[],[],0⟩) (fun y1=> x1 = .inl y1) (by kernel_rfl) (fun Jp bk1=> ?_) fun y1 hy=> ?_
  ·refine gl hd (fun (p : Nat × (Int))=> let (p0,p_0):= p; ⟨[(0,sl eB a0),(3,.d (.i p_0))],[],[],0⟩) (fun p=> iter (m_ref07_text_b1 a0) p.1 p.2 = some x1) (fun p=> p.1) (FUEL,0) q1 (by kernel_rfl) ?_
   rintro ⟨n1,s1⟩ q2 Jl bl1
   cases n1 with
   | zero=> exact (iter_zero q2).elim
   | succ n1 =>
    obtain ⟨y2,q4,q3⟩:= iter_succ q2
    unfold m_ref07_text_b1 at q4
    refine gi q4 (by kernel_rfl) (fun hc1 q4=> ?_) fun hc1 q4=> ?_
    ·skip
     obtain ⟨x3,q6,q4⟩:= oY0 q4
     refine gidx (k:= 1) (E:= eB) (fun _=> rfl) (fun _=> q6) (by kernel_rfl) ?_
     obtain ⟨x4,q7,q4⟩:= oY0 q4
     refine gidxG (k:= 1) (E:= eB) (fun _=> rfl) (fun h=> gu_t h q7) (by kernel_rfl) ?_
     refine gi q4 (by kernel_rfl) (fun hc2 q4=> ?_) fun hc2 q4=> ?_
     ·skip
      cases q4
      rcases q3 with ⟨sn,e,_⟩ | e
      ·cases e
      cases e
      dsimp only at hm
      have e0:= sI0 hm
      subst e0
      exact gend hd (by kernel_rfl)
     have e0:= sI0 q4
     subst e0
     rcases q3 with ⟨sn,e,q3'⟩ | e
     ·have e:= Sum.inl.inj e
      subst e
      exact gb bl1 hd (n1,_) ⟨q3',Nat.lt_succ_self _⟩ (by kernel_rfl)
     cases sum_lr e
    have e0:= sI0 q4
    subst e0
    rcases q3 with ⟨sn,e,_⟩ | e
    ·cases sum_rl e
    have e:= Sum.inr.inj e
    subst e
    exact gb bk1 hd () rfl (by kernel_rfl)
  subst hy
  dsimp only at hm
  have e0:= sI0 hm
  subst e0
  exact gend hd (by kernel_rfl)
def H_ref07_form (rF : g_api_Item → Option Bool) : Prop:= ∀ {a0 : g_api_Item} {r : Bool},rF a0 = some r → Sf prog 125 [ag (e_api_Item a0)] (.d (.t r))
def m_ref07_form_b2 (rF : g_api_Item → Option Bool) (a0 : g_api_Item) (s1 : Int) : Option ((Int) ⊕ ((Unit) ⊕ Bool)) :=
 if (decide (s1 < (a0.L.length : Int))) = true then
  obind (idx a0.L s1) fun x8 =>
  obind (rF x8) fun x9 =>
  if (!x9) = true then
   some (.inr (.inr false))
  else
  some (.inl (w64 (s1 + 1)))
 else
 some (.inr (.inl ()))
def m_ref07_form_r (rF : g_api_Item → Option Bool) (a0 : g_api_Item) : Option Bool :=
 if ((a0.Tag != 48) && (decide ((a0.L.length : Int) > 0))) = true then
  some false
 else
 if (a0.Tag == 1) = true then
  obind (gu ((a0.B.length : Int) == 1) (idx a0.B 0)) fun x1 =>
  obind (gu (((a0.B.length : Int) == 1) && (!((x1.toNat : Int) == 0))) (idx a0.B 0)) fun x2 =>
  bnd ((((a0.B.length : Int) == 1) && (((x1.toNat : Int) == 0) || ((x2.toNat : Int) == 255)))) fun x3 =>
  some x3
 else
 if (a0.Tag == 2) = true then
  obind (m_ref07_least a0.B) fun x4 =>
  some x4
 else
 if (a0.Tag == 4) = true then
  some true
 else
 if (a0.Tag == 12) = true then
  obind (m_ref07_text a0.B) fun x5 =>
  some x5
 else
 if (a0.Tag == 48) = true then
  obind (iter ((m_ref07_form_b2 rF) a0) FUEL 0) fun x6=> match x6 with
  | .inr r=> some r
  | .inl y1 =>
  some ((a0.B.length : Int) == 0)
 else
 some false
theorem w_ref07_form_r {rF : g_api_Item → Option Bool} (hF : H_ref07_form rF) {a0 : g_api_Item} {r : Bool} (hm : m_ref07_form_r rF a0 = some r) : Sf prog 125 [ag (e_api_Item a0)] (.d (.t r)) :=
 sp call125 func125 rfl ntmps125 rfl fun D0 As η0 m0 hd=> by
  unfold m_ref07_form_r at hm
  refine gi hm (by kernel_rfl) (fun hc1 hm=> ?_) fun hc1 hm=> ?_
  ·skip
   have e0:= sI0 hm
   subst e0
   exact gend hd (by kernel_rfl)
  refine gi hm (by kernel_rfl) (fun hc2 hm=> ?_) fun hc2 hm=> ?_
  ·skip
   obtain ⟨x1,q1,hm⟩:= oY0 hm
   refine gidxG (k:= 1) (E:= eB) (fun _=> rfl) (fun h=> gu_t h q1) (by kernel_rfl) ?_
   obtain ⟨x2,q2,hm⟩:= oY0 hm
   refine gidxG (k:= 1) (E:= eB) (fun _=> rfl) (fun h=> gu_t h q2) (by kernel_rfl) ?_
   have hm:= bnd_is hm
   let x3 : Bool:= ((((a0.B.length : Int) == 1) && (((x1.toNat : Int) == 0) || ((x2.toNat : Int) == 255))))
   have e0:= sI0 hm
   subst e0
   exact gend hd (by kernel_rfl)
  refine gi hm (by kernel_rfl) (fun hc3 hm=> ?_) fun hc3 hm=> ?_
  ·skip
   obtain ⟨x4,q4,hm⟩:= oY0 hm
   refine gc (fun _=> w_ref07_least q4) (by kernel_rfl) ?_
   have e0:= sI0 hm
   subst e0
   exact gend hd (by kernel_rfl)
  refine gi hm (by kernel_rfl) (fun hc4 hm=> ?_) fun hc4 hm=> ?_
  ·skip
   have e0:= sI0 hm
   subst e0
   exact gend hd (by kernel_rfl)
  refine gi hm (by kernel_rfl) (fun hc5 hm=> ?_) fun hc5 hm=> ?_
  ·skip
   obtain ⟨x5,q5,hm⟩:= oY0 hm
   refine gc (fun _=> w_ref07_text q5) (by kernel_rfl) ?_
   have e0:= sI0 hm
   subst e0
   exact gend hd (by kernel_rfl)
  refine gi hm (by kernel_rfl) (fun hc6 hm=> ?_) fun hc6 hm=> ?_
  ·skip
   obtain ⟨x6,q6,hm⟩:= oY0 hm
   refine gjU 1 (fun (y1 : Unit)=> ⟨[(1,.pb 0 0)],[(0,.box 0 [.d (.i a0.Tag),sl eB a0.B,sl e_api_Item a0.L] 56)],[],1⟩) (fun y1=> x6 = .inl y1) (by kernel_rfl) (fun Jp bk1=> ?_) fun y1 hy=> ?_
   ·refine gl hd (fun (p : Nat × (Int))=> let (p0,p_0):= p; ⟨[(1,.pb 0 0),(3,.d (.i p_0))],[(0,.box 0 [.d (.i a0.Tag),sl eB a0.B,sl e_api_Item a0.L] 56)],[],1⟩) (fun p=> iter ((m_ref07_form_b2 rF) a0) p.1 p.2 = some x6) (fun p=> p.1) (FUEL,0) q6 (by kernel_rfl) ?_
    rintro ⟨n1,s1⟩ q7 Jl bl1
    cases n1 with
    | zero=> exact (iter_zero q7).elim
    | succ n1 =>
     obtain ⟨y2,q9,q8⟩:= iter_succ q7
     unfold m_ref07_form_b2 at q9
     refine gi q9 (by kernel_rfl) (fun hc7 q9=> ?_) fun hc7 q9=> ?_
     ·skip
      obtain ⟨x8,q11,q9⟩:= oY0 q9
      refine gidx (k:= 3) (E:= e_api_Item) (fun _=> rfl) (fun _=> q11) (by kernel_rfl) ?_
      obtain ⟨x9,q12,q9⟩:= oY0 q9
      refine gc (fun _=> hF q12) (by kernel_rfl) ?_
      refine gi q9 (by kernel_rfl) (fun hc8 q9=> ?_) fun hc8 q9=> ?_
      ·skip
       cases q9
       rcases q8 with ⟨sn,e,_⟩ | e
       ·cases e
       cases e
       dsimp only at hm
       have e0:= sI0 hm
       subst e0
       exact gend hd (by kernel_rfl)
      have e0:= sI0 q9
      subst e0
      rcases q8 with ⟨sn,e,q8'⟩ | e
      ·have e:= Sum.inl.inj e
       subst e
       exact gb bl1 hd (n1,_) ⟨q8',Nat.lt_succ_self _⟩ (by kernel_rfl)
      cases sum_lr e
     have e0:= sI0 q9
     subst e0
     rcases q8 with ⟨sn,e,_⟩ | e
     ·cases sum_rl e
     have e:= Sum.inr.inj e
     subst e
     exact gb bk1 hd () rfl (by kernel_rfl)
   subst hy
   dsimp only at hm
   have e0:= sI0 hm
   subst e0
   exact gend hd (by kernel_rfl)
  have e0:= sI0 hm
  subst e0
  exact gend hd (by kernel_rfl)
def r_ref07_form : Nat → g_api_Item → Option Bool
 | 0,_=> none
 | n + 1,a0=> m_ref07_form_r (r_ref07_form n) a0
def m_ref07_form (a0 : g_api_Item) : Option Bool:= r_ref07_form FUEL a0
theorem wr_ref07_form : ∀ n,H_ref07_form (r_ref07_form n)
 | 0=> fun hm=> by cases hm
 | n + 1=> fun hm=> w_ref07_form_r (wr_ref07_form n) hm
theorem w_ref07_form {a0 : g_api_Item} {r : Bool} (hm : m_ref07_form a0 = some r) : Sf prog 125 [ag (e_api_Item a0)] (.d (.t r)):= wr_ref07_form FUEL hm
def H_ref07_Deep (rF : g_api_Item → Option Int) : Prop:= ∀ {a0 : g_api_Item} {r : Int},rF a0 = some r → Sf prog 126 [ag (e_api_Item a0)] (.d (.i r))
def m_ref07_Deep_b2 (rF : g_api_Item → Option Int) (a0 : g_api_Item) (s1 : Int × Int) : Option ((Int × Int) ⊕ (Int)) :=
 if (decide (s1.2 < (a0.L.length : Int))) = true then
  obind (idx a0.L s1.2) fun x4 =>
  obind (rF x4) fun x5 =>
  some (.inl ((maxI s1.1 x5),(w64 (s1.2 + 1))))
 else
 some (.inr s1.1)
def m_ref07_Deep_r (rF : g_api_Item → Option Int) (a0 : g_api_Item) : Option Int :=
 obind (
  obind (iter ((m_ref07_Deep_b2 rF) a0) FUEL (0,0)) fun x2 =>
  some x2
 ) fun x1 =>
 some (w64 (x1 + 1))
theorem w_ref07_Deep_r {rF : g_api_Item → Option Int} (hF : H_ref07_Deep rF) {a0 : g_api_Item} {r : Int} (hm : m_ref07_Deep_r rF a0 = some r) : Sf prog 126 [ag (e_api_Item a0)] (.d (.i r)) :=
 sp call126 func126 rfl ntmps126 rfl fun D0 As η0 m0 hd=> by
  unfold m_ref07_Deep_r at hm
  obtain ⟨x1,q1,hm⟩:= oY0 hm
  obtain ⟨x2,q2,q1⟩:= oY0 q1
  refine gjU 0 (fun (_ : Unit)=> ⟨[(3,.d (.i x1)),(1,.pb 0 0)],[(0,.box 0 [.d (.i a0.Tag),sl eB a0.B,sl e_api_Item a0.L] 56)],[],1⟩) (fun _=> True) (by kernel_rfl) (fun Jp bk1=> ?_) fun _ _=> ?_
  ·refine gjU 0 (fun (_ : Unit)=> ⟨[(3,.d (.i x2)),(1,.pb 0 0)],[(0,.box 0 [.d (.i a0.Tag),sl eB a0.B,sl e_api_Item a0.L] 56)],[],1⟩) (fun _=> True) (by kernel_rfl) (fun Jp bk2=> ?_) fun _ _=> ?_
   ·refine gl hd (fun (p : Nat × (Int × Int))=> let (p0,p_0,p_1):= p; ⟨[(1,.pb 0 0),(3,.d (.i p_0)),(4,.d (.i p_1))],[(0,.box 0 [.d (.i a0.Tag),sl eB a0.B,sl e_api_Item a0.L] 56)],[],1⟩) (fun p=> iter ((m_ref07_Deep_b2 rF) a0) p.1 p.2 = some x2) (fun p=> p.1) (FUEL,(0,0)) q2 (by kernel_rfl) ?_
    rintro ⟨n1,s1⟩ q3 Jl bl1
    cases n1 with
    | zero=> exact (iter_zero q3).elim
    | succ n1 =>
     obtain ⟨y1,q5,q4⟩:= iter_succ q3
     unfold m_ref07_Deep_b2 at q5
     refine gi q5 (by kernel_rfl) (fun hc1 q5=> ?_) fun hc1 q5=> ?_
     ·skip
      obtain ⟨x4,q7,q5⟩:= oY0 q5
      refine gidx (k:= 3) (E:= e_api_Item) (fun _=> rfl) (fun _=> q7) (by kernel_rfl) ?_
      obtain ⟨x5,q8,q5⟩:= oY0 q5
      refine gc (fun _=> hF q8) (by kernel_rfl) ?_
      have e0:= sI0 q5
      subst e0
      rcases q4 with ⟨sn,e,q4'⟩ | e
      ·have e:= Sum.inl.inj e
       subst e
       exact gb bl1 hd (n1,_) ⟨q4',Nat.lt_succ_self _⟩ (by kernel_rfl)
      cases sum_lr e
     have e0:= sI0 q5
     subst e0
     rcases q4 with ⟨sn,e,_⟩ | e
     ·cases sum_rl e
     have e:= Sum.inr.inj e
     subst e
     exact gb bk2 hd () trivial (by kernel_rfl)
   have e0:= sI0 q1
   subst e0
   exact gb bk1 hd () trivial (by kernel_rfl)
  have e0:= sI0 hm
  subst e0
  exact gend hd (by kernel_rfl)
def r_ref07_Deep : Nat → g_api_Item → Option Int
 | 0,_=> none
 | n + 1,a0=> m_ref07_Deep_r (r_ref07_Deep n) a0
def m_ref07_Deep (a0 : g_api_Item) : Option Int:= r_ref07_Deep FUEL a0
theorem wr_ref07_Deep : ∀ n,H_ref07_Deep (r_ref07_Deep n)
 | 0=> fun hm=> by cases hm
 | n + 1=> fun hm=> w_ref07_Deep_r (wr_ref07_Deep n) hm
theorem w_ref07_Deep {a0 : g_api_Item} {r : Int} (hm : m_ref07_Deep a0 = some r) : Sf prog 126 [ag (e_api_Item a0)] (.d (.i r)):= wr_ref07_Deep FUEL hm
def m_ref07_May (a0 : g_api_Item) : Option Bool :=
 obind (m_ref07_form a0) fun x1 =>
 obind (gu x1 (m_ref07_Deep a0)) fun x2 =>
 some (x1 && (decide (x2 ≤ 8)))
theorem w_ref07_May {a0 : g_api_Item} {r : Bool} (hm : m_ref07_May a0 = some r) : Sf prog 76 [ag (e_api_Item a0)] (.d (.t r)) :=
 sp call76 func76 rfl ntmps76 rfl fun D0 As η0 m0 hd=> by
  unfold m_ref07_May at hm
  obtain ⟨x1,q1,hm⟩:= oY0 hm
  refine gc (fun _=> w_ref07_form q1) (by kernel_rfl) ?_
  obtain ⟨x2,q2,hm⟩:= oY0 hm
  refine gcG (fun h=> w_ref07_Deep (gu_t h q2)) (by kernel_rfl) ?_
  have e0:= sI0 hm
  subst e0
  exact gend hd (by kernel_rfl)
def m_ref07_length (a0 : Int) : Option (List UInt8) :=
 if (decide (a0 < 128)) = true then
  some ([(toB a0)] : List UInt8)
 else
 if (decide (a0 < 256)) = true then
  some ([129,(toB a0)] : List UInt8)
 else
 bnd (w64 (Int.tdiv a0 256)) fun x1 =>
 some ([130,(toB x1),(toB a0)] : List UInt8)
theorem w_ref07_length {a0 : Int} {r : List UInt8} (hm : m_ref07_length a0 = some r) : Sp prog 127 [.d (.i a0)] [] 0 (is (.ow 0) [.row 0 1 _ eB r] 1) :=
 sp call127 func127 rfl ntmps127 rfl fun D0 As η0 m0 hd=> by
  unfold m_ref07_length at hm
  refine gi hm (by kernel_rfl) (fun hc1 hm=> ?_) fun hc1 hm=> ?_
  ·skip
   refine glit (k:= 1) eB ([(toB a0)] : List UInt8) (fun _=> rfl) (by kernel_rfl) ?_
   have e0:= sI0 hm
   subst e0
   exact gend hd (by kernel_rfl)
  refine gi hm (by kernel_rfl) (fun hc2 hm=> ?_) fun hc2 hm=> ?_
  ·skip
   refine glit (k:= 1) eB ([129,(toB a0)] : List UInt8) (fun _=> rfl) (by kernel_rfl) ?_
   have e0:= sI0 hm
   subst e0
   exact gend hd (by kernel_rfl)
  have hm:= bnd_is hm
  let x1 : Int:= (w64 (Int.tdiv a0 256))
  refine glit (k:= 1) eB ([130,(toB x1),(toB a0)] : List UInt8) (fun _=> rfl) (by kernel_rfl) ?_
  have e0:= sI0 hm
  subst e0
  exact gend hd (by kernel_rfl)
def H_ref07_bytes (rF : g_api_Item → Option (List UInt8)) : Prop:= ∀ {a0 : g_api_Item} {r : List UInt8},rF a0 = some r → Sp prog 77 [ag (e_api_Item a0)] [] 0 (is (.ow 0) [.row 0 1 _ eB r] 1)
def m_ref07_bytes_b2 (rF : g_api_Item → Option (List UInt8)) (a0 : g_api_Item) (s1 : (List UInt8) × Int) : Option (((List UInt8) × Int) ⊕ ((List UInt8))) :=
 if (decide (s1.2 < (a0.L.length : Int))) = true then
  obind (idx a0.L s1.2) fun x5 =>
  obind (rF x5) fun x6 =>
  obind (app 1 s1.1 x6) fun x7 =>
  some (.inl (x7,(w64 (s1.2 + 1))))
 else
 some (.inr s1.1)
def m_ref07_bytes_r (rF : g_api_Item → Option (List UInt8)) (a0 : g_api_Item) : Option (List UInt8) :=
 obind (app 1 ([] : List UInt8) a0.B) fun x1 =>
 obind (
  obind (iter ((m_ref07_bytes_b2 rF) a0) FUEL (x1,0)) fun x3 =>
  some x3
 ) fun x2 =>
 obind (m_ref07_length (x2.length : Int)) fun x8 =>
 obind (app 1 ([(toB a0.Tag)] : List UInt8) x8) fun x9 =>
 obind (app 1 x9 x2) fun x10 =>
 some x10
theorem w_ref07_bytes_r {rF : g_api_Item → Option (List UInt8)} (hF : H_ref07_bytes rF) {a0 : g_api_Item} {r : List UInt8} (hm : m_ref07_bytes_r rF a0 = some r) : Sp prog 77 [ag (e_api_Item a0)] [] 0 (is (.ow 0) [.row 0 1 _ eB r] 1) :=
 sp call77 func77 rfl ntmps77 rfl fun D0 As η0 m0 hd=> by
  unfold m_ref07_bytes_r at hm
  refine glit (k:= 1) eB ([] : List UInt8) (fun _=> rfl) (by kernel_rfl) ?_
  obtain ⟨x1,q1,hm⟩:= oY0 hm
  refine gapp (k:= 1) (E:= eB) (fun _=> rfl) q1 (by kernel_rfl) ?_
  obtain ⟨x2,q2,hm⟩:= oY0 hm
  obtain ⟨x3,q3,q2⟩:= oY0 q2
  refine gjU 0 (fun (_ : Unit)=> ⟨[(1,.pb 0 0),(3,.ow 1)],[(0,.row 1 1 _ eB x2),(1,.box 0 [.d (.i a0.Tag),sl eB a0.B,sl e_api_Item a0.L] 56)],[],2⟩) (fun _=> True) (by kernel_rfl) (fun Jp bk1=> ?_) fun _ _=> ?_
  ·refine gjU 0 (fun (_ : Unit)=> ⟨[(1,.pb 0 0),(3,.ow 1)],[(0,.row 1 1 _ eB x3),(1,.box 0 [.d (.i a0.Tag),sl eB a0.B,sl e_api_Item a0.L] 56)],[],2⟩) (fun _=> True) (by kernel_rfl) (fun Jp bk2=> ?_) fun _ _=> ?_
   ·refine gl hd (fun (p : Nat × ((List UInt8) × Int))=> let (p0,p_0,p_1):= p; ⟨[(1,.pb 0 0),(3,.ow 1),(4,.d (.i p_1))],[(0,.row 1 1 _ eB p_0),(1,.box 0 [.d (.i a0.Tag),sl eB a0.B,sl e_api_Item a0.L] 56)],[],2⟩) (fun p=> iter ((m_ref07_bytes_b2 rF) a0) p.1 p.2 = some x3) (fun p=> p.1) (FUEL,(x1,0)) q3 (by kernel_rfl) ?_
    rintro ⟨n1,s1⟩ q4 Jl bl1
    cases n1 with
    | zero=> exact (iter_zero q4).elim
    | succ n1 =>
     obtain ⟨y1,q6,q5⟩:= iter_succ q4
     unfold m_ref07_bytes_b2 at q6
     refine gi q6 (by kernel_rfl) (fun hc1 q6=> ?_) fun hc1 q6=> ?_
     ·skip
      obtain ⟨x5,q8,q6⟩:= oY0 q6
      refine gidx (k:= 3) (E:= e_api_Item) (fun _=> rfl) (fun _=> q8) (by kernel_rfl) ?_
      obtain ⟨x6,q9,q6⟩:= oY0 q6
      refine gco (hF q9) (by kernel_rfl) ?_
      obtain ⟨x7,q10,q6⟩:= oY0 q6
      refine gapp (k:= 1) (E:= eB) (fun _=> rfl) q10 (by kernel_rfl) ?_
      have e0:= sI0 q6
      subst e0
      rcases q5 with ⟨sn,e,q5'⟩ | e
      ·have e:= Sum.inl.inj e
       subst e
       exact gb bl1 hd (n1,_) ⟨q5',Nat.lt_succ_self _⟩ (by kernel_rfl)
      cases sum_lr e
     have e0:= sI0 q6
     subst e0
     rcases q5 with ⟨sn,e,_⟩ | e
     ·cases sum_rl e
     have e:= Sum.inr.inj e
     subst e
     exact gb bk2 hd () trivial (by kernel_rfl)
   have e0:= sI0 q2
   subst e0
   exact gb bk1 hd () trivial (by kernel_rfl)
  refine glit (k:= 1) eB ([(toB a0.Tag)] : List UInt8) (fun _=> rfl) (by kernel_rfl) ?_
  obtain ⟨x8,q11,hm⟩:= oY0 hm
  refine gco (w_ref07_length q11) (by kernel_rfl) ?_
  obtain ⟨x9,q12,hm⟩:= oY0 hm
  refine gapp (k:= 1) (E:= eB) (fun _=> rfl) q12 (by kernel_rfl) ?_
  obtain ⟨x10,q13,hm⟩:= oY0 hm
  refine gapp (k:= 1) (E:= eB) (fun _=> rfl) q13 (by kernel_rfl) ?_
  have e0:= sI0 hm
  subst e0
  exact gend hd (by kernel_rfl)
def r_ref07_bytes : Nat → g_api_Item → Option (List UInt8)
 | 0,_=> none
 | n + 1,a0=> m_ref07_bytes_r (r_ref07_bytes n) a0
def m_ref07_bytes (a0 : g_api_Item) : Option (List UInt8):= r_ref07_bytes FUEL a0
theorem wr_ref07_bytes : ∀ n,H_ref07_bytes (r_ref07_bytes n)
 | 0=> fun hm=> by cases hm
 | n + 1=> fun hm=> w_ref07_bytes_r (wr_ref07_bytes n) hm
theorem w_ref07_bytes {a0 : g_api_Item} {r : List UInt8} (hm : m_ref07_bytes a0 = some r) : Sp prog 77 [ag (e_api_Item a0)] [] 0 (is (.ow 0) [.row 0 1 _ eB r] 1):= wr_ref07_bytes FUEL hm
def m_ref07_Put (a0 : g_api_Item) : Option ((List UInt8) × Int) :=
 obind (m_ref07_May a0) fun x1 =>
 if (!x1) = true then
  some (([] : List UInt8),1)
 else
 obind (m_ref07_bytes a0) fun x2 =>
 if (decide ((x2.length : Int) > 8192)) = true then
  some (([] : List UInt8),2)
 else
 some (x2,0)
theorem w_ref07_Put {a0 : g_api_Item} {r : (List UInt8) × Int} (hm : m_ref07_Put a0 = some r) : Sp prog 41 [ag (e_api_Item a0)] [] 0 (is (.tup [.ow 0,.d (.i r.2)]) [.row 0 1 _ eB r.1] 1) :=
 sp call41 func41 rfl ntmps41 rfl fun D0 As η0 m0 hd=> by
  unfold m_ref07_Put at hm
  obtain ⟨x1,q1,hm⟩:= oY0 hm
  refine gc (fun _=> w_ref07_May q1) (by kernel_rfl) ?_
  refine gi hm (by kernel_rfl) (fun hc1 hm=> ?_) fun hc1 hm=> ?_
  ·skip
   refine gnil eB 2 1 (by kernel_rfl) ?_
   have e0:= sI0 hm
   subst e0
   exact gend hd (by kernel_rfl)
  obtain ⟨x2,q2,hm⟩:= oY0 hm
  refine gco (w_ref07_bytes q2) (by kernel_rfl) ?_
  refine gi hm (by kernel_rfl) (fun hc2 hm=> ?_) fun hc2 hm=> ?_
  ·skip
   refine gnil eB 2 1 (by kernel_rfl) ?_
   have e0:= sI0 hm
   subst e0
   exact gend hd (by kernel_rfl)
  have e0:= sI0 hm
  subst e0
  exact gend hd (by kernel_rfl)
def m_ref07_Seq (a0 : List g_api_Item) : Option g_api_Item :=
 obind (app 56 ([] : List g_api_Item) a0) fun x1 =>
 some (⟨48,[],x1⟩ : g_api_Item)
theorem w_ref07_Seq {a0 : List g_api_Item} {r : g_api_Item} (hm : m_ref07_Seq a0 = some r) : Sf prog 78 [sl e_api_Item a0] (ag (e_api_Item r)) :=
 sp call78 func78 rfl ntmps78 rfl fun D0 As η0 m0 hd=> by
  unfold m_ref07_Seq at hm
  refine glit (k:= 3) e_api_Item ([] : List g_api_Item) (fun _=> rfl) (by kernel_rfl) ?_
  obtain ⟨x1,q1,hm⟩:= oY0 hm
  refine gapp (k:= 3) (E:= e_api_Item) (fun _=> rfl) q1 (by kernel_rfl) ?_
  have e0:= sI0 hm
  subst e0
  exact gend hd (by kernel_rfl)
def m_ref07_Int_b2  (s1 : (List UInt8) × Int) : Option (((List UInt8) × Int) ⊕ ((List UInt8))) :=
 obind (gu (s1.2 == 0) (idx s1.1 0)) fun x4 =>
 obind (gu ((!((s1.2 == 0) && (decide ((x4.toNat : Int) < 128)))) && (s1.2 == (-1))) (idx s1.1 0)) fun x5 =>
 if ((!((s1.2 == 0) && (decide ((x4.toNat : Int) < 128)))) && (!((s1.2 == (-1)) && (decide ((x5.toNat : Int) ≥ 128))))) = true then
  obind (app 1 ([(toB s1.2)] : List UInt8) s1.1) fun x6 =>
  some (.inl (x6,(shr64 s1.2 8)))
 else
 some (.inr s1.1)
def m_ref07_Int (a0 : Int) : Option g_api_Item :=
 obind (
  obind (iter m_ref07_Int_b2 FUEL (([(toB a0)] : List UInt8),(shr64 a0 8))) fun x2 =>
  some x2
 ) fun x1 =>
 some (⟨2,x1,[]⟩ : g_api_Item)
theorem w_ref07_Int {a0 : Int} {r : g_api_Item} (hm : m_ref07_Int a0 = some r) : Sf prog 84 [.d (.i a0)] (ag (e_api_Item r)) :=
 sp call84 func84 rfl ntmps84 rfl fun D0 As η0 m0 hd=> by
  unfold m_ref07_Int at hm
  refine glitF (k:= 1) eB ([(toB a0)] : List UInt8) (fun _=> rfl) (by kernel_rfl) ?_
  obtain ⟨x1,q1,hm⟩:= oY0 hm
  obtain ⟨x2,q2,q1⟩:= oY0 q1
  refine gjU 0 (fun (_ : Unit)=> ⟨[(2,.pb 0 0),(3,sl eB x1)],[(0,.box 0 [.d (.i 0),sl eB [],sl e_api_Item []] 56)],[],1⟩) (fun _=> True) (by kernel_rfl) (fun Jp bk1=> ?_) fun _ _=> ?_
  ·refine gjU 0 (fun (_ : Unit)=> ⟨[(2,.pb 0 0),(3,sl eB x2)],[(0,.box 0 [.d (.i 0),sl eB [],sl e_api_Item []] 56)],[],1⟩) (fun _=> True) (by kernel_rfl) (fun Jp bk2=> ?_) fun _ _=> ?_
   ·refine gl hd (fun (p : Nat × ((List UInt8) × Int))=> let (p0,p_0,p_1):= p; ⟨[(2,.pb 0 0),(3,sl eB p_0),(4,.d (.i p_1))],[(0,.box 0 [.d (.i 0),sl eB [],sl e_api_Item []] 56)],[],1⟩) (fun p=> iter m_ref07_Int_b2 p.1 p.2 = some x2) (fun p=> p.1) (FUEL,(([(toB a0)] : List UInt8),(shr64 a0 8))) q2 (by kernel_rfl) ?_
    rintro ⟨n1,s1⟩ q3 Jl bl1
    cases n1 with
    | zero=> exact (iter_zero q3).elim
    | succ n1 =>
     obtain ⟨y1,q5,q4⟩:= iter_succ q3
     unfold m_ref07_Int_b2 at q5
     obtain ⟨x4,q7,q5⟩:= oY0 q5
     refine gidxG (k:= 1) (E:= eB) (fun _=> rfl) (fun h=> gu_t h q7) (by kernel_rfl) ?_
     obtain ⟨x5,q8,q5⟩:= oY0 q5
     refine gidxG (k:= 1) (E:= eB) (fun _=> rfl) (fun h=> gu_t h q8) (by kernel_rfl) ?_
     refine gi q5 (by kernel_rfl) (fun hc1 q5=> ?_) fun hc1 q5=> ?_
     ·skip
      refine glit (k:= 1) eB ([(toB s1.2)] : List UInt8) (fun _=> rfl) (by kernel_rfl) ?_
      obtain ⟨x6,q9,q5⟩:= oY0 q5
      refine gapp (k:= 1) (E:= eB) (fun _=> rfl) q9 (by kernel_rfl) ?_
      have e0:= sI0 q5
      subst e0
      rcases q4 with ⟨sn,e,q4'⟩ | e
      ·have e:= Sum.inl.inj e
       subst e
       exact gb bl1 hd (n1,_) ⟨q4',Nat.lt_succ_self _⟩ (by kernel_rfl)
      cases sum_lr e
     have e0:= sI0 q5
     subst e0
     rcases q4 with ⟨sn,e,_⟩ | e
     ·cases sum_rl e
     have e:= Sum.inr.inj e
     subst e
     exact gb bk2 hd () trivial (by kernel_rfl)
   have e0:= sI0 q1
   subst e0
   exact gb bk1 hd () trivial (by kernel_rfl)
  have e0:= sI0 hm
  subst e0
  exact gend hd (by kernel_rfl)
def m_ref07_Text (a0 : ByteArray) : Option g_api_Item :=
 obind (app 1 ([] : List UInt8) a0.data.toList) fun x1 =>
 some (⟨12,x1,[]⟩ : g_api_Item)
theorem w_ref07_Text {a0 : ByteArray} {r : g_api_Item} (hm : m_ref07_Text a0 = some r) : Sf prog 85 [.d (.s a0)] (ag (e_api_Item r)) :=
 sp call85 func85 rfl ntmps85 rfl fun D0 As η0 m0 hd=> by
  unfold m_ref07_Text at hm
  obtain ⟨x1,q1,hm⟩:= oY0 hm
  refine gofS q1 (by kernel_rfl) ?_
  have e0:= sI0 hm
  subst e0
  exact gend hd (by kernel_rfl)
def m_ref18_texts_b3 (a0 : List ByteArray) (s1 : Int × (List g_api_Item)) : Option ((Int × (List g_api_Item)) ⊕ ((List g_api_Item))) :=
 if (decide (s1.1 < (a0.length : Int))) = true then
  obind (idx a0 s1.1) fun x4 =>
  obind (m_ref07_Text x4) fun x5 =>
  obind (app 56 s1.2 ([x5] : List g_api_Item)) fun x6 =>
  some (.inl ((w64 (s1.1 + 1)),x6))
 else
 some (.inr s1.2)
def m_ref18_texts (a0 : List ByteArray) : Option g_api_Item :=
 obind (
  obind (iter (m_ref18_texts_b3 a0) FUEL (0,([] : List g_api_Item))) fun x2 =>
  some x2
 ) fun x1 =>
 some (⟨48,[],x1⟩ : g_api_Item)
theorem w_ref18_texts {a0 : List ByteArray} {r : g_api_Item} (hm : m_ref18_texts a0 = some r) : Sf prog 86 [sl eS a0] (ag (e_api_Item r)) :=
 sp call86 func86 rfl ntmps86 rfl fun D0 As η0 m0 hd=> by
  unfold m_ref18_texts at hm
  obtain ⟨x1,q1,hm⟩:= oY0 hm
  obtain ⟨x2,q2,q1⟩:= oY0 q1
  refine gnilBU 0 e_api_Item 3 2 3 (by kernel_rfl) ?_
  refine gjU 0 (fun (_ : Unit)=> ⟨[(2,.pb 0 0),(3,.pb 1 0)],[(0,.row 2 3 _ e_api_Item x1),(1,.box 1 [.d (.i 48),sl eB [],.ow 2] 56),(2,.box 0 [.d (.i 0),sl eB [],sl e_api_Item []] 56)],[],3⟩) (fun _=> True) (by kernel_rfl) (fun Jp bk1=> ?_) fun _ _=> ?_
  ·refine gjU 0 (fun (_ : Unit)=> ⟨[(2,.pb 0 0),(3,.pb 1 0)],[(0,.row 2 3 _ e_api_Item x2),(1,.box 1 [.d (.i 48),sl eB [],.ow 2] 56),(2,.box 0 [.d (.i 0),sl eB [],sl e_api_Item []] 56)],[],3⟩) (fun _=> True) (by kernel_rfl) (fun Jp bk2=> ?_) fun _ _=> ?_
   ·refine gl hd (fun (p : Nat × (Int × (List g_api_Item)))=> let (p0,p_0,p_1):= p; ⟨[(0,sl eS a0),(2,.pb 0 0),(3,.pb 1 0),(4,.d (.i p_0))],[(0,.row 2 3 _ e_api_Item p_1),(1,.box 1 [.d (.i 48),sl eB [],.ow 2] 56),(2,.box 0 [.d (.i 0),sl eB [],sl e_api_Item []] 56)],[],3⟩) (fun p=> iter (m_ref18_texts_b3 a0) p.1 p.2 = some x2) (fun p=> p.1) (FUEL,(0,([] : List g_api_Item))) q2 (by kernel_rfl) ?_
    rintro ⟨n1,s1⟩ q3 Jl bl1
    cases n1 with
    | zero=> exact (iter_zero q3).elim
    | succ n1 =>
     obtain ⟨y1,q5,q4⟩:= iter_succ q3
     unfold m_ref18_texts_b3 at q5
     refine gi q5 (by kernel_rfl) (fun hc1 q5=> ?_) fun hc1 q5=> ?_
     ·skip
      obtain ⟨x4,q7,q5⟩:= oY0 q5
      refine gidx (k:= 1) (E:= eS) (fun _=> rfl) (fun _=> q7) (by kernel_rfl) ?_
      obtain ⟨x5,q8,q5⟩:= oY0 q5
      refine gc (fun _=> w_ref07_Text q8) (by kernel_rfl) ?_
      refine glitF (k:= 3) e_api_Item ([x5] : List g_api_Item) (fun _=> rfl) (by kernel_rfl) ?_
      obtain ⟨x6,q9,q5⟩:= oY0 q5
      refine gapp (k:= 3) (E:= e_api_Item) (fun _=> rfl) q9 (by kernel_rfl) ?_
      have e0:= sI0 q5
      subst e0
      rcases q4 with ⟨sn,e,q4'⟩ | e
      ·have e:= Sum.inl.inj e
       subst e
       exact gb bl1 hd (n1,_) ⟨q4',Nat.lt_succ_self _⟩ (by kernel_rfl)
      cases sum_lr e
     have e0:= sI0 q5
     subst e0
     rcases q4 with ⟨sn,e,_⟩ | e
     ·cases sum_rl e
     have e:= Sum.inr.inj e
     subst e
     exact gb bk2 hd () trivial (by kernel_rfl)
   have e0:= sI0 q1
   subst e0
   exact gb bk1 hd () trivial (by kernel_rfl)
  have e0:= sI0 hm
  subst e0
  exact gend hd (by kernel_rfl)
def m_ref07_Bool (a0 : Bool) : Option g_api_Item :=
 if a0 = true then
  some (⟨1,([255] : List UInt8),[]⟩ : g_api_Item)
 else
 some (⟨1,([0] : List UInt8),[]⟩ : g_api_Item)
theorem w_ref07_Bool {a0 : Bool} {r : g_api_Item} (hm : m_ref07_Bool a0 = some r) : Sf prog 87 [.d (.t a0)] (ag (e_api_Item r)) :=
 sp call87 func87 rfl ntmps87 rfl fun D0 As η0 m0 hd=> by
  unfold m_ref07_Bool at hm
  refine gi hm (by kernel_rfl) (fun hc1 hm=> ?_) fun hc1 hm=> ?_
  ·skip
   refine glitF (k:= 1) eB ([255] : List UInt8) (fun _=> rfl) (by kernel_rfl) ?_
   have e0:= sI0 hm
   subst e0
   exact gend hd (by kernel_rfl)
  refine glitF (k:= 1) eB ([0] : List UInt8) (fun _=> rfl) (by kernel_rfl) ?_
  have e0:= sI0 hm
  subst e0
  exact gend hd (by kernel_rfl)
def m_ref18_pre (a0 : g_api_Cert) : Option g_api_Item :=
 obind (m_ref07_Int a0.Serial) fun x1 =>
 obind (m_ref07_Text a0.Issuer) fun x2 =>
 obind (m_ref07_Text a0.Subject) fun x3 =>
 obind (m_ref07_Int (w64 (a0.Key.toNat : Int))) fun x4 =>
 obind (m_ref18_texts a0.Names) fun x5 =>
 obind (m_ref07_Int a0.From) fun x6 =>
 obind (m_ref07_Int a0.Until) fun x7 =>
 obind (m_ref07_Bool a0.Ca) fun x8 =>
 obind (m_ref07_Int a0.Depth) fun x9 =>
 obind (m_ref18_texts a0.Permit) fun x10 =>
 obind (m_ref07_Seq ([x1,x2,x3,x4,x5,x6,x7,x8,x9,x10] : List g_api_Item)) fun x11 =>
 some x11
theorem w_ref18_pre {a0 : g_api_Cert} {r : g_api_Item} (hm : m_ref18_pre a0 = some r) : Sf prog 49 [ag (e_api_Cert a0)] (ag (e_api_Item r)) :=
 sp call49 func49 rfl ntmps49 rfl fun D0 As η0 m0 hd=> by
  unfold m_ref18_pre at hm
  obtain ⟨x1,q1,hm⟩:= oY0 hm
  refine gc (fun _=> w_ref07_Int q1) (by kernel_rfl) ?_
  obtain ⟨x2,q2,hm⟩:= oY0 hm
  refine gc (fun _=> w_ref07_Text q2) (by kernel_rfl) ?_
  obtain ⟨x3,q3,hm⟩:= oY0 hm
  refine gc (fun _=> w_ref07_Text q3) (by kernel_rfl) ?_
  obtain ⟨x4,q4,hm⟩:= oY0 hm
  refine gc (fun _=> w_ref07_Int q4) (by kernel_rfl) ?_
  obtain ⟨x5,q5,hm⟩:= oY0 hm
  refine gc (fun _=> w_ref18_texts q5) (by kernel_rfl) ?_
  obtain ⟨x6,q6,hm⟩:= oY0 hm
  refine gc (fun _=> w_ref07_Int q6) (by kernel_rfl) ?_
  obtain ⟨x7,q7,hm⟩:= oY0 hm
  refine gc (fun _=> w_ref07_Int q7) (by kernel_rfl) ?_
  obtain ⟨x8,q8,hm⟩:= oY0 hm
  refine gc (fun _=> w_ref07_Bool q8) (by kernel_rfl) ?_
  obtain ⟨x9,q9,hm⟩:= oY0 hm
  refine gc (fun _=> w_ref07_Int q9) (by kernel_rfl) ?_
  obtain ⟨x10,q10,hm⟩:= oY0 hm
  refine gc (fun _=> w_ref18_texts q10) (by kernel_rfl) ?_
  refine glitF (k:= 3) e_api_Item ([x1,x2,x3,x4,x5,x6,x7,x8,x9,x10] : List g_api_Item) (fun _=> rfl) (by kernel_rfl) ?_
  obtain ⟨x11,q11,hm⟩:= oY0 hm
  refine gc (fun _=> w_ref07_Seq q11) (by kernel_rfl) ?_
  have e0:= sI0 hm
  subst e0
  exact gend hd (by kernel_rfl)
def m_ref18_two (a0 : UInt64) (a1 : UInt64) : Option (List g_api_Item) :=
 obind (m_ref07_Int (w64 (a0.toNat : Int))) fun x1 =>
 obind (m_ref07_Int (w64 (a1.toNat : Int))) fun x2 =>
 some ([x1,x2] : List g_api_Item)
theorem w_ref18_two {a0 : UInt64} {a1 : UInt64} {r : List g_api_Item} (hm : m_ref18_two a0 a1 = some r) : Sp prog 79 [.d (.u a0),.d (.u a1)] [] 0 (is (.ow 0) [.row 0 3 _ e_api_Item r] 1) :=
 sp call79 func79 rfl ntmps79 rfl fun D0 As η0 m0 hd=> by
  unfold m_ref18_two at hm
  obtain ⟨x1,q1,hm⟩:= oY0 hm
  refine gc (fun _=> w_ref07_Int q1) (by kernel_rfl) ?_
  obtain ⟨x2,q2,hm⟩:= oY0 hm
  refine gc (fun _=> w_ref07_Int q2) (by kernel_rfl) ?_
  refine glit (k:= 3) e_api_Item ([x1,x2] : List g_api_Item) (fun _=> rfl) (by kernel_rfl) ?_
  have e0:= sI0 hm
  subst e0
  exact gend hd (by kernel_rfl)
def m_ref07_Seq_o (a0 : List g_api_Item) : Option g_api_Item :=
 obind (app 56 ([] : List g_api_Item) a0) fun x1 =>
 some (⟨48,[],x1⟩ : g_api_Item)
theorem w_ref07_Seq_o {a0 : List g_api_Item} {r : g_api_Item} (hm : m_ref07_Seq_o a0 = some r) : Sp prog 78 [sl e_api_Item a0] [] 0 (is (.agg (List.set (((e_api_Item r)).map dv) 2 (.ow 0))) [.row 0 3 _ e_api_Item r.L] 1) :=
 sp call78 func78 rfl ntmps78 rfl fun D0 As η0 m0 hd=> by
  unfold m_ref07_Seq_o at hm
  refine glit (k:= 3) e_api_Item ([] : List g_api_Item) (fun _=> rfl) (by kernel_rfl) ?_
  obtain ⟨x1,q1,hm⟩:= oY0 hm
  refine gapp (k:= 3) (E:= e_api_Item) (fun _=> rfl) q1 (by kernel_rfl) ?_
  have e0:= sI0 hm
  subst e0
  exact gend hd (by kernel_rfl)
def m_ref18_body_b4 (a0 : g_api_Cert) (s1 : Int × (List g_api_Item)) : Option ((Int × (List g_api_Item)) ⊕ ((List g_api_Item))) :=
 if (decide (s1.1 < (a0.Proms.length : Int))) = true then
  obind (idx a0.Proms s1.1) fun x4 =>
  obind (m_ref07_Int x4.Log) fun x5 =>
  obind (m_ref07_Int x4.At) fun x6 =>
  obind (m_ref07_Seq_o ([x5,x6] : List g_api_Item)) fun x7 =>
  obind (m_ref18_two x4.Leaf.1 x4.Leaf.2) fun x8 =>
  obind (app 56 x7.L x8) fun x9 =>
  obind (m_ref18_two x4.Sig.E x4.Sig.S) fun x10 =>
  obind (app 56 x9 x10) fun x11 =>
  obind (app 56 s1.2 ([(⟨x7.Tag,x7.B,x11⟩ : g_api_Item)] : List g_api_Item)) fun x12 =>
  some (.inl ((w64 (s1.1 + 1)),x12))
 else
 some (.inr s1.2)
def m_ref18_body (a0 : g_api_Cert) : Option g_api_Item :=
 obind (
  obind (iter (m_ref18_body_b4 a0) FUEL (0,([] : List g_api_Item))) fun x2 =>
  some x2
 ) fun x1 =>
 obind (m_ref18_pre a0) fun x13 =>
 obind (m_ref07_Seq ([x13,(⟨48,[],x1⟩ : g_api_Item)] : List g_api_Item)) fun x14 =>
 some x14
theorem w_ref18_body {a0 : g_api_Cert} {r : g_api_Item} (hm : m_ref18_body a0 = some r) : Sf prog 51 [ag (e_api_Cert a0)] (ag (e_api_Item r)) :=
 sp call51 func51 rfl ntmps51 rfl fun D0 As η0 m0 hd=> by
  unfold m_ref18_body at hm
  obtain ⟨x1,q1,hm⟩:= oY0 hm
  obtain ⟨x2,q2,q1⟩:= oY0 q1
  refine gnilBU 0 e_api_Item 3 2 3 (by kernel_rfl) ?_
  refine gjU 0 (fun (_ : Unit)=> ⟨[(1,.pb 0 0),(2,.pb 1 0),(3,.pb 2 0)],[(0,.row 3 3 _ e_api_Item x1),(1,.box 2 [.d (.i 48),sl eB [],.ow 3] 56),(2,.box 1 [.d (.i 0),sl eB [],sl e_api_Item []] 56),(3,.box 0 [.d (.i a0.Serial),.d (.s a0.Issuer),.d (.s a0.Subject),.d (.u a0.Key),sl eS a0.Names,.d (.i a0.From),.d (.i a0.Until),.d (.t a0.Ca),.d (.i a0.Depth),sl eS a0.Permit,sl e_api_Promise a0.Proms,.d (.u a0.Sig.E),.d (.u a0.Sig.S)] 28)],[],4⟩) (fun _=> True) (by kernel_rfl) (fun Jp bk1=> ?_) fun _ _=> ?_
  ·refine gjU 0 (fun (_ : Unit)=> ⟨[(1,.pb 0 0),(2,.pb 1 0),(3,.pb 2 0)],[(0,.row 3 3 _ e_api_Item x2),(1,.box 2 [.d (.i 48),sl eB [],.ow 3] 56),(2,.box 1 [.d (.i 0),sl eB [],sl e_api_Item []] 56),(3,.box 0 [.d (.i a0.Serial),.d (.s a0.Issuer),.d (.s a0.Subject),.d (.u a0.Key),sl eS a0.Names,.d (.i a0.From),.d (.i a0.Until),.d (.t a0.Ca),.d (.i a0.Depth),sl eS a0.Permit,sl e_api_Promise a0.Proms,.d (.u a0.Sig.E),.d (.u a0.Sig.S)] 28)],[],4⟩) (fun _=> True) (by kernel_rfl) (fun Jp bk2=> ?_) fun _ _=> ?_
   ·refine gl hd (fun (p : Nat × (Int × (List g_api_Item)))=> let (p0,p_0,p_1):= p; ⟨[(1,.pb 0 0),(2,.pb 1 0),(3,.pb 2 0),(4,.d (.i p_0))],[(0,.row 3 3 _ e_api_Item p_1),(1,.box 2 [.d (.i 48),sl eB [],.ow 3] 56),(2,.box 1 [.d (.i 0),sl eB [],sl e_api_Item []] 56),(3,.box 0 [.d (.i a0.Serial),.d (.s a0.Issuer),.d (.s a0.Subject),.d (.u a0.Key),sl eS a0.Names,.d (.i a0.From),.d (.i a0.Until),.d (.t a0.Ca),.d (.i a0.Depth),sl eS a0.Permit,sl e_api_Promise a0.Proms,.d (.u a0.Sig.E),.d (.u a0.Sig.S)] 28)],[],4⟩) (fun p=> iter (m_ref18_body_b4 a0) p.1 p.2 = some x2) (fun p=> p.1) (FUEL,(0,([] : List g_api_Item))) q2 (by kernel_rfl) ?_
    rintro ⟨n1,s1⟩ q3 Jl bl1
    cases n1 with
    | zero=> exact (iter_zero q3).elim
    | succ n1 =>
     obtain ⟨y1,q5,q4⟩:= iter_succ q3
     unfold m_ref18_body_b4 at q5
     refine gi q5 (by kernel_rfl) (fun hc1 q5=> ?_) fun hc1 q5=> ?_
     ·skip
      obtain ⟨x4,q7,q5⟩:= oY0 q5
      refine gidx (k:= 6) (E:= e_api_Promise) (fun _=> rfl) (fun _=> q7) (by kernel_rfl) ?_
      obtain ⟨x5,q8,q5⟩:= oY0 q5
      refine gc (fun _=> w_ref07_Int q8) (by kernel_rfl) ?_
      obtain ⟨x6,q9,q5⟩:= oY0 q5
      refine gc (fun _=> w_ref07_Int q9) (by kernel_rfl) ?_
      refine glitF (k:= 3) e_api_Item ([x5,x6] : List g_api_Item) (fun _=> rfl) (by kernel_rfl) ?_
      obtain ⟨x7,q10,q5⟩:= oY0 q5
      refine gco (w_ref07_Seq_o q10) (by kernel_rfl) ?_
      obtain ⟨x8,q11,q5⟩:= oY0 q5
      refine gco (w_ref18_two q11) (by kernel_rfl) ?_
      obtain ⟨x9,q12,q5⟩:= oY0 q5
      refine gapp (k:= 3) (E:= e_api_Item) (fun _=> rfl) q12 (by kernel_rfl) ?_
      obtain ⟨x10,q13,q5⟩:= oY0 q5
      refine gco (w_ref18_two q13) (by kernel_rfl) ?_
      obtain ⟨x11,q14,q5⟩:= oY0 q5
      refine gapp (k:= 3) (E:= e_api_Item) (fun _=> rfl) q14 (by kernel_rfl) ?_
      refine glitV (k:= 3) e_api_Item ([(⟨x7.Tag,x7.B,x11⟩ : g_api_Item)] : List g_api_Item) (fun _=> rfl) (by kernel_rfl) ?_
      obtain ⟨x12,q15,q5⟩:= oY0 q5
      refine gapp (k:= 3) (E:= e_api_Item) (fun _=> rfl) q15 (by kernel_rfl) ?_
      have e0:= sI0 q5
      subst e0
      rcases q4 with ⟨sn,e,q4'⟩ | e
      ·have e:= Sum.inl.inj e
       subst e
       exact gb bl1 hd (n1,_) ⟨q4',Nat.lt_succ_self _⟩ (by kernel_rfl)
      cases sum_lr e
     have e0:= sI0 q5
     subst e0
     rcases q4 with ⟨sn,e,_⟩ | e
     ·cases sum_rl e
     have e:= Sum.inr.inj e
     subst e
     exact gb bk2 hd () trivial (by kernel_rfl)
   have e0:= sI0 q1
   subst e0
   exact gb bk1 hd () trivial (by kernel_rfl)
  obtain ⟨x13,q16,hm⟩:= oY0 hm
  refine gc (fun _=> w_ref18_pre q16) (by kernel_rfl) ?_
  refine glitV (k:= 3) e_api_Item ([x13,(⟨48,[],x1⟩ : g_api_Item)] : List g_api_Item) (fun _=> rfl) (by kernel_rfl) ?_
  obtain ⟨x14,q17,hm⟩:= oY0 hm
  refine gc (fun _=> w_ref07_Seq q17) (by kernel_rfl) ?_
  have e0:= sI0 hm
  subst e0
  exact gend hd (by kernel_rfl)
def m_ref18_whole (a0 : g_api_Cert) : Option g_api_Item :=
 obind (m_ref18_body a0) fun x1 =>
 obind (m_ref18_two a0.Sig.E a0.Sig.S) fun x2 =>
 obind (m_ref07_Seq x2) fun x3 =>
 obind (m_ref07_Seq ([x1,x3] : List g_api_Item)) fun x4 =>
 some x4
theorem w_ref18_whole {a0 : g_api_Cert} {r : g_api_Item} (hm : m_ref18_whole a0 = some r) : Sf prog 42 [ag (e_api_Cert a0)] (ag (e_api_Item r)) :=
 sp call42 func42 rfl ntmps42 rfl fun D0 As η0 m0 hd=> by
  unfold m_ref18_whole at hm
  obtain ⟨x1,q1,hm⟩:= oY0 hm
  refine gc (fun _=> w_ref18_body q1) (by kernel_rfl) ?_
  obtain ⟨x2,q2,hm⟩:= oY0 hm
  refine gco (w_ref18_two q2) (by kernel_rfl) ?_
  obtain ⟨x3,q3,hm⟩:= oY0 hm
  refine gco (w_ref07_Seq q3) (by kernel_rfl) ?_
  refine glitF (k:= 3) e_api_Item ([x1,x3] : List g_api_Item) (fun _=> rfl) (by kernel_rfl) ?_
  obtain ⟨x4,q4,hm⟩:= oY0 hm
  refine gc (fun _=> w_ref07_Seq q4) (by kernel_rfl) ?_
  have e0:= sI0 hm
  subst e0
  exact gend hd (by kernel_rfl)
def m_ref18_Check (a0 : g_api_Cert) : Option Int :=
 obind (m_ref18_form a0) fun x1 =>
 if (!x1) = true then
  some 1
 else
 obind (m_ref18_whole a0) fun x2 =>
 obind (m_ref07_Put x2) fun x3 =>
 if ((x3.2 != 0) || (decide ((x3.1.length : Int) > 2048))) = true then
  some 2
 else
 some 0
theorem w_ref18_Check {a0 : g_api_Cert} {r : Int} (hm : m_ref18_Check a0 = some r) : Sf prog 15 [ag (e_api_Cert a0)] (.d (.i r)) :=
 sp call15 func15 rfl ntmps15 rfl fun D0 As η0 m0 hd=> by
  unfold m_ref18_Check at hm
  obtain ⟨x1,q1,hm⟩:= oY0 hm
  refine gc (fun _=> w_ref18_form q1) (by kernel_rfl) ?_
  refine gi hm (by kernel_rfl) (fun hc1 hm=> ?_) fun hc1 hm=> ?_
  ·skip
   have e0:= sI0 hm
   subst e0
   exact gend hd (by kernel_rfl)
  obtain ⟨x2,q2,hm⟩:= oY0 hm
  refine gc (fun _=> w_ref18_whole q2) (by kernel_rfl) ?_
  obtain ⟨x3,q3,hm⟩:= oY0 hm
  refine gco (w_ref07_Put q3) (by kernel_rfl) ?_
  refine gi hm (by kernel_rfl) (fun hc2 hm=> ?_) fun hc2 hm=> ?_
  ·skip
   have e0:= sI0 hm
   subst e0
   exact gend hd (by kernel_rfl)
  have e0:= sI0 hm
  subst e0
  exact gend hd (by kernel_rfl)
def m_ref18_bytes (a0 : g_api_Cert) (a1 : g_api_Item) : Option ((List UInt8) × Int) :=
 obind (m_ref18_Check a0) fun x1 =>
 if (x1 != 0) = true then
  some (([] : List UInt8),x1)
 else
 obind (m_ref07_Put a1) fun x2 =>
 some (x2.1,0)
theorem w_ref18_bytes {a0 : g_api_Cert} {a1 : g_api_Item} {r : (List UInt8) × Int} (hm : m_ref18_bytes a0 a1 = some r) : Sp prog 48 [ag (e_api_Cert a0),ag (e_api_Item a1)] [] 0 (is (.tup [.ow 0,.d (.i r.2)]) [.row 0 1 _ eB r.1] 1) :=
 sp call48 func48 rfl ntmps48 rfl fun D0 As η0 m0 hd=> by
  unfold m_ref18_bytes at hm
  obtain ⟨x1,q1,hm⟩:= oY0 hm
  refine gc (fun _=> w_ref18_Check q1) (by kernel_rfl) ?_
  refine gi hm (by kernel_rfl) (fun hc1 hm=> ?_) fun hc1 hm=> ?_
  ·skip
   refine gnil eB 4 1 (by kernel_rfl) ?_
   have e0:= sI0 hm
   subst e0
   exact gend hd (by kernel_rfl)
  obtain ⟨x2,q2,hm⟩:= oY0 hm
  refine gco (w_ref07_Put q2) (by kernel_rfl) ?_
  have e0:= sI0 hm
  subst e0
  exact gend hd (by kernel_rfl)
def m_ref18_Pre (a0 : g_api_Cert) : Option ((List UInt8) × Int) :=
 obind (m_ref18_pre a0) fun x1 =>
 obind (m_ref18_bytes a0 x1) fun x2 =>
 some (x2.1,x2.2)
theorem w_ref18_Pre {a0 : g_api_Cert} {r : (List UInt8) × Int} (hm : m_ref18_Pre a0 = some r) : Sp prog 19 [ag (e_api_Cert a0)] [] 0 (is (.tup [.ow 0,.d (.i r.2)]) [.row 0 1 _ eB r.1] 1) :=
 sp call19 func19 rfl ntmps19 rfl fun D0 As η0 m0 hd=> by
  unfold m_ref18_Pre at hm
  obtain ⟨x1,q1,hm⟩:= oY0 hm
  refine gc (fun _=> w_ref18_pre q1) (by kernel_rfl) ?_
  obtain ⟨x2,q2,hm⟩:= oY0 hm
  refine gco (w_ref18_bytes q2) (by kernel_rfl) ?_
  have e0:= sI0 hm
  subst e0
  exact gend hd (by kernel_rfl)
theorem d_ref18_Pre {a0 : g_api_Cert} {r : (List UInt8) × Int} (hm : m_ref18_Pre a0 = some r) : Sf prog 19 [ag (e_api_Cert a0)] (.tup [sl eB r.1,.d (.i r.2)]):= Sp.fz (w_ref18_Pre hm) (by kernel_rfl)
def m_ref18_Body (a0 : g_api_Cert) : Option ((List UInt8) × Int) :=
 obind (m_ref18_body a0) fun x1 =>
 obind (m_ref18_bytes a0 x1) fun x2 =>
 some (x2.1,x2.2)
theorem w_ref18_Body {a0 : g_api_Cert} {r : (List UInt8) × Int} (hm : m_ref18_Body a0 = some r) : Sp prog 21 [ag (e_api_Cert a0)] [] 0 (is (.tup [.ow 0,.d (.i r.2)]) [.row 0 1 _ eB r.1] 1) :=
 sp call21 func21 rfl ntmps21 rfl fun D0 As η0 m0 hd=> by
  unfold m_ref18_Body at hm
  obtain ⟨x1,q1,hm⟩:= oY0 hm
  refine gc (fun _=> w_ref18_body q1) (by kernel_rfl) ?_
  obtain ⟨x2,q2,hm⟩:= oY0 hm
  refine gco (w_ref18_bytes q2) (by kernel_rfl) ?_
  have e0:= sI0 hm
  subst e0
  exact gend hd (by kernel_rfl)
theorem d_ref18_Body {a0 : g_api_Cert} {r : (List UInt8) × Int} (hm : m_ref18_Body a0 = some r) : Sf prog 21 [ag (e_api_Cert a0)] (.tup [sl eB r.1,.d (.i r.2)]):= Sp.fz (w_ref18_Body hm) (by kernel_rfl)
def m_ref18_Put (a0 : g_api_Cert) : Option ((List UInt8) × Int) :=
 obind (m_ref18_whole a0) fun x1 =>
 obind (m_ref18_bytes a0 x1) fun x2 =>
 some (x2.1,x2.2)
theorem w_ref18_Put {a0 : g_api_Cert} {r : (List UInt8) × Int} (hm : m_ref18_Put a0 = some r) : Sp prog 23 [ag (e_api_Cert a0)] [] 0 (is (.tup [.ow 0,.d (.i r.2)]) [.row 0 1 _ eB r.1] 1) :=
 sp call23 func23 rfl ntmps23 rfl fun D0 As η0 m0 hd=> by
  unfold m_ref18_Put at hm
  obtain ⟨x1,q1,hm⟩:= oY0 hm
  refine gc (fun _=> w_ref18_whole q1) (by kernel_rfl) ?_
  obtain ⟨x2,q2,hm⟩:= oY0 hm
  refine gco (w_ref18_bytes q2) (by kernel_rfl) ?_
  have e0:= sI0 hm
  subst e0
  exact gend hd (by kernel_rfl)
theorem d_ref18_Put {a0 : g_api_Cert} {r : (List UInt8) × Int} (hm : m_ref18_Put a0 = some r) : Sf prog 23 [ag (e_api_Cert a0)] (.tup [sl eB r.1,.d (.i r.2)]):= Sp.fz (w_ref18_Put hm) (by kernel_rfl)
def m_ref01_Of_b2 (a0 : List UInt8) (s1 : (List UInt64) × Int) (s2 : UInt64 × UInt64 × Int) : Option ((UInt64 × UInt64 × Int) ⊕ (UInt64)) :=
 if ((decide (s2.2.2 < (a0.length : Int))) && (decide (s2.2.2 < (w64 (s1.2 + 7))))) = true then
  obind (idx a0 s2.2.2) fun x7 =>
  bnd ((s2.1 + (s2.2.1 * (toU (x7.toNat : Int))))) fun x8 =>
  some (.inl (x8,(s2.2.1 * 256),(w64 (s2.2.2 + 1))))
 else
 some (.inr s2.1)
def m_ref01_Of_b1 (a0 : List UInt8) (s1 : (List UInt64) × Int) : Option (((List UInt64) × Int) ⊕ ((List UInt64))) :=
 if (decide (s1.2 < (a0.length : Int))) = true then
  obind (
   obind (iter (m_ref01_Of_b2 a0 s1) FUEL (0,1,s1.2)) fun x5 =>
   some x5
  ) fun x4 =>
  obind (app 8 s1.1 ([x4] : List UInt64)) fun x9 =>
  some (.inl (x9,(w64 (s1.2 + 7))))
 else
 some (.inr s1.1)
def m_ref01_Of (a0 : List UInt8) : Option (List UInt64) :=
 obind (
  obind (iter (m_ref01_Of_b1 a0) FUEL (([] : List UInt64),0)) fun x2 =>
  some x2
 ) fun x1 =>
 some x1
theorem w_ref01_Of {a0 : List UInt8} {r : List UInt64} (hm : m_ref01_Of a0 = some r) : Sp prog 163 [sl eB a0] [] 0 (is (.ow 0) [.row 0 1 _ eU r] 1) :=
 sp call163 func163 rfl ntmps163 rfl fun D0 As η0 m0 hd=> by
  unfold m_ref01_Of at hm
  obtain ⟨x1,q1,hm⟩:= oY0 hm
  obtain ⟨x2,q2,q1⟩:= oY0 q1
  refine gnilU 0 eU 3 1 (by kernel_rfl) ?_
  refine gjU 0 (fun (_ : Unit)=> ⟨[(3,.ow 0)],[(0,.row 0 1 _ eU x1)],[],1⟩) (fun _=> True) (by kernel_rfl) (fun Jp bk1=> ?_) fun _ _=> ?_
  ·refine gjU 0 (fun (_ : Unit)=> ⟨[(3,.ow 0)],[(0,.row 0 1 _ eU x2)],[],1⟩) (fun _=> True) (by kernel_rfl) (fun Jp bk2=> ?_) fun _ _=> ?_
   ·refine gl hd (fun (p : Nat × ((List UInt64) × Int))=> let (p0,p_0,p_1):= p; ⟨[(0,sl eB a0),(3,.ow 0),(4,.d (.i p_1))],[(0,.row 0 1 _ eU p_0)],[],1⟩) (fun p=> iter (m_ref01_Of_b1 a0) p.1 p.2 = some x2) (fun p=> p.1) (FUEL,(([] : List UInt64),0)) q2 (by kernel_rfl) ?_
    rintro ⟨n1,s1⟩ q3 Jl bl1
    cases n1 with
    | zero=> exact (iter_zero q3).elim
    | succ n1 =>
     obtain ⟨y1,q5,q4⟩:= iter_succ q3
     unfold m_ref01_Of_b1 at q5
     refine gi q5 (by kernel_rfl) (fun hc1 q5=> ?_) fun hc1 q5=> ?_
     ·skip
      obtain ⟨x4,q7,q5⟩:= oY0 q5
      obtain ⟨x5,q8,q7⟩:= oY0 q7
      refine gjU 2 (fun (_ : Unit)=> ⟨[(0,sl eB a0),(3,.ow 0),(4,.d (.i s1.2)),(5,.d (.u x4))],[(0,.row 0 1 _ eU s1.1)],[],1⟩) (fun _=> True) (by kernel_rfl) (fun Jp bk3=> ?_) fun _ _=> ?_
      ·refine gjU 2 (fun (_ : Unit)=> ⟨[(0,sl eB a0),(3,.ow 0),(4,.d (.i s1.2)),(5,.d (.u x5))],[(0,.row 0 1 _ eU s1.1)],[],1⟩) (fun _=> True) (by kernel_rfl) (fun Jp bk4=> ?_) fun _ _=> ?_
       ·refine gl hd (fun (p : Nat × (UInt64 × UInt64 × Int))=> let (p0,p_0,p_1,p_2):= p; ⟨[(0,sl eB a0),(3,.ow 0),(4,.d (.i s1.2)),(5,.d (.u p_0)),(6,.d (.u p_1)),(7,.d (.i p_2))],[(0,.row 0 1 _ eU s1.1)],[],1⟩) (fun p=> iter (m_ref01_Of_b2 a0 s1) p.1 p.2 = some x5) (fun p=> p.1) (FUEL,(0,1,s1.2)) q8 (by kernel_rfl) ?_
        rintro ⟨n2,s2⟩ q9 Jl bl2
        cases n2 with
        | zero=> exact (iter_zero q9).elim
        | succ n2 =>
         obtain ⟨y2,q11,q10⟩:= iter_succ q9
         unfold m_ref01_Of_b2 at q11
         refine gi q11 (by kernel_rfl) (fun hc2 q11=> ?_) fun hc2 q11=> ?_
         ·skip
          obtain ⟨x7,q13,q11⟩:= oY0 q11
          refine gidx (k:= 1) (E:= eB) (fun _=> rfl) (fun _=> q13) (by kernel_rfl) ?_
          have q11:= bnd_is q11
          let x8 : UInt64:= ((s2.1 + (s2.2.1 * (toU (x7.toNat : Int)))))
          have e0:= sI0 q11
          subst e0
          rcases q10 with ⟨sn,e,q10'⟩ | e
          ·have e:= Sum.inl.inj e
           subst e
           exact gb bl2 hd (n2,_) ⟨q10',Nat.lt_succ_self _⟩ (by kernel_rfl)
          cases sum_lr e
         have e0:= sI0 q11
         subst e0
         rcases q10 with ⟨sn,e,_⟩ | e
         ·cases sum_rl e
         have e:= Sum.inr.inj e
         subst e
         exact gb bk4 hd () trivial (by kernel_rfl)
       have e0:= sI0 q7
       subst e0
       exact gb bk3 hd () trivial (by kernel_rfl)
      refine glitF (k:= 1) eU ([x4] : List UInt64) (fun _=> rfl) (by kernel_rfl) ?_
      obtain ⟨x9,q15,q5⟩:= oY0 q5
      refine gapp (k:= 1) (E:= eU) (fun _=> rfl) q15 (by kernel_rfl) ?_
      have e0:= sI0 q5
      subst e0
      rcases q4 with ⟨sn,e,q4'⟩ | e
      ·have e:= Sum.inl.inj e
       subst e
       exact gb bl1 hd (n1,_) ⟨q4',Nat.lt_succ_self _⟩ (by kernel_rfl)
      cases sum_lr e
     have e0:= sI0 q5
     subst e0
     rcases q4 with ⟨sn,e,_⟩ | e
     ·cases sum_rl e
     have e:= Sum.inr.inj e
     subst e
     exact gb bk2 hd () trivial (by kernel_rfl)
   have e0:= sI0 q1
   subst e0
   exact gb bk1 hd () trivial (by kernel_rfl)
  have e0:= sI0 hm
  subst e0
  exact gend hd (by kernel_rfl)
def m_ref01_Add (a0 : UInt64) (a1 : UInt64) : Option UInt64 :=
 bnd ((((a0 % 2305843009213693951) + (a1 % 2305843009213693951)) % 2305843009213693951)) fun x1 =>
 some x1
theorem w_ref01_Add {a0 : UInt64} {a1 : UInt64} {r : UInt64} (hm : m_ref01_Add a0 a1 = some r) : Sf prog 164 [.d (.u a0),.d (.u a1)] (.d (.u r)) :=
 sp call164 func164 rfl ntmps164 rfl fun D0 As η0 m0 hd=> by
  unfold m_ref01_Add at hm
  have hm:= bnd_is hm
  let x1 : UInt64:= ((((a0 % 2305843009213693951) + (a1 % 2305843009213693951)) % 2305843009213693951))
  have e0:= sI0 hm
  subst e0
  exact gend hd (by kernel_rfl)
theorem v_ref01_Add {m : Mem} {As : List Ow} {w : World} {a0 : UInt64} {a1 : UInt64} {r : UInt64} (S : St m As w) (hm : m_ref01_Add a0 a1 = some r) :
  CallsR prog 164 #[vU a0,vU a1] w fun v w'=> ∃ (M : Mem),m ≤ M ∧ St M (As) w' ∧ v = vU r:= by
 refine CallsR.mono ((w_ref01_Add hm).2 none0 m As w [vU a0,vU a1] (.cons (.d (.u _)) (.cons (.d (.u _)) .nil)) (fun n h=> absurd rfl h) S) ?_
 rintro v w' ⟨M,η',r',obs',n1,hle,_,⟨rfl,rfl,rfl⟩,hdom,hR,S'⟩
 obtain rfl:= hR.u_inv
 exact ⟨M,hle,S',rfl⟩
def m_ref01_Mul_b1  (s1 : UInt64 × UInt64 × UInt64) : Option ((UInt64 × UInt64 × UInt64) ⊕ (UInt64)) :=
 if (decide ((s1.2.1.toNat : Int) > 0)) = true then
  obind (
   if (((s1.2.1 % 2).toNat : Int) == 1) = true then
    obind (m_ref01_Add s1.2.2 s1.1) fun x5 =>
    some x5
   else
   some s1.2.2
  ) fun x4 =>
  obind (m_ref01_Add s1.1 s1.1) fun x6 =>
  some (.inl (x6,(s1.2.1 / 2),x4))
 else
 some (.inr s1.2.2)
def m_ref01_Mul (a0 : UInt64) (a1 : UInt64) : Option UInt64 :=
 obind (
  obind (iter m_ref01_Mul_b1 FUEL ((a0 % 2305843009213693951),(a1 % 2305843009213693951),0)) fun x2 =>
  some x2
 ) fun x1 =>
 some x1
theorem w_ref01_Mul {a0 : UInt64} {a1 : UInt64} {r : UInt64} (hm : m_ref01_Mul a0 a1 = some r) : Sf prog 204 [.d (.u a0),.d (.u a1)] (.d (.u r)) :=
 sp call204 func204 rfl ntmps204 rfl fun D0 As η0 m0 hd=> by
  unfold m_ref01_Mul at hm
  obtain ⟨x1,q1,hm⟩:= oY0 hm
  obtain ⟨x2,q2,q1⟩:= oY0 q1
  refine gjU 0 (fun (_ : Unit)=> ⟨[(5,.d (.u x1))],[],[],0⟩) (fun _=> True) (by kernel_rfl) (fun Jp bk1=> ?_) fun _ _=> ?_
  ·refine gjU 0 (fun (_ : Unit)=> ⟨[(5,.d (.u x2))],[],[],0⟩) (fun _=> True) (by kernel_rfl) (fun Jp bk2=> ?_) fun _ _=> ?_
   ·refine gl hd (fun (p : Nat × (UInt64 × UInt64 × UInt64))=> let (p0,p_0,p_1,p_2):= p; ⟨[(0,.d (.u p_0)),(1,.d (.u p_1)),(5,.d (.u p_2))],[],[],0⟩) (fun p=> iter m_ref01_Mul_b1 p.1 p.2 = some x2) (fun p=> p.1) (FUEL,((a0 % 2305843009213693951),(a1 % 2305843009213693951),0)) q2 (by kernel_rfl) ?_
    rintro ⟨n1,s1⟩ q3 Jl bl1
    cases n1 with
    | zero=> exact (iter_zero q3).elim
    | succ n1 =>
     obtain ⟨y1,q5,q4⟩:= iter_succ q3
     unfold m_ref01_Mul_b1 at q5
     refine gi q5 (by kernel_rfl) (fun hc1 q5=> ?_) fun hc1 q5=> ?_
     ·skip
      obtain ⟨x4,q7,q5⟩:= oY0 q5
      refine gj (fun (_ : Unit)=> ⟨[(0,.d (.u s1.1)),(1,.d (.u s1.2.1)),(5,.d (.u x4))],[],[],0⟩) (fun _=> True) (by kernel_rfl) (fun Jp bk3=> ?_) fun _ _=> ?_
      ·refine gi q7 (by kernel_rfl) (fun hc2 q7=> ?_) fun hc2 q7=> ?_
       ·obtain ⟨x5,q8,q7⟩:= oY0 q7
        refine gc (fun _=> w_ref01_Add q8) (by kernel_rfl) ?_
        have e0:= sI0 q7
        subst e0
        exact gb bk3 hd () trivial (by kernel_rfl)
       have e0:= sI0 q7
       subst e0
       exact gb bk3 hd () trivial (by kernel_rfl)
      obtain ⟨x6,q9,q5⟩:= oY0 q5
      refine gc (fun _=> w_ref01_Add q9) (by kernel_rfl) ?_
      have e0:= sI0 q5
      subst e0
      rcases q4 with ⟨sn,e,q4'⟩ | e
      ·have e:= Sum.inl.inj e
       subst e
       exact gb bl1 hd (n1,_) ⟨q4',Nat.lt_succ_self _⟩ (by kernel_rfl)
      cases sum_lr e
     have e0:= sI0 q5
     subst e0
     rcases q4 with ⟨sn,e,_⟩ | e
     ·cases sum_rl e
     have e:= Sum.inr.inj e
     subst e
     exact gb bk2 hd () trivial (by kernel_rfl)
   have e0:= sI0 q1
   subst e0
   exact gb bk1 hd () trivial (by kernel_rfl)
  have e0:= sI0 hm
  subst e0
  exact gend hd (by kernel_rfl)
def m_ref02_raised_b1 (a0 : UInt64) (a1 : Int) (s1 : UInt64 × Int) : Option ((UInt64 × Int) ⊕ (UInt64)) :=
 if (decide (s1.2 < a1)) = true then
  obind (m_ref01_Mul s1.1 a0) fun x4 =>
  some (.inl (x4,(w64 (s1.2 + 1))))
 else
 some (.inr s1.1)
def m_ref02_raised (a0 : UInt64) (a1 : Int) : Option UInt64 :=
 obind (
  obind (iter (m_ref02_raised_b1 a0 a1) FUEL (1,0)) fun x2 =>
  some x2
 ) fun x1 =>
 some x1
theorem w_ref02_raised {a0 : UInt64} {a1 : Int} {r : UInt64} (hm : m_ref02_raised a0 a1 = some r) : Sf prog 199 [.d (.u a0),.d (.i a1)] (.d (.u r)) :=
 sp call199 func199 rfl ntmps199 rfl fun D0 As η0 m0 hd=> by
  unfold m_ref02_raised at hm
  obtain ⟨x1,q1,hm⟩:= oY0 hm
  obtain ⟨x2,q2,q1⟩:= oY0 q1
  refine gjU 0 (fun (_ : Unit)=> ⟨[(5,.d (.u x1))],[],[],0⟩) (fun _=> True) (by kernel_rfl) (fun Jp bk1=> ?_) fun _ _=> ?_
  ·refine gjU 0 (fun (_ : Unit)=> ⟨[(5,.d (.u x2))],[],[],0⟩) (fun _=> True) (by kernel_rfl) (fun Jp bk2=> ?_) fun _ _=> ?_
   ·refine gl hd (fun (p : Nat × (UInt64 × Int))=> let (p0,p_0,p_1):= p; ⟨[(0,.d (.u a0)),(1,.d (.i a1)),(5,.d (.u p_0)),(6,.d (.i p_1))],[],[],0⟩) (fun p=> iter (m_ref02_raised_b1 a0 a1) p.1 p.2 = some x2) (fun p=> p.1) (FUEL,(1,0)) q2 (by kernel_rfl) ?_
    rintro ⟨n1,s1⟩ q3 Jl bl1
    cases n1 with
    | zero=> exact (iter_zero q3).elim
    | succ n1 =>
     obtain ⟨y1,q5,q4⟩:= iter_succ q3
     unfold m_ref02_raised_b1 at q5
     refine gi q5 (by kernel_rfl) (fun hc1 q5=> ?_) fun hc1 q5=> ?_
     ·skip
      obtain ⟨x4,q7,q5⟩:= oY0 q5
      refine gc (fun _=> w_ref01_Mul q7) (by kernel_rfl) ?_
      have e0:= sI0 q5
      subst e0
      rcases q4 with ⟨sn,e,q4'⟩ | e
      ·have e:= Sum.inl.inj e
       subst e
       exact gb bl1 hd (n1,_) ⟨q4',Nat.lt_succ_self _⟩ (by kernel_rfl)
      cases sum_lr e
     have e0:= sI0 q5
     subst e0
     rcases q4 with ⟨sn,e,_⟩ | e
     ·cases sum_rl e
     have e:= Sum.inr.inj e
     subst e
     exact gb bk2 hd () trivial (by kernel_rfl)
   have e0:= sI0 q1
   subst e0
   exact gb bk1 hd () trivial (by kernel_rfl)
  have e0:= sI0 hm
  subst e0
  exact gend hd (by kernel_rfl)
theorem v_ref02_raised {m : Mem} {As : List Ow} {w : World} {a0 : UInt64} {a1 : Int} {r : UInt64} (S : St m As w) (hm : m_ref02_raised a0 a1 = some r) :
  CallsR prog 199 #[vU a0,vI a1] w fun v w'=> ∃ (M : Mem),m ≤ M ∧ St M (As) w' ∧ v = vU r:= by
 refine CallsR.mono ((w_ref02_raised hm).2 none0 m As w [vU a0,vI a1] (.cons (.d (.u _)) (.cons (.d (.i _)) .nil)) (fun n h=> absurd rfl h) S) ?_
 rintro v w' ⟨M,η',r',obs',n1,hle,_,⟨rfl,rfl,rfl⟩,hdom,hR,S'⟩
 obtain rfl:= hR.u_inv
 exact ⟨M,hle,S',rfl⟩
def m_ref02_round_b4 (a0 : UInt64 × UInt64 × UInt64) (a1 : Int) (s1 : Int × UInt64 × UInt64 × UInt64) : Option ((Int × UInt64 × UInt64 × UInt64) ⊕ (UInt64 × UInt64 × UInt64)) :=
 if (decide (s1.1 < 3)) = true then
  obind (m_ref02_raised (toU (w64 ((w64 ((w64 (3 * a1)) + s1.1)) + 1))) 3) fun x4 =>
  obind (m_ref01_Add x4 7) fun x5 =>
  obind (idx [a0.1,a0.2.1,a0.2.2] s1.1) fun x6 =>
  obind (m_ref01_Add x6 x5) fun x7 =>
  obind (m_ref02_raised x7 17) fun x8 =>
  obind (idx [s1.2.1,s1.2.2.1,s1.2.2.2] s1.1) fun x9 =>
  bnd (if s1.1 = 0 then x8 else s1.2.1) fun x10 =>
  bnd (if s1.1 = 1 then x8 else s1.2.2.1) fun x11 =>
  bnd (if s1.1 = 2 then x8 else s1.2.2.2) fun x12 =>
  some (.inl ((w64 (s1.1 + 1)),x10,x11,x12))
 else
 some (.inr (s1.2.1,s1.2.2.1,s1.2.2.2))
def m_ref02_round_b5 (x14 : UInt64) (s2 : Int × UInt64 × UInt64 × UInt64) : Option ((Int × UInt64 × UInt64 × UInt64) ⊕ (UInt64 × UInt64 × UInt64)) :=
 if (decide (s2.1 < 3)) = true then
  obind (idx [s2.2.1,s2.2.2.1,s2.2.2.2] s2.1) fun x18 =>
  obind (m_ref01_Add x18 x14) fun x19 =>
  obind (idx [s2.2.1,s2.2.2.1,s2.2.2.2] s2.1) fun x20 =>
  bnd (if s2.1 = 0 then x19 else s2.2.1) fun x21 =>
  bnd (if s2.1 = 1 then x19 else s2.2.2.1) fun x22 =>
  bnd (if s2.1 = 2 then x19 else s2.2.2.2) fun x23 =>
  some (.inl ((w64 (s2.1 + 1)),x21,x22,x23))
 else
 some (.inr (s2.2.1,s2.2.2.1,s2.2.2.2))
def m_ref02_round (a0 : UInt64 × UInt64 × UInt64) (a1 : Int) : Option (UInt64 × UInt64 × UInt64) :=
 obind (
  obind (iter (m_ref02_round_b4 a0 a1) FUEL (0,0,0,0)) fun x2 =>
  some (x2.1,x2.2.1,x2.2.2)
 ) fun x1 =>
 obind (m_ref01_Add x1.1 x1.2.1) fun x13 =>
 obind (m_ref01_Add x13 x1.2.2) fun x14 =>
 obind (
  obind (iter (m_ref02_round_b5 x14) FUEL (0,x1.1,x1.2.1,x1.2.2)) fun x16 =>
  some (x16.1,x16.2.1,x16.2.2)
 ) fun x15 =>
 some x15
theorem w_ref02_round {m : Mem} {As : List Ow} {w : World} {a0 : UInt64 × UInt64 × UInt64} {a1 : Int} {r : UInt64 × UInt64 × UInt64} (S : St m (As) w) (hm : m_ref02_round a0 a1 = some r) :
  CallsR Tryz.prog 188 #[.agg #[vU a0.1,vU a0.2.1,vU a0.2.2],vI a1] w fun v w'=> ∃ (M : Mem),m ≤ M ∧ St M (As) w' ∧ v = .agg #[vU r.1,vU r.2.1,vU r.2.2]:= by
 unfold m_ref02_round at hm
 have L0:= Mem.rfl' m
 refine callsR (args:= [.agg #[vU a0.1,vU a0.2.1,vU a0.2.2],vI a1]) Tryz.func188 rfl Tryz.ntmps188 (Nat.le_of_ble_eq_true rfl) ?_
 refine wpc_seq ?_
 refine wpc_region ?_
 refine s_box S rfl ?_
 intro b1 w1 S1
 replace S1 : St _ ((bx b1 [vU a0.1,vU a0.2.1,vU a0.2.2] 150) :: As) _:= S1
 clear S
 refine s_alloc S1 Tryz.zeroValue150 ?_
 intro b2 w2 S2
 replace S2 : St _ ((bx b2 [vU 0,vU 0,vU 0] 150) :: (bx b1 [vU a0.1,vU a0.2.1,vU a0.2.2] 150) :: As) _:= S2
 clear S1
 refine wpl_nil ?_
 refine nrm ?_
 refine wpc_seq ?_
 refine wpc_region ?_
 refine s_alloc S2 Tryz.zeroValue150 ?_
 intro b3 w3 S3
 replace S3 : St _ ((bx b3 [vU 0,vU 0,vU 0] 150) :: (bx b2 [vU 0,vU 0,vU 0] 150) :: (bx b1 [vU a0.1,vU a0.2.1,vU a0.2.2] 150) :: As) _:= S3
 clear S2
 refine wpl_nil ?_
 refine nrm ?_
 obtain ⟨x1,q1,hm⟩:= oY0 hm
 have L1:= Mem.rfl' m
 refine wpc_seq ?_
 refine wpc_join [6,7,10,11,12,13,14,15,16,17,18,19,20,21,22,23,24,25,26,27,28,29] (fun f' w'=> ∃ (M1 : Mem),m ≤ M1 ∧ St M1 ((bx b3 [vU x1.1,vU x1.2.1,vU x1.2.2] 150) :: (bx b2 [vU 0,vU 0,vU 0] 150) :: (bx b1 [vU a0.1,vU a0.2.1,vU a0.2.2] 150) :: As) w' ∧ AllAt f' []) ?_ ?_
 ·refine wpc_seq ?_
  refine wpc_region ?_
  refine s_asv (v:= vI 0) rfl ?_
  refine wpl_nil ?_
  refine nrm ?_
  obtain ⟨x2,q2,q1⟩:= oY0 q1
  have L2:= Mem.rfl' m
  refine wpc_join [6,7,10,11,12,13,14,15,16,17,18,19,20,21,22,23,24,25,26,27,28,29] (fun f' w'=> ∃ (M2 : Mem),m ≤ M2 ∧ St M2 ((bx b3 [vU x2.1,vU x2.2.1,vU x2.2.2] 150) :: (bx b2 [vU 0,vU 0,vU 0] 150) :: (bx b1 [vU a0.1,vU a0.2.1,vU a0.2.2] 150) :: As) w' ∧ AllAt f' []) ?_ ?_
  ·refine wpc_block ?_
   refine wpc_rounds [6,7,10,11,12,13,14,15,16,17,18,19,20,21,22,23,24,25,26,27,28,29] (fun n1 f' w'=> ∃ (s1 : Int × UInt64 × UInt64 × UInt64) (m6 : Mem),iter (m_ref02_round_b4 a0 a1) n1 s1 = some x2 ∧ m ≤ m6 ∧ St m6 ((bx b3 [vU s1.2.1,vU s1.2.2.1,vU s1.2.2.2] 150) :: (bx b2 [vU 0,vU 0,vU 0] 150) :: (bx b1 [vU a0.1,vU a0.2.1,vU a0.2.2] 150) :: As) w' ∧ AllAt f' [(6,vI s1.1)]) FUEL ⟨(0,0,0,0),m,q2,L2,S3,⟨rfl,trivial⟩⟩ ?_
   rintro n1 f1 w4 ho ⟨s1,m1,q3,L4,S4,ha⟩
   obtain ⟨u1,rfl⟩:= fr_of (N:= 50) ho ha
   clear ho ha
   have L3:= Mem.rfl' m1
   clear S3
   cases n1 with
   | zero=> exact (iter_zero q3).elim
   | succ n1 =>
    obtain ⟨y1,q5,q4⟩:= iter_succ q3
    unfold m_ref02_round_b4 at q5
    refine wpc_seq ?_
    refine wpc_seq ?_
    refine wpc_region ?_
    refine s_mvv (v:= vI s1.1) rfl ?_
    refine s_lss (m:= s1.1) (n:= 3) rfl rfl ?_
    refine wpl_nil ?_
    refine nrm ?_
    refine wpc_if (t:= (decide (s1.1 < 3))) rfl (fun hc1=> ?_) (fun hc1=> ?_)
    ·replace q5:= ifT hc1 q5
     refine wpc_skip ?_
     refine nrm ?_
     refine wpc_seq ?_
     refine wpc_block ?_
     refine wpc_seq ?_
     refine wpc_region ?_
     refine s_mvv (v:= vI a1) rfl ?_
     refine s_mulI (m:= 3) (n:= a1) rfl rfl ?_
     refine s_mvv (v:= vI s1.1) rfl ?_
     refine s_addI (m:= (w64 (3 * a1))) (n:= s1.1) rfl rfl ?_
     refine s_addI (m:= (w64 ((w64 (3 * a1)) + s1.1))) (n:= 1) rfl rfl ?_
     refine s_convU rfl Tryz.underlying3 Tryz.underlying22 ?_
     obtain ⟨x4,q7,q5⟩:= oY0 q5
     refine s_call Tryz.call199 (v_ref02_raised (a0:= (toU (w64 ((w64 ((w64 (3 * a1)) + s1.1)) + 1)))) (a1:= 3) S4  q7) rfl ?_
     rintro _ w5 ⟨m2,l1,S5,rfl⟩
     replace L3:= Mem.tr L3 l1
     clear S4
     replace S5 : St _ ((bx b3 [vU s1.2.1,vU s1.2.2.1,vU s1.2.2.2] 150) :: (bx b2 [vU 0,vU 0,vU 0] 150) :: (bx b1 [vU a0.1,vU a0.2.1,vU a0.2.2] 150) :: As) _:= S5
     obtain ⟨x5,q8,q5⟩:= oY0 q5
     refine s_call Tryz.call164 (v_ref01_Add (a0:= x4) (a1:= 7) S5  q8) rfl ?_
     rintro _ w6 ⟨m3,l2,S6,rfl⟩
     replace L3:= Mem.tr L3 l2
     clear S5
     replace S6 : St _ ((bx b3 [vU s1.2.1,vU s1.2.2.1,vU s1.2.2.2] 150) :: (bx b2 [vU 0,vU 0,vU 0] 150) :: (bx b1 [vU a0.1,vU a0.2.1,vU a0.2.2] 150) :: As) _:= S6
     refine s_asv (v:= vU x5) rfl ?_
     refine wpl_nil ?_
     refine nrm ?_
     refine wpc_region ?_
     refine s_mvv (v:= vI s1.1) rfl ?_
     refine s_mvv (v:= vI s1.1) rfl ?_
     obtain ⟨x6,q9,q5⟩:= oY0 q5
     refine s_idxA (i:= s1.1) rfl rfl Tryz.underlying150 Tryz.sizeOf22 (idx_rng q9).1 (idx_rng q9).2 ?_
     refine s_ld (i:= 2) (off:= 0 + s1.1.toNat * 1) (cs:= [vU x6]) S6 rfl rfl Tryz.isAgg22 Tryz.sizeOf22 (by rcases idx3 q9 with ⟨h,h'⟩ | ⟨h,h'⟩ | ⟨h,h'⟩ <;> (rw [h,h']; rfl)) (fun _=> rfl) ?_
     refine s_mvv (v:= vU x5) rfl ?_
     obtain ⟨x7,q10,q5⟩:= oY0 q5
     refine s_call Tryz.call164 (v_ref01_Add (a0:= x6) (a1:= x5) S6  q10) rfl ?_
     rintro _ w7 ⟨m4,l3,S7,rfl⟩
     replace L3:= Mem.tr L3 l3
     clear S6
     replace S7 : St _ ((bx b3 [vU s1.2.1,vU s1.2.2.1,vU s1.2.2.2] 150) :: (bx b2 [vU 0,vU 0,vU 0] 150) :: (bx b1 [vU a0.1,vU a0.2.1,vU a0.2.2] 150) :: As) _:= S7
     obtain ⟨x8,q11,q5⟩:= oY0 q5
     refine s_call Tryz.call199 (v_ref02_raised (a0:= x7) (a1:= 17) S7  q11) rfl ?_
     rintro _ w8 ⟨m5,l4,S8,rfl⟩
     replace L3:= Mem.tr L3 l4
     clear S7
     replace S8 : St _ ((bx b3 [vU s1.2.1,vU s1.2.2.1,vU s1.2.2.2] 150) :: (bx b2 [vU 0,vU 0,vU 0] 150) :: (bx b1 [vU a0.1,vU a0.2.1,vU a0.2.2] 150) :: As) _:= S8
     obtain ⟨x9,q12,q5⟩:= oY0 q5
     refine s_idxA (i:= s1.1) rfl rfl Tryz.underlying150 Tryz.sizeOf22 (idx_rng q12).1 (idx_rng q12).2 ?_
     obtain ⟨x10,q13,q5⟩:= bnd_eq q5
     obtain ⟨x11,q14,q5⟩:= bnd_eq q5
     obtain ⟨x12,q15,q5⟩:= bnd_eq q5
     refine s_st (i:= 0) (off:= 0 + s1.1.toNat * 1) S8 rfl rfl rfl Tryz.sizeOf22 (OneL.all (oneC rfl oneN)) (by rcases idx3 q12 with ⟨h,h'⟩ | ⟨h,h'⟩ | ⟨h,h'⟩ <;> (rw [h]; exact Nat.le_of_ble_eq_true rfl)) ?_
     intro w9 S9
     replace S9:= St.cellsTo (i:= 0) (l':= [vU x10,vU x11,vU x12]) S9 (by rcases idx3 q12 with ⟨h,h'⟩ | ⟨h,h'⟩ | ⟨h,h'⟩ <;> (simp only [q13,q14,q15,h]; rfl)) rfl
     replace S9 : St _ ((bx b3 [vU x10,vU x11,vU x12] 150) :: (bx b2 [vU 0,vU 0,vU 0] 150) :: (bx b1 [vU a0.1,vU a0.2.1,vU a0.2.2] 150) :: As) _:= S9
     clear S8
     refine wpl_nil ?_
     refine nrmB ?_
     refine nrm ?_
     refine wpc_region ?_
     refine s_mvv (v:= vI s1.1) rfl ?_
     refine s_addI (m:= s1.1) (n:= 1) rfl rfl ?_
     refine s_asv (v:= vI (w64 (s1.1 + 1))) rfl ?_
     refine wpl_nil ?_
     refine nrm ?_
     have e0:= sI0 q5
     subst e0
     rcases q4 with ⟨sn,e,q4'⟩ | e
     ·cases e
      exact ⟨outP,_,Nat.lt_succ_self _,⟨_,m5,q4',Mem.tr L4 L3,S9,⟨rfl,trivial⟩⟩⟩
     ·cases e
    replace q5:= ifF hc1 q5
    refine wpc_exit ?_
    refine thE ?_
    refine thE ?_
    refine exB ?_
    refine nrm ?_
    have e0:= sI0 q5
    subst e0
    rcases q4 with ⟨sn,e,_⟩ | e
    ·cases e
    ·cases e
     exact ⟨outP,m1,Mem.tr L4 L3,S4,trivial⟩
  rintro f2 w10 ho ⟨m7,l5,S10,ha⟩
  obtain ⟨u2,rfl⟩:= fr_of (N:= 50) ho ha
  clear ho ha
  replace L1:= Mem.tr L1 l5
  clear S3
  have e0:= sI0 q1
  subst e0
  exact ⟨outP,m7,L1,S10,trivial⟩
 rintro f3 w11 ho ⟨m8,l6,S11,ha⟩
 obtain ⟨u3,rfl⟩:= fr_of (N:= 50) ho ha
 replace L0:= Mem.tr L0 l6
 clear S3
 refine wpc_seq ?_
 obtain ⟨x13,q16,hm⟩:= oY0 hm
 have HM : MonoAll [(30,fv (pt b3 0)),(31,fv (vU x1.1)),(32,fv (pt b3 1)),(33,fv (vU x1.2.1)),(34,fv (vU x13)),(35,fv (pt b3 2)),(36,fv (vU x1.2.2))]:= ⟨mv,mv,mv,mv,mv,mv,mv,trivial⟩
 refine wpc_flowG HM 7 mixed rfl rfl rfl [30,31,32,33,34,35,36] (fun L f M w=> St M ((bx b3 [vU x1.1,vU x1.2.1,vU x1.2.2] 150) :: (bx b2 [vU 0,vU 0,vU 0] 150) :: (bx b1 [vU a0.1,vU a0.2.1,vU a0.2.2] 150) :: As) w) (St.drew S11 _) ?_ ?_
 ·refine ⟨?_,?_,?_,?_,?_,?_,?_,trivial⟩
  ·exact flp HM rfl [] (fun _ _=> trivial) (fun _ _ q=> s_idxA (i:= 0) rfl rfl Tryz.underlying150 Tryz.sizeOf22 (by decide) (by decide) q) rfl
  ·exact flp HM rfl [(30,_)] (fun K _=> ⟨K 0 rfl,trivial⟩) (fun _ S13 q=> s_ld (i:= 0) (cs:= [vU x1.1]) S13 rfl rfl Tryz.isAgg22 Tryz.sizeOf22 rfl (fun _=> rfl) q) rfl
  ·exact flp HM rfl [] (fun _ _=> trivial) (fun _ _ q=> s_idxA (i:= 1) rfl rfl Tryz.underlying150 Tryz.sizeOf22 (by decide) (by decide) q) rfl
  ·exact flp HM rfl [(32,_)] (fun K _=> ⟨K 2 rfl,trivial⟩) (fun _ S15 q=> s_ld (i:= 0) (cs:= [vU x1.2.1]) S15 rfl rfl Tryz.isAgg22 Tryz.sizeOf22 rfl (fun _=> rfl) q) rfl
  ·intro L f8 w16 hL hd hc ⟨m13,L13,S16,K,hO⟩
   have d1 : L 1 = true:= dep hd rfl
   have e3:= K 1 d1
   have d3 : L 3 = true:= dep hd rfl
   have e4:= K 3 d3
   obtain ⟨u8,rfl⟩:= fr_of (N:= 50) (L:= [(31,vU x1.1),(33,vU x1.2.1)]) hO ⟨e3,e4,trivial⟩
   replace S16 : St _ ((bx b3 [vU x1.1,vU x1.2.1,vU x1.2.2] 150) :: (bx b2 [vU 0,vU 0,vU 0] 150) :: (bx b1 [vU a0.1,vU a0.2.1,vU a0.2.2] 150) :: As) _:= S16
   have L14:= Mem.rfl' m13
   refine s_call Tryz.call164 (v_ref01_Add (a0:= x1.1) (a1:= x1.2.1) S16  q16) rfl ?_
   rintro _ w17 ⟨m14,l7,S17,rfl⟩
   replace L14:= Mem.tr L14 l7
   clear S16
   replace S17 : St _ ((bx b3 [vU x1.1,vU x1.2.1,vU x1.2.2] 150) :: (bx b2 [vU 0,vU 0,vU 0] 150) :: (bx b1 [vU a0.1,vU a0.2.1,vU a0.2.2] 150) :: As) _:= S17
   refine wpn ?_
   refine ⟨m14,Mem.tr L13 L14,?_,facts_step HM rfl K L14 rfl rfl rfl,outP⟩
   exact S17
  ·exact flp HM rfl [] (fun _ _=> trivial) (fun _ _ q=> s_idxA (i:= 2) rfl rfl Tryz.underlying150 Tryz.sizeOf22 (by decide) (by decide) q) rfl
  ·exact flp HM rfl [(35,_)] (fun K _=> ⟨K 5 rfl,trivial⟩) (fun _ S19 q=> s_ld (i:= 0) (cs:= [vU x1.2.2]) S19 rfl rfl Tryz.isAgg22 Tryz.sizeOf22 rfl (fun _=> rfl) q) rfl
 intro L f11 w20 hall ⟨m17,L19,S20,K,hO⟩
 have d4 : L 4 = true:= hall 4 (by decide)
 have e6:= K 4 d4
 have d6 : L 6 = true:= hall 6 (by decide)
 have e7:= K 6 d6
 obtain ⟨u11,rfl⟩:= fr_of (N:= 50) (L:= [(34,vU x13),(36,vU x1.2.2)]) hO ⟨e6,e7,trivial⟩
 replace S20 : St _ ((bx b3 [vU x1.1,vU x1.2.1,vU x1.2.2] 150) :: (bx b2 [vU 0,vU 0,vU 0] 150) :: (bx b1 [vU a0.1,vU a0.2.1,vU a0.2.2] 150) :: As) _:= S20
 replace L0:= Mem.tr L0 L19
 clear S11
 obtain ⟨x14,q17,hm⟩:= oY0 hm
 refine s_call Tryz.call164 (v_ref01_Add (a0:= x13) (a1:= x1.2.2) S20  q17) rfl ?_
 rintro _ w21 ⟨m18,l8,S21,rfl⟩
 replace L0:= Mem.tr L0 l8
 clear S20
 replace S21 : St _ ((bx b3 [vU x1.1,vU x1.2.1,vU x1.2.2] 150) :: (bx b2 [vU 0,vU 0,vU 0] 150) :: (bx b1 [vU a0.1,vU a0.2.1,vU a0.2.2] 150) :: As) _:= S21
 refine s_asv (v:= vU x14) rfl ?_
 refine wpl_nil ?_
 refine nrm ?_
 obtain ⟨x15,q18,hm⟩:= oY0 hm
 have L20:= Mem.rfl' m18
 refine wpc_seq ?_
 refine wpc_join [9,38,39,40,41,42,43,44,45,46,47,48] (fun f' w'=> ∃ (M3 : Mem),m18 ≤ M3 ∧ St M3 ((bx b3 [vU x15.1,vU x15.2.1,vU x15.2.2] 150) :: (bx b2 [vU 0,vU 0,vU 0] 150) :: (bx b1 [vU a0.1,vU a0.2.1,vU a0.2.2] 150) :: As) w' ∧ AllAt f' []) ?_ ?_
 ·refine wpc_seq ?_
  refine wpc_region ?_
  refine s_asv (v:= vI 0) rfl ?_
  refine wpl_nil ?_
  refine nrm ?_
  obtain ⟨x16,q19,q18⟩:= oY0 q18
  have L21:= Mem.rfl' m18
  refine wpc_join [9,38,39,40,41,42,43,44,45,46,47,48] (fun f' w'=> ∃ (M4 : Mem),m18 ≤ M4 ∧ St M4 ((bx b3 [vU x16.1,vU x16.2.1,vU x16.2.2] 150) :: (bx b2 [vU 0,vU 0,vU 0] 150) :: (bx b1 [vU a0.1,vU a0.2.1,vU a0.2.2] 150) :: As) w' ∧ AllAt f' []) ?_ ?_
  ·refine wpc_block ?_
   refine wpc_rounds [9,38,39,40,41,42,43,44,45,46,47,48] (fun n2 f' w'=> ∃ (s2 : Int × UInt64 × UInt64 × UInt64) (m21 : Mem),iter (m_ref02_round_b5 x14) n2 s2 = some x16 ∧ m18 ≤ m21 ∧ St m21 ((bx b3 [vU s2.2.1,vU s2.2.2.1,vU s2.2.2.2] 150) :: (bx b2 [vU 0,vU 0,vU 0] 150) :: (bx b1 [vU a0.1,vU a0.2.1,vU a0.2.2] 150) :: As) w' ∧ AllAt f' [(9,vI s2.1)]) FUEL ⟨(0,x1.1,x1.2.1,x1.2.2),m18,q19,L21,S21,⟨rfl,trivial⟩⟩ ?_
   rintro n2 f12 w22 ho ⟨s2,m19,q20,L23,S22,ha⟩
   obtain ⟨u12,rfl⟩:= fr_of (N:= 50) ho ha
   clear ho ha
   have L22:= Mem.rfl' m19
   clear S21
   cases n2 with
   | zero=> exact (iter_zero q20).elim
   | succ n2 =>
    obtain ⟨y2,q22,q21⟩:= iter_succ q20
    unfold m_ref02_round_b5 at q22
    refine wpc_seq ?_
    refine wpc_seq ?_
    refine wpc_region ?_
    refine s_mvv (v:= vI s2.1) rfl ?_
    refine s_lss (m:= s2.1) (n:= 3) rfl rfl ?_
    refine wpl_nil ?_
    refine nrm ?_
    refine wpc_if (t:= (decide (s2.1 < 3))) rfl (fun hc2=> ?_) (fun hc2=> ?_)
    ·replace q22:= ifT hc2 q22
     refine wpc_skip ?_
     refine nrm ?_
     refine wpc_seq ?_
     refine wpc_block ?_
     refine wpc_region ?_
     refine s_mvv (v:= vI s2.1) rfl ?_
     refine s_mvv (v:= vI s2.1) rfl ?_
     obtain ⟨x18,q24,q22⟩:= oY0 q22
     refine s_idxA (i:= s2.1) rfl rfl Tryz.underlying150 Tryz.sizeOf22 (idx_rng q24).1 (idx_rng q24).2 ?_
     refine s_ld (i:= 0) (off:= 0 + s2.1.toNat * 1) (cs:= [vU x18]) S22 rfl rfl Tryz.isAgg22 Tryz.sizeOf22 (by rcases idx3 q24 with ⟨h,h'⟩ | ⟨h,h'⟩ | ⟨h,h'⟩ <;> (rw [h,h']; rfl)) (fun _=> rfl) ?_
     refine s_mvv (v:= vU x14) rfl ?_
     obtain ⟨x19,q25,q22⟩:= oY0 q22
     refine s_call Tryz.call164 (v_ref01_Add (a0:= x18) (a1:= x14) S22  q25) rfl ?_
     rintro _ w23 ⟨m20,l9,S23,rfl⟩
     replace L22:= Mem.tr L22 l9
     clear S22
     replace S23 : St _ ((bx b3 [vU s2.2.1,vU s2.2.2.1,vU s2.2.2.2] 150) :: (bx b2 [vU 0,vU 0,vU 0] 150) :: (bx b1 [vU a0.1,vU a0.2.1,vU a0.2.2] 150) :: As) _:= S23
     obtain ⟨x20,q26,q22⟩:= oY0 q22
     refine s_idxA (i:= s2.1) rfl rfl Tryz.underlying150 Tryz.sizeOf22 (idx_rng q26).1 (idx_rng q26).2 ?_
     obtain ⟨x21,q27,q22⟩:= bnd_eq q22
     obtain ⟨x22,q28,q22⟩:= bnd_eq q22
     obtain ⟨x23,q29,q22⟩:= bnd_eq q22
     refine s_st (i:= 0) (off:= 0 + s2.1.toNat * 1) S23 rfl rfl rfl Tryz.sizeOf22 (OneL.all (oneC rfl oneN)) (by rcases idx3 q26 with ⟨h,h'⟩ | ⟨h,h'⟩ | ⟨h,h'⟩ <;> (rw [h]; exact Nat.le_of_ble_eq_true rfl)) ?_
     intro w24 S24
     replace S24:= St.cellsTo (i:= 0) (l':= [vU x21,vU x22,vU x23]) S24 (by rcases idx3 q26 with ⟨h,h'⟩ | ⟨h,h'⟩ | ⟨h,h'⟩ <;> (simp only [q27,q28,q29,h]; rfl)) rfl
     replace S24 : St _ ((bx b3 [vU x21,vU x22,vU x23] 150) :: (bx b2 [vU 0,vU 0,vU 0] 150) :: (bx b1 [vU a0.1,vU a0.2.1,vU a0.2.2] 150) :: As) _:= S24
     clear S23
     refine wpl_nil ?_
     refine nrmB ?_
     refine nrm ?_
     refine wpc_region ?_
     refine s_mvv (v:= vI s2.1) rfl ?_
     refine s_addI (m:= s2.1) (n:= 1) rfl rfl ?_
     refine s_asv (v:= vI (w64 (s2.1 + 1))) rfl ?_
     refine wpl_nil ?_
     refine nrm ?_
     have e0:= sI0 q22
     subst e0
     rcases q21 with ⟨sn,e,q21'⟩ | e
     ·cases e
      exact ⟨outP,_,Nat.lt_succ_self _,⟨_,m20,q21',Mem.tr L23 L22,S24,⟨rfl,trivial⟩⟩⟩
     ·cases e
    replace q22:= ifF hc2 q22
    refine wpc_exit ?_
    refine thE ?_
    refine thE ?_
    refine exB ?_
    refine nrm ?_
    have e0:= sI0 q22
    subst e0
    rcases q21 with ⟨sn,e,_⟩ | e
    ·cases e
    ·cases e
     exact ⟨outP,m19,Mem.tr L23 L22,S22,trivial⟩
  rintro f13 w25 ho ⟨m22,l10,S25,ha⟩
  obtain ⟨u13,rfl⟩:= fr_of (N:= 50) ho ha
  clear ho ha
  replace L20:= Mem.tr L20 l10
  clear S21
  have e0:= sI0 q18
  subst e0
  exact ⟨outP,m22,L20,S25,trivial⟩
 rintro f14 w26 ho ⟨m23,l11,S26,ha⟩
 obtain ⟨u14,rfl⟩:= fr_of (N:= 50) ho ha
 replace L0:= Mem.tr L0 l11
 clear S21
 refine wpc_seq ?_
 refine wpc_region ?_
 refine s_ld (i:= 0) (cs:= [vU x15.1,vU x15.2.1,vU x15.2.2]) S26 rfl rfl Tryz.isAgg150 Tryz.sizeOf150 rfl (fun h=> by cases h) ?_
 refine s_stL (i:= 1) S26 rfl rfl rfl Tryz.sizeOf150 (oneC rfl (oneC rfl (oneC rfl oneN))) rfl ?_
 intro w27 S27
 replace S27 : St _ ((bx b3 [vU x15.1,vU x15.2.1,vU x15.2.2] 150) :: (bx b2 [vU x15.1,vU x15.2.1,vU x15.2.2] 150) :: (bx b1 [vU a0.1,vU a0.2.1,vU a0.2.2] 150) :: As) _:= S27
 clear S26
 refine wpl_nil ?_
 refine nrm ?_
 refine wpc_ret ?_
 refine outRw ?_
 intro we hpd
 replace S27:= St.pd S27 hpd
 have SR:= S27
 obtain ⟨m24,l12,S28⟩:= St.drop S27 0
 replace L0:= Mem.tr L0 l12
 replace S28 : St _ ((bx b2 [vU x15.1,vU x15.2.1,vU x15.2.2] 150) :: (bx b1 [vU a0.1,vU a0.2.1,vU a0.2.2] 150) :: As) _:= S28
 obtain ⟨m25,l13,S29⟩:= St.drop S28 0
 replace L0:= Mem.tr L0 l13
 clear S28
 replace S29 : St _ ((bx b1 [vU a0.1,vU a0.2.1,vU a0.2.2] 150) :: As) _:= S29
 obtain ⟨m26,l14,S30⟩:= St.drop S29 0
 replace L0:= Mem.tr L0 l14
 clear S29
 replace S30 : St _ (As) _:= S30
 have e0:= sI0 hm
 subst e0
 exact outR [_] rfl ⟨res_box (i:= 1) (off:= 0) (cs:= [vU x15.1,vU x15.2.1,vU x15.2.2]) SR rfl rfl Tryz.isAgg150 Tryz.sizeOf150 rfl (fun h=> by cases h),trivial⟩ ⟨_,L0,S30,rfl⟩
theorem s_ref02_round {a0 : UInt64 × UInt64 × UInt64} {a1 : Int} {r : UInt64 × UInt64 × UInt64} (hm : m_ref02_round a0 a1 = some r) : Sf prog 188 [ag (e_a3_eU a0),.d (.i a1)] (ag (e_a3_eU r)) :=
 ⟨call188,fun η m As w vs hv0 hd S=> by
  have S : St m As w:= S
  obtain ⟨v0,u0,rfl,r0,hv1⟩:= RelL.cons_inv hv0
  obtain ⟨c0,rfl,g0⟩:= Br.ofA b_a3_eU r0
  obtain rfl:= rep_arr3_UInt64 g0
  obtain ⟨v1,u1,rfl,r1,hv2⟩:= RelL.cons_inv hv1
  obtain rfl:= r1.i_inv
  obtain rfl:= RelL.nil_inv hv2
  refine CallsR.mono (w_ref02_round S  hm) ?_
  rintro v w' ⟨M,hle,S0,rfl⟩
  exact ⟨M,none0,_,_,_,hle,dom0 hd _,⟨rfl,rfl,rfl⟩,fun n h=> absurd rfl h,(Br.toA b_a3_eU (mk_arr3_UInt64)),S0⟩⟩
def m_ref02_Mix_b3  (s1 : Int × UInt64 × UInt64 × UInt64) : Option ((Int × UInt64 × UInt64 × UInt64) ⊕ (UInt64 × UInt64 × UInt64)) :=
 if (decide (s1.1 < 8)) = true then
  obind (m_ref02_round s1.2 s1.1) fun x4 =>
  some (.inl ((w64 (s1.1 + 1)),x4.1,x4.2.1,x4.2.2))
 else
 some (.inr (s1.2.1,s1.2.2.1,s1.2.2.2))
def m_ref02_Mix (a0 : UInt64 × UInt64 × UInt64) : Option (UInt64 × UInt64 × UInt64) :=
 obind (
  obind (iter m_ref02_Mix_b3 FUEL (0,a0.1,a0.2.1,a0.2.2)) fun x2 =>
  some (x2.1,x2.2.1,x2.2.2)
 ) fun x1 =>
 some x1
theorem w_ref02_Mix {a0 : UInt64 × UInt64 × UInt64} {r : UInt64 × UInt64 × UInt64} (hm : m_ref02_Mix a0 = some r) : Sf prog 165 [ag (e_a3_eU a0)] (ag (e_a3_eU r)) :=
 sp call165 func165 rfl ntmps165 rfl fun D0 As η0 m0 hd=> by
  unfold m_ref02_Mix at hm
  obtain ⟨x1,q1,hm⟩:= oY0 hm
  obtain ⟨x2,q2,q1⟩:= oY0 q1
  refine gjU 0 (fun (_ : Unit)=> let (y_0,y_1,y_2):= x1; ⟨[(1,.pb 0 0),(2,.pb 1 0)],[(0,.box 1 [.d (.u 0),.d (.u 0),.d (.u 0)] 150),(1,.box 0 [.d (.u y_0),.d (.u y_1),.d (.u y_2)] 150)],[],2⟩) (fun _=> True) (by kernel_rfl) (fun Jp bk1=> ?_) fun _ _=> ?_
  ·refine gjU 0 (fun (_ : Unit)=> let (y_0,y_1,y_2):= x2; ⟨[(1,.pb 0 0),(2,.pb 1 0)],[(0,.box 1 [.d (.u 0),.d (.u 0),.d (.u 0)] 150),(1,.box 0 [.d (.u y_0),.d (.u y_1),.d (.u y_2)] 150)],[],2⟩) (fun _=> True) (by kernel_rfl) (fun Jp bk2=> ?_) fun _ _=> ?_
   ·refine gl hd (fun (p : Nat × (Int × UInt64 × UInt64 × UInt64))=> let (p0,p_0,p_1,p_2,p_3):= p; ⟨[(1,.pb 0 0),(2,.pb 1 0),(3,.d (.i p_0))],[(0,.box 1 [.d (.u 0),.d (.u 0),.d (.u 0)] 150),(1,.box 0 [.d (.u p_1),.d (.u p_2),.d (.u p_3)] 150)],[],2⟩) (fun p=> iter m_ref02_Mix_b3 p.1 p.2 = some x2) (fun p=> p.1) (FUEL,(0,a0.1,a0.2.1,a0.2.2)) q2 (by kernel_rfl) ?_
    rintro ⟨n1,s1⟩ q3 Jl bl1
    cases n1 with
    | zero=> exact (iter_zero q3).elim
    | succ n1 =>
     obtain ⟨y1,q5,q4⟩:= iter_succ q3
     unfold m_ref02_Mix_b3 at q5
     refine gi q5 (by kernel_rfl) (fun hc1 q5=> ?_) fun hc1 q5=> ?_
     ·skip
      obtain ⟨x4,q7,q5⟩:= oY0 q5
      refine gc (fun _=> s_ref02_round q7) (by kernel_rfl) ?_
      have e0:= sI0 q5
      subst e0
      rcases q4 with ⟨sn,e,q4'⟩ | e
      ·have e:= Sum.inl.inj e
       subst e
       exact gb bl1 hd (n1,_) ⟨q4',Nat.lt_succ_self _⟩ (by kernel_rfl)
      cases sum_lr e
     have e0:= sI0 q5
     subst e0
     rcases q4 with ⟨sn,e,_⟩ | e
     ·cases sum_rl e
     have e:= Sum.inr.inj e
     subst e
     exact gb bk2 hd () trivial (by kernel_rfl)
   have e0:= sI0 q1
   subst e0
   exact gb bk1 hd () trivial (by kernel_rfl)
  have e0:= sI0 hm
  subst e0
  exact gend hd (by kernel_rfl)
def m_ref02_Sum_b3 (x1 : List UInt64) (s1 : Int × UInt64 × UInt64 × UInt64) : Option ((Int × UInt64 × UInt64 × UInt64) ⊕ (UInt64 × UInt64 × UInt64)) :=
 if ((decide (s1.1 < (x1.length : Int))) || (s1.1 == 0)) = true then
  obind (
   if (decide (s1.1 < (x1.length : Int))) = true then
    obind (idx x1 s1.1) fun x6 =>
    obind (m_ref01_Add s1.2.1 x6) fun x7 =>
    some x7
   else
   some s1.2.1
  ) fun x5 =>
  obind (
   if (decide ((w64 (s1.1 + 1)) < (x1.length : Int))) = true then
    obind (idx x1 (w64 (s1.1 + 1))) fun x9 =>
    obind (m_ref01_Add s1.2.2.1 x9) fun x10 =>
    some x10
   else
   some s1.2.2.1
  ) fun x8 =>
  obind (m_ref02_Mix (x5,x8,s1.2.2.2)) fun x11 =>
  some (.inl ((w64 (s1.1 + 2)),x11.1,x11.2.1,x11.2.2))
 else
 some (.inr (s1.2.1,s1.2.2.1,s1.2.2.2))
def m_ref02_Sum (a0 : List UInt8) : Option (UInt64 × UInt64) :=
 obind (m_ref01_Of a0) fun x1 =>
 obind (
  obind (iter (m_ref02_Sum_b3 x1) FUEL (0,0,0,(toU (a0.length : Int)))) fun x3 =>
  some (x3.1,x3.2.1,x3.2.2)
 ) fun x2 =>
 some (x2.1,x2.2.1)
theorem w_ref02_Sum {a0 : List UInt8} {r : UInt64 × UInt64} (hm : m_ref02_Sum a0 = some r) : Sf prog 130 [sl eB a0] (ag (e_a2_eU r)) :=
 sp call130 func130 rfl ntmps130 rfl fun D0 As η0 m0 hd=> by
  unfold m_ref02_Sum at hm
  obtain ⟨x1,q1,hm⟩:= oY0 hm
  refine gco (w_ref01_Of q1) (by kernel_rfl) ?_
  obtain ⟨x2,q2,hm⟩:= oY0 hm
  obtain ⟨x3,q3,q2⟩:= oY0 q2
  refine gjU 0 (fun (_ : Unit)=> let (y_0,y_1,y_2):= x2; ⟨[(2,.pb 0 0),(4,.pb 1 0)],[(0,.box 1 [.d (.u y_0),.d (.u y_1),.d (.u y_2)] 150),(1,.box 0 [.d (.u 0),.d (.u 0)] 38)],[],2⟩) (fun _=> True) (by kernel_rfl) (fun Jp bk1=> ?_) fun _ _=> ?_
  ·refine gjU 0 (fun (_ : Unit)=> let (y_0,y_1,y_2):= x3; ⟨[(2,.pb 0 0),(4,.pb 1 0)],[(0,.box 1 [.d (.u y_0),.d (.u y_1),.d (.u y_2)] 150),(1,.box 0 [.d (.u 0),.d (.u 0)] 38)],[],2⟩) (fun _=> True) (by kernel_rfl) (fun Jp bk2=> ?_) fun _ _=> ?_
   ·refine gl hd (fun (p : Nat × (Int × UInt64 × UInt64 × UInt64))=> let (p0,p_0,p_1,p_2,p_3):= p; ⟨[(2,.pb 0 0),(3,.ow 1),(4,.pb 2 0),(5,.d (.i p_0))],[(0,.box 2 [.d (.u p_1),.d (.u p_2),.d (.u p_3)] 150),(1,.row 1 1 _ eU x1),(2,.box 0 [.d (.u 0),.d (.u 0)] 38)],[],3⟩) (fun p=> iter (m_ref02_Sum_b3 x1) p.1 p.2 = some x3) (fun p=> p.1) (FUEL,(0,0,0,(toU (a0.length : Int)))) q3 (by kernel_rfl) ?_
    rintro ⟨n1,s1⟩ q4 Jl bl1
    cases n1 with
    | zero=> exact (iter_zero q4).elim
    | succ n1 =>
     obtain ⟨y1,q6,q5⟩:= iter_succ q4
     unfold m_ref02_Sum_b3 at q6
     refine gi q6 (by kernel_rfl) (fun hc1 q6=> ?_) fun hc1 q6=> ?_
     ·skip
      obtain ⟨x5,q8,q6⟩:= oY0 q6
      refine gj (fun (_ : Unit)=> ⟨[(2,.pb 0 0),(3,.ow 1),(4,.pb 2 0),(5,.d (.i s1.1))],[(0,.box 2 [.d (.u x5),.d (.u s1.2.2.1),.d (.u s1.2.2.2)] 150),(1,.row 1 1 _ eU x1),(2,.box 0 [.d (.u 0),.d (.u 0)] 38)],[],3⟩) (fun _=> True) (by kernel_rfl) (fun Jp bk3=> ?_) fun _ _=> ?_
      ·refine gi q8 (by kernel_rfl) (fun hc2 q8=> ?_) fun hc2 q8=> ?_
       ·obtain ⟨x6,q9,q8⟩:= oY0 q8
        refine gidxO (E:= eU) (fun _=> q9) (by kernel_rfl) ?_
        refine gldO (k:= 1) (fo:= 0) (nn:= 1) (ag:= false) (E:= eU) (fun _=> rfl) (fun _=> q9) (by kernel_rfl) ?_
        obtain ⟨x7,q10,q8⟩:= oY0 q8
        refine gc (fun _=> w_ref01_Add q10) (by kernel_rfl) ?_
        have e0:= sI0 q8
        subst e0
        exact gb bk3 hd () trivial (by kernel_rfl)
       have e0:= sI0 q8
       subst e0
       exact gb bk3 hd () trivial (by kernel_rfl)
      obtain ⟨x8,q11,q6⟩:= oY0 q6
      refine gj (fun (_ : Unit)=> ⟨[(2,.pb 0 0),(3,.ow 1),(4,.pb 2 0),(5,.d (.i s1.1))],[(0,.box 2 [.d (.u x5),.d (.u x8),.d (.u s1.2.2.2)] 150),(1,.row 1 1 _ eU x1),(2,.box 0 [.d (.u 0),.d (.u 0)] 38)],[],3⟩) (fun _=> True) (by kernel_rfl) (fun Jp bk4=> ?_) fun _ _=> ?_
      ·refine gi q11 (by kernel_rfl) (fun hc3 q11=> ?_) fun hc3 q11=> ?_
       ·obtain ⟨x9,q12,q11⟩:= oY0 q11
        refine gidxO (E:= eU) (fun _=> q12) (by kernel_rfl) ?_
        refine gldO (k:= 1) (fo:= 0) (nn:= 1) (ag:= false) (E:= eU) (fun _=> rfl) (fun _=> q12) (by kernel_rfl) ?_
        obtain ⟨x10,q13,q11⟩:= oY0 q11
        refine gc (fun _=> w_ref01_Add q13) (by kernel_rfl) ?_
        have e0:= sI0 q11
        subst e0
        exact gb bk4 hd () trivial (by kernel_rfl)
       have e0:= sI0 q11
       subst e0
       exact gb bk4 hd () trivial (by kernel_rfl)
      obtain ⟨x11,q14,q6⟩:= oY0 q6
      refine gc (fun _=> w_ref02_Mix q14) (by kernel_rfl) ?_
      have e0:= sI0 q6
      subst e0
      rcases q5 with ⟨sn,e,q5'⟩ | e
      ·have e:= Sum.inl.inj e
       subst e
       exact gb bl1 hd (n1,_) ⟨q5',Nat.lt_succ_self _⟩ (by kernel_rfl)
      cases sum_lr e
     have e0:= sI0 q6
     subst e0
     rcases q5 with ⟨sn,e,_⟩ | e
     ·cases sum_rl e
     have e:= Sum.inr.inj e
     subst e
     exact gb bk2 hd () trivial (by kernel_rfl)
   have e0:= sI0 q2
   subst e0
   exact gb bk1 hd () trivial (by kernel_rfl)
  have e0:= sI0 hm
  subst e0
  exact gend hd (by kernel_rfl)
def m_ref02_Eight_b1 (a0 : UInt64) (s1 : (List UInt8) × Int) : Option (((List UInt8) × Int) ⊕ ((List UInt8))) :=
 if (decide (s1.2 ≥ 0)) = true then
  obind (app 1 s1.1 ([(toB ((shrU a0 ((toU (w64 (8 * s1.2))).toNat)).toNat : Int))] : List UInt8)) fun x4 =>
  some (.inl (x4,(w64 (s1.2 - 1))))
 else
 some (.inr s1.1)
def m_ref02_Eight (a0 : UInt64) : Option (List UInt8) :=
 obind (
  obind (iter (m_ref02_Eight_b1 a0) FUEL (([] : List UInt8),7)) fun x2 =>
  some x2
 ) fun x1 =>
 some x1
theorem w_ref02_Eight {a0 : UInt64} {r : List UInt8} (hm : m_ref02_Eight a0 = some r) : Sp prog 166 [.d (.u a0)] [] 0 (is (.ow 0) [.row 0 1 _ eB r] 1) :=
 sp call166 func166 rfl ntmps166 rfl fun D0 As η0 m0 hd=> by
  unfold m_ref02_Eight at hm
  obtain ⟨x1,q1,hm⟩:= oY0 hm
  obtain ⟨x2,q2,q1⟩:= oY0 q1
  refine gnilU 0 eB 3 1 (by kernel_rfl) ?_
  refine gjU 0 (fun (_ : Unit)=> ⟨[(3,.ow 0)],[(0,.row 0 1 _ eB x1)],[],1⟩) (fun _=> True) (by kernel_rfl) (fun Jp bk1=> ?_) fun _ _=> ?_
  ·refine gjU 0 (fun (_ : Unit)=> ⟨[(3,.ow 0)],[(0,.row 0 1 _ eB x2)],[],1⟩) (fun _=> True) (by kernel_rfl) (fun Jp bk2=> ?_) fun _ _=> ?_
   ·refine gl hd (fun (p : Nat × ((List UInt8) × Int))=> let (p0,p_0,p_1):= p; ⟨[(0,.d (.u a0)),(3,.ow 0),(4,.d (.i p_1))],[(0,.row 0 1 _ eB p_0)],[],1⟩) (fun p=> iter (m_ref02_Eight_b1 a0) p.1 p.2 = some x2) (fun p=> p.1) (FUEL,(([] : List UInt8),7)) q2 (by kernel_rfl) ?_
    rintro ⟨n1,s1⟩ q3 Jl bl1
    cases n1 with
    | zero=> exact (iter_zero q3).elim
    | succ n1 =>
     obtain ⟨y1,q5,q4⟩:= iter_succ q3
     unfold m_ref02_Eight_b1 at q5
     refine gi q5 (by kernel_rfl) (fun hc1 q5=> ?_) fun hc1 q5=> ?_
     ·skip
      refine glitF (k:= 1) eB ([(toB ((shrU a0 ((toU (w64 (8 * s1.2))).toNat)).toNat : Int))] : List UInt8) (fun _=> rfl) (by kernel_rfl) ?_
      obtain ⟨x4,q7,q5⟩:= oY0 q5
      refine gapp (k:= 1) (E:= eB) (fun _=> rfl) q7 (by kernel_rfl) ?_
      have e0:= sI0 q5
      subst e0
      rcases q4 with ⟨sn,e,q4'⟩ | e
      ·have e:= Sum.inl.inj e
       subst e
       exact gb bl1 hd (n1,_) ⟨q4',Nat.lt_succ_self _⟩ (by kernel_rfl)
      cases sum_lr e
     have e0:= sI0 q5
     subst e0
     rcases q4 with ⟨sn,e,_⟩ | e
     ·cases sum_rl e
     have e:= Sum.inr.inj e
     subst e
     exact gb bk2 hd () trivial (by kernel_rfl)
   have e0:= sI0 q1
   subst e0
   exact gb bk1 hd () trivial (by kernel_rfl)
  have e0:= sI0 hm
  subst e0
  exact gend hd (by kernel_rfl)
def m_ref02_Coded_b1 (a1 : List (List UInt8)) (s1 : (List UInt8) × Int) : Option (((List UInt8) × Int) ⊕ ((List UInt8))) :=
 if (decide (s1.2 < (a1.length : Int))) = true then
  obind (idx a1 s1.2) fun x5 =>
  obind (m_ref02_Eight (toU (x5.length : Int))) fun x6 =>
  obind (cut x6 4 (x6.length : Int)) fun x7 =>
  obind (app 1 s1.1 x7) fun x8 =>
  obind (idx a1 s1.2) fun x9 =>
  obind (app 1 x8 x9) fun x10 =>
  some (.inl (x10,(w64 (s1.2 + 1))))
 else
 some (.inr s1.1)
def m_ref02_Coded (a0 : ByteArray) (a1 : List (List UInt8)) : Option (List UInt8) :=
 obind (app 1 ([(toB (a0.size : Int))] : List UInt8) a0.data.toList) fun x1 =>
 obind (
  obind (iter (m_ref02_Coded_b1 a1) FUEL (x1,0)) fun x3 =>
  some x3
 ) fun x2 =>
 some x2
theorem w_ref02_Coded {a0 : ByteArray} {a1 : List (List UInt8)} {r : List UInt8} (hm : m_ref02_Coded a0 a1 = some r) : Sp prog 131 [.d (.s a0),sl (eL eB) a1] [] 0 (is (.ow 0) [.row 0 1 _ eB r] 1) :=
 sp call131 func131 rfl ntmps131 rfl fun D0 As η0 m0 hd=> by
  unfold m_ref02_Coded at hm
  refine glit (k:= 1) eB ([(toB (a0.size : Int))] : List UInt8) (fun _=> rfl) (by kernel_rfl) ?_
  obtain ⟨x1,q1,hm⟩:= oY0 hm
  refine gapS q1 (by kernel_rfl) ?_
  obtain ⟨x2,q2,hm⟩:= oY0 hm
  obtain ⟨x3,q3,q2⟩:= oY0 q2
  refine gjU 0 (fun (_ : Unit)=> ⟨[(5,.ow 0)],[(0,.row 0 1 _ eB x2)],[],1⟩) (fun _=> True) (by kernel_rfl) (fun Jp bk1=> ?_) fun _ _=> ?_
  ·refine gjU 0 (fun (_ : Unit)=> ⟨[(5,.ow 0)],[(0,.row 0 1 _ eB x3)],[],1⟩) (fun _=> True) (by kernel_rfl) (fun Jp bk2=> ?_) fun _ _=> ?_
   ·refine gl hd (fun (p : Nat × ((List UInt8) × Int))=> let (p0,p_0,p_1):= p; ⟨[(1,sl (eL eB) a1),(5,.ow 0),(6,.d (.i p_1))],[(0,.row 0 1 _ eB p_0)],[],1⟩) (fun p=> iter (m_ref02_Coded_b1 a1) p.1 p.2 = some x3) (fun p=> p.1) (FUEL,(x1,0)) q3 (by kernel_rfl) ?_
    rintro ⟨n1,s1⟩ q4 Jl bl1
    cases n1 with
    | zero=> exact (iter_zero q4).elim
    | succ n1 =>
     obtain ⟨y1,q6,q5⟩:= iter_succ q4
     unfold m_ref02_Coded_b1 at q6
     refine gi q6 (by kernel_rfl) (fun hc1 q6=> ?_) fun hc1 q6=> ?_
     ·skip
      obtain ⟨x5,q8,q6⟩:= oY0 q6
      refine gidx (k:= 1) (E:= (eL eB)) (fun _=> rfl) (fun _=> q8) (by kernel_rfl) ?_
      obtain ⟨x6,q9,q6⟩:= oY0 q6
      refine gco (w_ref02_Eight q9) (by kernel_rfl) ?_
      obtain ⟨x7,q10,q6⟩:= oY0 q6
      refine gcutF (k:= 1) (E:= eB) (fun _=> rfl) q10 (by kernel_rfl) ?_
      obtain ⟨x8,q11,q6⟩:= oY0 q6
      refine gapp (k:= 1) (E:= eB) (fun _=> rfl) q11 (by kernel_rfl) ?_
      obtain ⟨x9,q12,q6⟩:= oY0 q6
      refine gidx (k:= 1) (E:= (eL eB)) (fun _=> rfl) (fun _=> q12) (by kernel_rfl) ?_
      obtain ⟨x10,q13,q6⟩:= oY0 q6
      refine gapp (k:= 1) (E:= eB) (fun _=> rfl) q13 (by kernel_rfl) ?_
      have e0:= sI0 q6
      subst e0
      rcases q5 with ⟨sn,e,q5'⟩ | e
      ·have e:= Sum.inl.inj e
       subst e
       exact gb bl1 hd (n1,_) ⟨q5',Nat.lt_succ_self _⟩ (by kernel_rfl)
      cases sum_lr e
     have e0:= sI0 q6
     subst e0
     rcases q5 with ⟨sn,e,_⟩ | e
     ·cases sum_rl e
     have e:= Sum.inr.inj e
     subst e
     exact gb bk2 hd () trivial (by kernel_rfl)
   have e0:= sI0 q2
   subst e0
   exact gb bk1 hd () trivial (by kernel_rfl)
  have e0:= sI0 hm
  subst e0
  exact gend hd (by kernel_rfl)
def m_ref02_Tagged (a0 : ByteArray) (a1 : List (List UInt8)) : Option (UInt64 × UInt64) :=
 obind (m_ref02_Coded a0 a1) fun x1 =>
 obind (m_ref02_Sum x1) fun x2 =>
 some x2
theorem w_ref02_Tagged {a0 : ByteArray} {a1 : List (List UInt8)} {r : UInt64 × UInt64} (hm : m_ref02_Tagged a0 a1 = some r) : Sf prog 90 [.d (.s a0),sl (eL eB) a1] (ag (e_a2_eU r)) :=
 sp call90 func90 rfl ntmps90 rfl fun D0 As η0 m0 hd=> by
  unfold m_ref02_Tagged at hm
  obtain ⟨x1,q1,hm⟩:= oY0 hm
  refine gco (w_ref02_Coded q1) (by kernel_rfl) ?_
  obtain ⟨x2,q2,hm⟩:= oY0 hm
  refine gco (w_ref02_Sum q2) (by kernel_rfl) ?_
  have e0:= sI0 hm
  subst e0
  exact gend hd (by kernel_rfl)
def m_ref08_Leaf (a0 : List UInt8) : Option (UInt64 × UInt64) :=
 obind (m_ref02_Tagged (⟨#[108,101,97,102]⟩ : ByteArray) ([a0] : List (List UInt8))) fun x1 =>
 some x1
theorem w_ref08_Leaf {a0 : List UInt8} {r : UInt64 × UInt64} (hm : m_ref08_Leaf a0 = some r) : Sf prog 52 [sl eB a0] (ag (e_a2_eU r)) :=
 sp call52 func52 rfl ntmps52 rfl fun D0 As η0 m0 hd=> by
  unfold m_ref08_Leaf at hm
  refine glitF (k:= 1) (eL eB) ([a0] : List (List UInt8)) (fun _=> rfl) (by kernel_rfl) ?_
  obtain ⟨x1,q1,hm⟩:= oY0 hm
  refine gc (fun _=> w_ref02_Tagged q1) (by kernel_rfl) ?_
  have e0:= sI0 hm
  subst e0
  exact gend hd (by kernel_rfl)
def m_ref18_Leaf (a0 : g_api_Cert) : Option ((UInt64 × UInt64) × Int) :=
 obind (m_ref18_Pre a0) fun x1 =>
 if (x1.2 != 0) = true then
  some ((0,0),x1.2)
 else
 obind (m_ref08_Leaf x1.1) fun x2 =>
 some (x2,0)
theorem w_ref18_Leaf {a0 : g_api_Cert} {r : (UInt64 × UInt64) × Int} (hm : m_ref18_Leaf a0 = some r) : Sf prog 25 [ag (e_api_Cert a0)] (.tup [ag (e_a2_eU r.1),.d (.i r.2)]) :=
 sp call25 func25 rfl ntmps25 rfl fun D0 As η0 m0 hd=> by
  unfold m_ref18_Leaf at hm
  obtain ⟨x1,q1,hm⟩:= oY0 hm
  refine gco (w_ref18_Pre q1) (by kernel_rfl) ?_
  refine gi hm (by kernel_rfl) (fun hc1 hm=> ?_) fun hc1 hm=> ?_
  ·skip
   have e0:= sI0 hm
   subst e0
   exact gend hd (by kernel_rfl)
  obtain ⟨x2,q2,hm⟩:= oY0 hm
  refine gco (w_ref08_Leaf q2) (by kernel_rfl) ?_
  have e0:= sI0 hm
  subst e0
  exact gend hd (by kernel_rfl)
def m_law18_CertPuts (a0 : g_api_Cert) : Option Bool :=
 obind (m_law18_live ) fun x1 =>
 if (!x1) = true then
  some false
 else
 obind (m_ref18_Few a0) fun x2 =>
 if (!x2) = true then
  some true
 else
 obind (m_cert_Pre a0) fun x3 =>
 obind (m_ref18_Pre a0) fun x4 =>
 obind (m_cert_Body a0) fun x5 =>
 obind (m_ref18_Body a0) fun x6 =>
 obind (m_cert_Put a0) fun x7 =>
 obind (m_ref18_Put a0) fun x8 =>
 obind (m_cert_Leaf a0) fun x9 =>
 obind (m_ref18_Leaf a0) fun x10 =>
 bnd (((((((((eqS (bs x3.1) (bs x4.1)) && (x3.2 == x4.2)) && (eqS (bs x5.1) (bs x6.1))) && (x5.2 == x6.2)) && (eqS (bs x7.1) (bs x8.1))) && (x7.2 == x8.2)) && (eqSum x9.1 x10.1)) && (x9.2 == x10.2))) fun x11 =>
 some x11
theorem w_law18_CertPuts {a0 : g_api_Cert} {r : Bool} (hm : m_law18_CertPuts a0 = some r) : Sf prog 4 [ag (e_api_Cert a0)] (.d (.t r)) :=
 sp call4 func4 rfl ntmps4 rfl fun D0 As η0 m0 hd=> by
  unfold m_law18_CertPuts at hm
  obtain ⟨x1,q1,hm⟩:= oY0 hm
  refine gc (fun _=> w_law18_live q1) (by kernel_rfl) ?_
  refine gi hm (by kernel_rfl) (fun hc1 hm=> ?_) fun hc1 hm=> ?_
  ·skip
   have e0:= sI0 hm
   subst e0
   exact gend hd (by kernel_rfl)
  obtain ⟨x2,q2,hm⟩:= oY0 hm
  refine gc (fun _=> w_ref18_Few q2) (by kernel_rfl) ?_
  refine gi hm (by kernel_rfl) (fun hc2 hm=> ?_) fun hc2 hm=> ?_
  ·skip
   have e0:= sI0 hm
   subst e0
   exact gend hd (by kernel_rfl)
  obtain ⟨x3,q3,hm⟩:= oY0 hm
  refine gc (fun _=> d_cert_Pre q3) (by kernel_rfl) ?_
  obtain ⟨x4,q4,hm⟩:= oY0 hm
  refine gc (fun _=> d_ref18_Pre q4) (by kernel_rfl) ?_
  obtain ⟨x5,q5,hm⟩:= oY0 hm
  refine gc (fun _=> d_cert_Body q5) (by kernel_rfl) ?_
  obtain ⟨x6,q6,hm⟩:= oY0 hm
  refine gc (fun _=> d_ref18_Body q6) (by kernel_rfl) ?_
  obtain ⟨x7,q7,hm⟩:= oY0 hm
  refine gc (fun _=> d_cert_Put q7) (by kernel_rfl) ?_
  obtain ⟨x8,q8,hm⟩:= oY0 hm
  refine gc (fun _=> d_ref18_Put q8) (by kernel_rfl) ?_
  obtain ⟨x9,q9,hm⟩:= oY0 hm
  refine gc (fun _=> w_cert_Leaf q9) (by kernel_rfl) ?_
  obtain ⟨x10,q10,hm⟩:= oY0 hm
  refine gc (fun _=> w_ref18_Leaf q10) (by kernel_rfl) ?_
  refine gbs (xs:= x3.1) (by kernel_rfl) ?_
  refine gbs (xs:= x4.1) (by kernel_rfl) ?_
  refine gbs (xs:= x5.1) (by kernel_rfl) ?_
  refine gbs (xs:= x6.1) (by kernel_rfl) ?_
  refine gbs (xs:= x7.1) (by kernel_rfl) ?_
  refine gbs (xs:= x8.1) (by kernel_rfl) ?_
  have hm:= bnd_is hm
  let x11 : Bool:= (((((((((eqS (bs x3.1) (bs x4.1)) && (x3.2 == x4.2)) && (eqS (bs x5.1) (bs x6.1))) && (x5.2 == x6.2)) && (eqS (bs x7.1) (bs x8.1))) && (x7.2 == x8.2)) && (eqSum x9.1 x10.1)) && (x9.2 == x10.2)))
  have e0:= sI0 hm
  subst e0
  exact gend hd (by kernel_rfl)
end Go.Proofs.YtlnbckkkapbdmaaGreatDoor
