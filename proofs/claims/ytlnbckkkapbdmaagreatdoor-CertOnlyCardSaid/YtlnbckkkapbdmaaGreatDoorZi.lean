/- Several texts, one behind the other. Conditions: none. -/
import Derived.Test.YtlnbckkkapbdmaaGreatDoorZf
import Derived.Test.YtlnbckkkapbdmaaGreatDoorZg
import Derived.KernelRfl
import Derived.Test.YtlnbckkkapbdmaaGreatDoorZb
import Derived.Test.YtlnbckkkapbdmaaGreatDoorZh
import Derived.Test.YtlnbckkkapbdmaaGreatDoorCards
import Derived.Test.YtlnbckkkapbdmaaGreatDoorTie
import Derived.WalkKit
import Derived.ProofKit
import Derived.OpenShut
import Derived.Deep.DeepHandedRow
import Derived.Lib.LaidTab
import Derived.SevenTiedAt
import Derived.Stop.LaidErr
set_option linter.unusedSimpArgs false
set_option linter.unusedVariables false
set_option maxHeartbeats 2000000
set_option maxRecDepth 100000
section
namespace Go.Proofs.YtlnbckkkapbdmaaGreatDoor
open Go Go.Gw Go.Ax
def Tot {α : Type} (x : Option α) : Prop:= ∃ r,x = some r
theorem tot {α : Type} (r : α) : Tot (some r):= ⟨r,rfl⟩
theorem tot_bind {α β : Type} {x : Option α} {k : α → Option β} (h : Tot x) (hk : ∀ a,x = some a → Tot (k a)) : Tot (obind x k):= by
 obtain ⟨a,h⟩:= h
 rw [h]; exact hk a h
theorem tot_gu {α : Type} [Inhabited α] {b : Bool} {x : Option α} (h : b = true → Tot x) : Tot (gu b x):= by
 cases b with
 | true=> exact h rfl
 | false=> exact tot default
theorem tot_if {α : Type} {b : Bool} {x y : Option α} (h1 : b = true → Tot x) (h0 : b = false → Tot y) : Tot (if b = true then x else y):= by
 cases b with
 | true=> exact h1 rfl
 | false=> exact h0 rfl
theorem tot_ite {α : Type} {c : Prop} [Decidable c] {x y : Option α} (h1 : c → Tot x) (h0 : ¬ c → Tot y) : Tot (if c then x else y):= by
 split
 ·exact h1 ‹_›
 ·exact h0 ‹_›
theorem iter_tot {σ τ : Type} {step : σ → Option (σ ⊕ τ)} (μ : σ → Nat) (I : σ → Prop) (Q : τ → Prop)
  (h : ∀ s,I s → ∃ r,step s = some r ∧ (∀ s',r = .inl s' → I s' ∧ μ s' < μ s) ∧ ∀ t,r = .inr t → Q t) : ∀ n s,I s → μ s < n → ∃ t,iter step n s = some t ∧ Q t
 | 0,s,_,hn=> by omega
 | n + 1,s,hI,hn=> by
  obtain ⟨r,h1,h2,h3⟩:= h s hI
  cases r with
  | inr t=> exact ⟨t,by show obind (step s) _ = _; rw [h1]; rfl,h3 t rfl⟩
  | inl s' =>
   obtain ⟨i',lt⟩:= h2 s' rfl
   obtain ⟨t,e,q⟩:= iter_tot μ I Q h n s' i' (by omega)
   exact ⟨t,by show obind (step s) _ = _; rw [h1]; exact e,q⟩
theorem decode_pos (s : ByteArray) (i : Nat) : 1 ≤ (Utf8.decode s i).2:= by
 unfold Utf8.decode
 simp only
 repeat' split
 all_goals simp
theorem FUEL_big : 9223372036854775808 ≤ FUEL:= Nat.le_of_ble_eq_true rfl
theorem text_1_eq (c : Int) : m_cert_text_1 c = some (decide (c ≤ 32) || decide (c > 126)):= rfl
theorem indexFunc_tot (s : ByteArray) (b : Bool) (hs : s.size < 9223372036854775808) : Tot (m_strings_indexFunc_112x s b):= by
 unfold m_strings_indexFunc_112x
 refine tot_bind ?_ fun a _=> ?_
 ·obtain ⟨t,e,_⟩:= iter_tot (step:= m_strings_indexFunc_112x_b2 s b) (fun i=> s.size - i) (fun _=> True) (fun _=> True) (fun i _=> by
   unfold m_strings_indexFunc_112x_b2
   by_cases hi : i < s.size
   ·rw [if_pos hi]
    simp only [bnd,text_1_eq,oZ0]
    split
    ·exact ⟨_,rfl,fun s' h=> (by cases h),fun _ _=> trivial⟩
    ·refine ⟨_,rfl,fun s' h=> ?_,fun _ _=> trivial⟩
     cases h
     have:= decode_pos s i
     exact ⟨trivial,by omega⟩
   ·rw [if_neg hi]
    exact ⟨_,rfl,fun s' h=> (by cases h),fun _ _=> trivial⟩) FUEL 0 trivial (by have:= FUEL_big; omega)
  exact ⟨t,e⟩
 ·cases a with
  | inl _=> exact tot _
  | inr _=> exact tot _
theorem text_tot (s : ByteArray) : Tot (m_cert_text s):= by
 unfold m_cert_text
 refine tot_bind (tot_gu fun h=> ?_) fun a _=> tot _
 simp only [Bool.and_eq_true,decide_eq_true_eq] at h
 unfold m_strings_ContainsFunc_112x m_strings_IndexFunc_112x
 refine tot_bind (tot_bind (indexFunc_tot s true (by omega)) fun a _=> tot _) fun a _=> tot _
theorem text_some {s : ByteArray} {b : Bool} (h : m_cert_text s = some b) : b = true → eqS s (⟨#[]⟩ : ByteArray) = false ∧ s.size ≤ 64:= by
 unfold m_cert_text at h
 obtain ⟨x,_,h⟩:= oY0 h
 have h:= sI0 (bnd_is h)
 intro hb
 rw [hb] at h
 simp only [Bool.and_eq_true,Bool.not_eq_true',decide_eq_true_eq] at h
 exact ⟨h.1.1,by omega⟩
theorem edge_tot (c : Int) : Tot (m_names_edge c):= tot _
theorem inner_tot (c : Int) : Tot (m_names_inner c):= by
 unfold m_names_inner
 exact tot_bind (tot_gu fun _=> edge_tot c) fun a _=> tot _
theorem label_tot (s : ByteArray) : Tot (m_names_label s):= by
 unfold m_names_label
 refine tot_if (fun _=> tot _) fun h=> ?_
 simp only [Bool.or_eq_false_iff,decide_eq_false_iff_not] at h
 refine tot_bind ?_ fun a _=> ?_
 ·obtain ⟨t,e,_⟩:= iter_tot (step:= m_names_label_b2 s) (fun i=> s.size - i) (fun _=> True) (fun _=> True) (fun i _=> by
   unfold m_names_label_b2
   by_cases hi : i < s.size
   ·rw [if_pos hi]
    have hd:= decode_pos s i
    obtain ⟨x4,h4⟩:= tot_gu (b:= ((i : Int) == (w64 ((s.size : Int) - 1)))) fun _=> edge_tot ((Utf8.decode s i).1 : Int)
    obtain ⟨x7,h7⟩:= tot_gu (b:= ((i : Int) == 0)) fun _=> edge_tot ((Utf8.decode s i).1 : Int)
    obtain ⟨x9,h9⟩:= tot_gu (b:= (!((i : Int) == 0))) fun _=> inner_tot ((Utf8.decode s i).1 : Int)
    simp only [bnd,h4,h7,h9,oZ0]
    split
    ·exact ⟨_,rfl,fun s' h=> (by cases h; exact ⟨trivial,by omega⟩),fun _ _=> trivial⟩
    ·split
     ·exact ⟨_,rfl,fun s' h=> (by cases h),fun _ _=> trivial⟩
     ·split
      ·exact ⟨_,rfl,fun s' h=> (by cases h; exact ⟨trivial,by omega⟩),fun _ _=> trivial⟩
      ·split
       ·exact ⟨_,rfl,fun s' h=> (by cases h),fun _ _=> trivial⟩
       ·exact ⟨_,rfl,fun s' h=> (by cases h; exact ⟨trivial,by omega⟩),fun _ _=> trivial⟩
   ·rw [if_neg hi]
    exact ⟨_,rfl,fun s' h=> (by cases h),fun _ _=> trivial⟩) FUEL 0 trivial (by have:= FUEL_big; omega)
  exact ⟨t,e⟩
 ·cases a with
  | inl _=> exact tot _
  | inr _=> exact tot _
theorem ixb_lt : ∀ (l : List UInt8) (c : UInt8),Lib.indexByte l c < l.length
 | [],c=> by simp [Lib.indexByte]
 | b :: l,c=> by
  have:= ixb_lt l c
  unfold Lib.indexByte
  split
  ·rw [List.length_cons]; omega
  ·split
   ·rw [List.length_cons]; omega
   ·rw [List.length_cons]; omega
theorem size_list (s : ByteArray) : s.data.toList.length = s.size:= by rw [Array.length_toList]; rfl
theorem index_dot (s : ByteArray) : ∃ x : Int,m_strings_Index s (⟨#[46]⟩ : ByteArray) = some x ∧ -1 ≤ x ∧ x < s.size:= by
 unfold m_strings_Index m_internal_stringslite_Index m_internal_stringslite_IndexByte
 simp only [bnd]
 by_cases h : ((((⟨#[46]⟩ : ByteArray).size : Int) == 0) || eqS (⟨#[46]⟩ : ByteArray) s) = true
 ·rw [if_pos h]
  refine ⟨0,rfl,by omega,?_⟩
  have h1 : eqS (⟨#[46]⟩ : ByteArray) s = true:= by
   cases he : eqS (⟨#[46]⟩ : ByteArray) s with
   | true=> rfl
   | false=> rw [he] at h; cases h
  have h2 : [(46 : UInt8)] = s.data.toList:= by simpa [eqS] using h1
  have h3:= size_list s
  rw [← h2] at h3
  simp only [List.length_cons,List.length_nil] at h3
  omega
 ·rw [if_neg h]
  refine ⟨ixbS s 46,rfl,Lib.indexByte_ge _ _,?_⟩
  have:= ixb_lt s.data.toList 46
  rw [size_list] at this
  exact this
theorem w64_id {x : Int} (h0 : -9223372036854775808 ≤ x) (h1 : x ≤ 9223372036854775807) : w64 x = x:= by
 unfold w64; omega
theorem cutS_tot {s : ByteArray} {lo hi : Int} (h0 : 0 ≤ lo) (h1 : lo ≤ hi) (h2 : hi ≤ s.size) : cutS s lo hi = some (s.extract lo.toNat hi.toNat):= by
 unfold cutS; rw [if_pos ⟨h0,h1,h2⟩]
theorem name_tot (s : ByteArray) (n k : Int) (hk : k ≤ 64) : Tot (m_names_name s n k):= by
 unfold m_names_name
 refine tot_bind ?_ fun x2 hx2=> ?_
 ·refine tot_if (fun _=> tot _) fun _=> ?_
  exact ⟨_,rfl⟩
 ·refine tot_if (fun _=> tot _) fun h=> ?_
  have hsz : s.size ≤ 64:= by
   cases hd : decide ((s.size : Int) > k) with
   | true=> rw [if_pos hd] at hx2; cases hx2; cases h
   | false=> simp only [decide_eq_false_iff_not] at hd; omega
  have key : ∃ r,m_strings_splitSeq_1 (fun (s : (Unit) × Nat) (b0 : ByteArray)=> if s.2 = 0 then obind (m_names_name_b5 b0 s) fun y=> some (y.2 == 0,y) else none) (⟨#[46]⟩ : ByteArray) s 0 ((),0) = some r:= by
   have hb5 : ∀ (b0 : ByteArray) (s : Unit × Nat),∃ z : Nat,m_names_name_b5 b0 s = some ((),z):= fun b0 s=> by
    unfold m_names_name_b5
    obtain ⟨y,hy⟩:= label_tot b0
    rw [hy]
    simp only [oZ0]
    split
    ·exact ⟨1,rfl⟩
    ·exact ⟨0,rfl⟩
   unfold m_strings_splitSeq_1
   rw [if_neg (by decide)]
   obtain ⟨tt,hit,hq⟩ : ∃ t,iter (m_strings_splitSeq_1_b2 (fun (s : (Unit) × Nat) (b0 : ByteArray)=> if s.2 = 0 then obind (m_names_name_b5 b0 s) fun y=> some (y.2 == 0,y) else none) (⟨#[46]⟩ : ByteArray) 0) FUEL (s,((),0)) = some t ∧ ∀ y,t = .inl y → y.2.2 = 0:= by
    exact iter_tot (step:= m_strings_splitSeq_1_b2 (fun (s : (Unit) × Nat) (b0 : ByteArray)=> if s.2 = 0 then obind (m_names_name_b5 b0 s) fun y=> some (y.2 == 0,y) else none) (⟨#[46]⟩ : ByteArray) 0) (fun z=> z.1.size) (fun z=> z.1.size ≤ 64 ∧ z.2.2 = 0) (fun t=> ∀ y,t = .inl y → y.2.2 = 0) (fun z hz=> by
     obtain ⟨x,h1,h2,h3⟩:= index_dot z.1
     unfold m_strings_splitSeq_1_b2
     rw [h1]
     simp only [oZ0]
     by_cases hx : x < 0
     ·rw [if_pos (by simpa using hx)]
      exact ⟨_,rfl,fun s' h=> (by cases h),fun t ht y hy=> by subst hy; cases ht; exact hz.2⟩
     ·rw [if_neg (by simpa using hx)]
      have hw : w64 (x + 0) = x:= by rw [Int.add_zero]; exact w64_id (by omega) (by omega)
      have hw1 : w64 (x + ((⟨#[46]⟩ : ByteArray).size : Int)) = x + 1:= w64_id (x:= x + 1) (by omega) (by omega)
      rw [hw,hw1,cutS_tot (by omega) (by omega) (by omega),cutS_tot (lo:= x + 1) (by omega) (by omega) (by omega)]
      simp only [oZ0,if_pos hz.2]
      obtain ⟨zz,hzz⟩:= hb5 (z.1.extract (0 : Int).toNat x.toNat) z.2
      rw [hzz]
      simp only [oZ0]
      split
      ·exact ⟨_,rfl,fun s' h=> (by cases h),fun t ht y hy=> by subst hy; cases ht⟩
      ·rename_i hne
       refine ⟨_,rfl,fun s' h=> ?_,fun t ht=> by cases ht⟩
       cases h
       have e0 : zz = 0:= by simpa using hne
       refine ⟨⟨?_,e0⟩,?_⟩
       ·simp only [ByteArray.size_extract]; omega
       ·simp only [ByteArray.size_extract]; omega) FUEL (s,((),0)) ⟨hsz,rfl⟩ (by have:= FUEL_big; show s.size < FUEL; omega)
   show Tot (obind (iter _ FUEL (s,((),0))) _)
   rw [hit]
   cases tt with
   | inr _=> exact tot _
   | inl y3 =>
    have h0:= hq y3 rfl
    obtain ⟨zz,hzz⟩:= hb5 y3.1 y3.2
    simp only [oZ0,if_pos h0,hzz]
    exact tot _
  obtain ⟨r,hr⟩:= key
  show Tot (obind (m_strings_splitSeq_1 _ (⟨#[46]⟩ : ByteArray) s 0 ((),0)) _)
  rw [hr]
  simp only [oZ0]
  exact tot_ite (fun _=> tot _) fun _=> tot _
theorem is_tot (s : ByteArray) : Tot (m_names_is s):= tot_bind (name_tot s 8 64 (by decide)) fun a _=> tot _
theorem Check_tot (s : ByteArray) : Tot (m_names_Check s):= by
 unfold m_names_Check
 refine tot_bind (is_tot s) fun a _=> tot_bind ?_ fun a _=> tot _
 unfold m_names_told
 exact tot_if (fun _=> tot _) fun _=> tot _
theorem cutPrefix_tot (s : ByteArray) : Tot (m_strings_CutPrefix s (⟨#[42,46]⟩ : ByteArray)):= by
 unfold m_strings_CutPrefix m_internal_stringslite_CutPrefix m_internal_stringslite_HasPrefix
 refine tot_bind (tot_bind (tot_bind (tot_gu fun h=> ?_) fun a _=> tot _) fun b hb=> ?_) fun a _=> tot _
 ·simp only [decide_eq_true_eq] at h
  exact ⟨_,cutS_tot (by omega) (by omega) h⟩
 ·refine tot_if (fun _=> tot _) fun h=> ?_
  obtain ⟨x,_,hx⟩:= oY0 hb
  have hx:= sI0 (bnd_is hx)
  have hb : b = true:= by simpa using h
  rw [hb] at hx
  simp only [Bool.and_eq_true,decide_eq_true_eq] at hx
  exact tot_bind ⟨_,cutS_tot (by omega) hx.1 (by omega)⟩ fun a _=> tot _
theorem Pattern_tot (s : ByteArray) : Tot (m_names_Pattern s):= by
 unfold m_names_Pattern m_names_pattern
 refine tot_bind (tot_bind (is_tot s) fun a _=> tot_if (fun _=> tot _) fun _=> tot_bind (cutPrefix_tot s) fun b _=> tot_bind (tot_gu fun _=> name_tot _ 7 62 (by decide)) fun c _=> tot _) fun a _=> tot_bind ?_ fun a _=> tot _
 unfold m_names_told
 exact tot_if (fun _=> tot _) fun _=> tot _
end Go.Proofs.YtlnbckkkapbdmaaGreatDoor
end
section
namespace Go.Proofs.YtlnbckkkapbdmaaGreatDoor
open Go Go.Gw Go.Ax
theorem tot_eq {α : Type} {x : Option α} {d : α} (h : Tot x) : x = some (x.getD d):= by
 obtain ⟨r,h⟩:= h
 rw [h]; rfl
def textV (s : ByteArray) : Bool:= (m_cert_text s).getD false
def nameV (s : ByteArray) : Int:= (m_names_Check s).getD 0
def patV (s : ByteArray) : Int:= (m_names_Pattern s).getD 0
theorem text_eq (s : ByteArray) : m_cert_text s = some (textV s):= tot_eq (text_tot s)
theorem nameV_eq (s : ByteArray) : m_names_Check s = some (nameV s):= tot_eq (Check_tot s)
theorem patV_eq (s : ByteArray) : m_names_Pattern s = some (patV s):= tot_eq (Pattern_tot s)
theorem textV_ok {s : ByteArray} (h : textV s = true) : eqS s (⟨#[]⟩ : ByteArray) = false ∧ s.size ≤ 64:= text_some (text_eq s) h
theorem name_size {s : ByteArray} {n k : Int} (h : m_names_name s n k = some true) : (s.size : Int) ≤ k:= by
 unfold m_names_name at h
 obtain ⟨x,hx,h⟩:= oY0 h
 cases hd : decide ((s.size : Int) > k) with
 | true =>
  rw [if_pos hd] at hx
  cases hx
  cases h
 | false=> simp only [decide_eq_false_iff_not] at hd; omega
theorem is_size {s : ByteArray} (h : m_names_is s = some true) : s.size ≤ 64:= by
 obtain ⟨x,hx,h⟩:= oY0 h
 cases h
 have:= name_size hx
 omega
theorem told_zero {b : Bool} {r : Int} (h : m_names_told b = some r) (h0 : r = 0) : b = true:= by
 cases b with
 | true=> rfl
 | false =>
  have h2 : (110 : Int) = r:= sI0 h
  omega
theorem nameV_size {s : ByteArray} (h : nameV s = 0) : s.size ≤ 64:= by
 have e:= nameV_eq s
 rw [h] at e
 obtain ⟨x,hx,e⟩:= oY0 e
 obtain ⟨y,hy,e⟩:= oY0 e
 cases e
 have:= told_zero hy rfl
 rw [this] at hx
 exact is_size hx
theorem cutPrefix_size {s : ByteArray} {c : ByteArray × Bool} (h : m_strings_CutPrefix s (⟨#[42,46]⟩ : ByteArray) = some c) (h1 : c.2 = true) : c.1.size + 2 = s.size:= by
 unfold m_strings_CutPrefix m_internal_stringslite_CutPrefix m_internal_stringslite_HasPrefix at h
 obtain ⟨d,hd,h⟩:= oY0 h
 have h:= sI0 h
 subst h
 obtain ⟨p,hp,hd⟩:= oY0 hd
 cases p with
 | false =>
  have hd:= sI0 hd
  subst hd
  cases h1
 | true =>
  obtain ⟨q,hq,hd⟩:= oY0 hd
  have hd:= sI0 hd
  subst hd
  unfold cutS at hq
  split at hq
  ·rename_i hc
   have hq:= sI0 hq
   have e2 : (⟨#[42,46]⟩ : ByteArray).size = 2:= rfl
   rw [e2] at hq hc
   show q.size + 2 = s.size
   rw [← hq,ByteArray.size_extract]
   omega
  ·cases hq
theorem patV_size {s : ByteArray} (h : patV s = 0) : s.size ≤ 64:= by
 have e:= patV_eq s
 rw [h] at e
 obtain ⟨x,hx,e⟩:= oY0 e
 obtain ⟨y,hy,e⟩:= oY0 e
 cases e
 have h1:= told_zero hy rfl
 unfold m_names_pattern at hx
 obtain ⟨b,hb,hx⟩:= oY0 hx
 cases b with
 | true=> exact is_size hb
 | false =>
  rw [if_neg (by decide)] at hx
  obtain ⟨c,hc,hx⟩:= oY0 hx
  obtain ⟨d,hd,hx⟩:= oY0 hx
  have hx:= sI0 hx
  subst hx
  have h2 : (c.2 && d) = true:= h1
  simp only [Bool.and_eq_true] at h2
  rw [h2.1,h2.2] at hd
  have h3:= name_size hd
  have h4:= cutPrefix_size hc h2.1
  omega
def listB (right : ByteArray → Int) : List ByteArray → List ByteArray → Bool
 | _,[]=> true
 | met,s :: l=> !(met.any (eqS s)) && right s == 0 && listB right (met ++ [s]) l
def trues (met : List ByteArray) : List (ByteArray × Bool):= met.map fun s=> (s,true)
theorem lkI_trues : ∀ (met : List ByteArray) (s : ByteArray) (i : Nat),(lkI (trues met) s i).isSome = met.any (eqS s) ∧ ∀ p,lkI (trues met) s i = some p → p.2 = true
 | [],s,i=> ⟨rfl,fun p h=> by cases h⟩
 | a :: met,s,i=> by
  have ih:= lkI_trues met s (i + 1)
  rw [List.any_cons]
  cases h : eqS s a with
  | true =>
   refine ⟨?_,fun p hp=> ?_⟩
   ·show (if eqS s a = true then some (i,true) else lkI (trues met) s (i + 1)).isSome = _
    rw [if_pos h]; rfl
   ·have hp : (if eqS s a = true then some (i,true) else lkI (trues met) s (i + 1)) = some p:= hp
    rw [if_pos h] at hp
    cases hp; rfl
  | false =>
   refine ⟨?_,fun p hp=> ?_⟩
   ·show (if eqS s a = true then some (i,true) else lkI (trues met) s (i + 1)).isSome = _
    rw [if_neg (by rw [h]; decide)]; exact ih.1
   ·have hp : (if eqS s a = true then some (i,true) else lkI (trues met) s (i + 1)) = some p:= hp
    rw [if_neg (by rw [h]; decide)] at hp
    exact ih.2 p hp
theorem lkB_trues (met : List ByteArray) (s : ByteArray) : lkB (trues met) s = met.any (eqS s):= by
 have h:= lkI_trues met s 0
 unfold lkB
 rw [← h.1]
 cases e : lkI (trues met) s 0 with
 | none=> rfl
 | some p=> rw [Option.map_some,Option.getD_some,h.2 p e]; rfl
theorem lkI_none (met : List ByteArray) (s : ByteArray) (h : met.any (eqS s) = false) : (lkI (trues met) s 0).isNone = true:= by
 have h1:= (lkI_trues met s 0).1
 rw [h] at h1
 cases e : lkI (trues met) s 0 with
 | none=> rfl
 | some p=> rw [e] at h1; cases h1
theorem listE (right : ByteArray → Int) (mr : ByteArray → Option Int) (hr : ∀ s,mr s = some (right s)) : ∀ (l met : List ByteArray) (i : Int),
  eachR (fun (i1 : Int) (x2 : ByteArray) (s1 : List (ByteArray × Bool))=> obind (gu (!(lkB s1 x2)) (mr x2)) fun x3=> if ((lkB s1 x2) || (x3 != 0)) = true then some (.inr false) else if (lkI s1 x2 0).isNone = true then some (.inl (s1 ++ [(x2,true)])) else none) l i (trues met)
   = some (if listB right met l = true then .inl (trues (met ++ l)) else .inr false)
 | [],met,i=> by simp [eachR,listB]
 | s :: l,met,i=> by
  have ih:= listE right mr hr l (met ++ [s]) (i + 1)
  have hm':= lkB_trues met s
  simp only [eachR,hr] at ih ⊢
  rw [hm']
  cases hm : met.any (eqS s) with
  | true=> simp [gu,listB,hm]
  | false =>
   simp only [gu,Bool.not_false,cond_true,oZ0,Bool.false_or]
   cases h0 : right s == 0 with
   | false =>
    have h1 : (right s != 0) = true:= by simp only [bne,h0,Bool.not_false]
    rw [if_pos h1]
    simp [listB,hm,h0]
   | true =>
    have h1 : (right s != 0) = false:= by simp only [bne,h0,Bool.not_true]
    rw [h1]
    simp only [Bool.false_eq_true,if_false,lkI_none met s hm,if_true,oZ0]
    have e : trues met ++ [(s,true)] = trues (met ++ [s]):= by simp [trues]
    rw [e]
    simp only [gu] at ih
    rw [ih]
    simp [listB,hm,h0]
def listV (right : ByteArray → Int) (l : List ByteArray) (a b : Int) : Bool:= listB right [] l && decide ((l.length : Int) ≥ a) && decide ((l.length : Int) ≤ b)
theorem list65_eq (l : List ByteArray) (a b : Int) : m_cert_list_65x l a b = some (listV patV l a b):= by
 unfold m_cert_list_65x
 have h:= listE patV m_names_Pattern patV_eq l [] 0
 show obind (eachR _ l 0 (trues [])) _ = _
 unfold m_cert_list_65x_b2
 rw [h]
 unfold listV
 cases listB patV [] l <;> rfl
theorem list66_eq (l : List ByteArray) (a b : Int) : m_cert_list_66x l a b = some (listV nameV l a b):= by
 unfold m_cert_list_66x
 have h:= listE nameV m_names_Check nameV_eq l [] 0
 show obind (eachR _ l 0 (trues [])) _ = _
 unfold m_cert_list_66x_b2
 rw [h]
 unfold listV
 cases listB nameV [] l <;> rfl
theorem listB_all {right : ByteArray → Int} : ∀ {l met : List ByteArray},listB right met l = true → ∀ s ∈ l,right s = 0
 | [],met,_,s,hs=> by cases hs
 | a :: l,met,h,s,hs=> by
  simp only [listB,Bool.and_eq_true,beq_iff_eq] at h
  rcases List.mem_cons.1 hs with e | hs
  ·rw [e]; exact h.1.2
  ·exact listB_all h.2 s hs
def numB (n : Int) : Bool:= decide (n ≥ 0) && decide (n ≤ 1099511627776)
def sigB (s : g_api_Sig) : Bool:= decide ((maxU s.E s.S).toNat < 1152921504606845789)
def promB (p : g_api_Promise) : Bool:= numB p.Log && numB p.At && decide ((maxU p.Leaf.1 p.Leaf.2).toNat < 2305843009213693951) && sigB p.Sig
theorem number_eq (n : Int) : m_cert_number n = some (numB n):= rfl
theorem signed_eq (s : g_api_Sig) : m_cert_signed s = some (sigB s):= by
 unfold m_cert_signed sigB
 simp only [bnd,Option.some.injEq,decide_eq_decide]
 omega
theorem max_eq (a b : UInt64) : m_slices_Max_uint64_uint64 [a,b] = some (maxU a b):= by
 have e1 : m_slices_Max_uint64_uint64_b1 [a,b] (a,1) = some (.inl (maxU a b,2)):= rfl
 have e2 : m_slices_Max_uint64_uint64_b1 [a,b] (maxU a b,2) = some (.inr (maxU a b)):= rfl
 have h : ∀ n,iter (m_slices_Max_uint64_uint64_b1 [a,b]) (n + 1 + 1) (a,1) = some (maxU a b):= fun n=> by
  simp only [iter,e1,oZ0,e2]
 have hf : iter (m_slices_Max_uint64_uint64_b1 [a,b]) FUEL (a,1) = some (maxU a b):= h 18446744073709551614
 have i0 : idx [a,b] 0 = some a:= rfl
 have d0 : decide ((([a,b] : List UInt64).length : Int) < 1) = false:= rfl
 unfold m_slices_Max_uint64_uint64
 rw [d0,i0]
 simp only [Bool.false_eq_true,if_false,oZ0,hf]
theorem gu_b {c v : Bool} : gu c (some v) = some (c && v):= by cases c <;> rfl
theorem gu_tt {α : Type} [Inhabited α] (o : Option α) : gu true o = o:= rfl
theorem gu_ff {α : Type} [Inhabited α] (o : Option α) : gu false o = some default:= rfl
theorem bnd_eq' {α β : Type} (a : α) (k : α → β) : bnd a k = k a:= rfl
theorem promised_eq (p : g_api_Promise) : m_cert_promised p = some (promB p):= by
 unfold m_cert_promised promB
 simp only [number_eq,max_eq,signed_eq,gu_b,bnd_eq',oZ0]
 have e : ∀ x : UInt64,decide ((x.toNat : Int) < 2305843009213693951) = decide (x.toNat < 2305843009213693951):= fun x=> by
  rw [decide_eq_decide]; omega
 simp only [e]
 cases numB p.Log with
 | false=> simp only [Bool.false_and,gu_ff,oZ0]
 | true =>
  cases numB p.At with
  | false=> simp only [Bool.false_and,Bool.true_and,gu_ff,oZ0]
  | true =>
   simp only [Bool.true_and,gu_tt,oZ0]
   cases decide ((maxU p.Leaf.1 p.Leaf.2).toNat < 2305843009213693951) <;> simp only [Bool.false_and,Bool.true_and]
def promsB : Int → List g_api_Promise → Bool
 | _,[]=> true
 | last,p :: l=> promB p && !(decide (p.Log ≤ last)) && promsB p.Log l
theorem proms_eq : ∀ (l : List g_api_Promise) (i last : Int),∃ z : Int,eachR m_cert_formed_b2 l i last = some (if promsB last l = true then .inl z else .inr false)
 | [],i,last=> ⟨last,rfl⟩
 | p :: l,i,last=> by
  obtain ⟨z,ih⟩:= proms_eq l (i + 1) p.Log
  refine ⟨z,?_⟩
  have e : m_cert_formed_b2 i p last = some (if (promB p && !(decide (p.Log ≤ last))) = true then .inl p.Log else .inr false):= by
   unfold m_cert_formed_b2
   rw [promised_eq,oZ0]
   cases promB p <;> cases decide (p.Log ≤ last) <;> rfl
  show obind (m_cert_formed_b2 i p last) _ = _
  rw [e]
  cases h : promB p && !(decide (p.Log ≤ last)) with
  | false =>
   simp [promsB,h]
  | true =>
   rw [if_pos rfl,oZ0]
   show eachR m_cert_formed_b2 l (i + 1) p.Log = _
   rw [ih]
   simp [promsB,h]
def formB (c : g_api_Cert) : Bool :=
 promsB (-1) c.Proms && (numB c.Serial && numB c.From && numB c.Until && decide (c.From < c.Until)) &&
  (textV c.Issuer && (!((c.Key.toNat : Int) == 0)) && decide ((c.Key.toNat : Int) < 2305843009213691579) && decide ((c.Proms.length : Int) ≤ 4) && sigB c.Sig) &&
  (if c.Ca = true then textV c.Subject && ((c.Names.length : Int) == 0) && decide (c.Depth ≥ 0) && decide (c.Depth ≤ 4) && listV patV c.Permit 0 8
   else eqS c.Subject (⟨#[]⟩ : ByteArray) && listV nameV c.Names 1 8 && (c.Depth == 0) && ((c.Permit.length : Int) == 0))
theorem formed_eq (c : g_api_Cert) : m_cert_formed c = some (formB c):= by
 obtain ⟨z,hz⟩:= proms_eq c.Proms 0 (-1)
 unfold m_cert_formed formB
 rw [hz]
 cases promsB (-1) c.Proms with
 | false=> rfl
 | true =>
  rw [if_pos rfl,oZ0]
  simp only [number_eq,text_eq,signed_eq,list65_eq,list66_eq,gu_b,bnd_eq',oZ0,Bool.true_and]
  have e1 : decide (c.From ≥ c.Until) = !decide (c.From < c.Until):= by
   rw [← decide_not,decide_eq_decide]; omega
  have e2 : decide ((c.Key.toNat : Int) ≥ 2305843009213691579) = !decide ((c.Key.toNat : Int) < 2305843009213691579):= by
   rw [← decide_not,decide_eq_decide]; omega
  have e3 : decide ((c.Proms.length : Int) > 4) = !decide ((c.Proms.length : Int) ≤ 4):= by
   rw [← decide_not,decide_eq_decide]; omega
  rw [e1,e2,e3]
  generalize numB c.Serial = a1
  generalize numB c.From = a2
  generalize numB c.Until = a3
  generalize decide (c.From < c.Until) = a4
  generalize textV c.Issuer = b1
  generalize ((c.Key.toNat : Int) == 0) = b2
  generalize decide ((c.Key.toNat : Int) < 2305843009213691579) = b3
  generalize decide ((c.Proms.length : Int) ≤ 4) = b4
  generalize sigB c.Sig = b5
  cases a1 <;> cases a2 <;> cases a3 <;> cases a4 <;> try rfl
  all_goals cases b1 <;> cases b2 <;> cases b3 <;> cases b4 <;> cases b5 <;> try rfl
  cases c.Ca with
  | true =>
   show some _ = some _
   generalize listV patV c.Permit 0 8 = d1
   generalize textV c.Subject = d2
   generalize ((c.Names.length : Int) == 0) = d3
   generalize decide (c.Depth ≥ 0) = d4
   generalize decide (c.Depth ≤ 4) = d5
   cases d1 <;> cases d2 <;> cases d3 <;> cases d4 <;> cases d5 <;> rfl
  | false =>
   show some _ = some _
   generalize listV nameV c.Names 1 8 = d1
   generalize eqS c.Subject (⟨#[]⟩ : ByteArray) = d2
   cases d1 <;> cases d2 <;> rfl
end Go.Proofs.YtlnbckkkapbdmaaGreatDoor
end
section
namespace Go.Proofs.YtlnbckkkapbdmaaGreatDoor
open Go Go.Gw Go.Ax
theorem app_ok {α : Type} (b : Nat) {xs ys : List α} (h : (xs.length + ys.length) * b ≤ 140737488355328) (h1 : xs.length + ys.length ≤ 140737488355328) : app b xs ys = some (xs ++ ys):= by unfold app; rw [if_pos ⟨h,h1⟩]
theorem app_nil {α : Type} (b : Nat) {ys : List α} (h : ys.length * b ≤ 140737488355328) (h1 : ys.length ≤ 140737488355328) : app b [] ys = some ys:= by
 rw [app_ok b (by simpa using h) (by simpa using h1)]; rfl
theorem cut_tl {α : Type} (x : α) (xs : List α) : cut (x :: xs) 1 (((x :: xs).length : Nat) : Int) = some xs:= by
 unfold cut
 rw [if_pos ⟨by omega,by rw [List.length_cons]; omega,by omega⟩]
 show some (List.take _ xs) = _
 rw [List.take_of_length_le]
 simp
def be8 (n : Int) : List UInt8:= [toB (shr64 n 56),toB (shr64 n 48),toB (shr64 n 40),toB (shr64 n 32),toB (shr64 n 24),toB (shr64 n 16),toB (shr64 n 8),toB (shr64 n 0)]
def leastB : List UInt8 → Bool
 | []=> false
 | [_]=> true
 | a :: b :: l=> decide (((a :: b :: l).length : Int) ≤ 8) && ((a.toNat : Int) != ((toB (-((shrB b 7).toNat : Int))).toNat : Int))
def trim : List UInt8 → List UInt8
 | []=> []
 | [a]=> [a]
 | a :: b :: l=> if leastB (a :: b :: l) = true then a :: b :: l else trim (b :: l)
theorem least_eq (l : List UInt8) : m_der_least l = some (leastB l):= by
 match l with
 | []=> rfl
 | [a]=> rfl
 | a :: b :: l =>
  unfold m_der_least
  have e0 : (((a :: b :: l).length : Int) == 0) = false:= by simp only [beq_eq_false_iff_ne,List.length_cons]; omega
  have e1 : (((a :: b :: l).length : Int) == 1) = false:= by simp only [beq_eq_false_iff_ne,List.length_cons]; omega
  have i0 : idx (a :: b :: l) 0 = some a:= rfl
  have i1 : idx (a :: b :: l) 1 = some b:= rfl
  rw [e0,e1,i0,i1]
  simp only [Bool.false_eq_true,if_false,oZ0,bnd_eq',leastB]
  cases decide (((a :: b :: l).length : Int) ≤ 8) <;> rfl
theorem trim_eq : ∀ (n : Nat) (l : List UInt8),l.length < n → iter m_der_Int_b4 n l = some (trim l)
 | 0,l,h=> by omega
 | n + 1,l,h=> by
  show obind (m_der_Int_b4 l) _ = _
  match l with
  | []=> rfl
  | [a]=> rfl
  | a :: b :: l =>
   have ih:= trim_eq n (b :: l) (by simp only [List.length_cons] at h ⊢; omega)
   have e0 : decide (((a :: b :: l).length : Int) > 1) = true:= by simp only [decide_eq_true_eq,List.length_cons]; omega
   cases hl : leastB (a :: b :: l) with
   | true =>
    have e : m_der_Int_b4 (a :: b :: l) = some (.inr (a :: b :: l)):= by
     unfold m_der_Int_b4
     rw [e0,if_pos rfl,least_eq,hl]
     rfl
    rw [e]
    simp [trim,hl]
   | false =>
    have e : m_der_Int_b4 (a :: b :: l) = some (.inl (b :: l)):= by
     unfold m_der_Int_b4
     rw [e0,if_pos rfl,least_eq,hl,cut_tl]
     rfl
    rw [e]
    simp only [oZ0]
    rw [ih]
    simp [trim,hl]
theorem trim_len : ∀ (l : List UInt8),(trim l).length ≤ l.length
 | []=> Nat.le_refl _
 | [a]=> Nat.le_refl _
 | a :: b :: l=> by
  have ih:= trim_len (b :: l)
  unfold trim
  split
  ·exact Nat.le_refl _
  ·rw [List.length_cons]; omega
def intI (n : Int) : g_api_Item:= ⟨2,trim (be8 n),[]⟩
theorem be8_eq (n : Int) : eachN0 (m_der_Int_b3 n) 8 0 (0,0,0,0,0,0,0,0) = some (toB (shr64 n 56),toB (shr64 n 48),toB (shr64 n 40),toB (shr64 n 32),toB (shr64 n 24),toB (shr64 n 16),toB (shr64 n 8),toB (shr64 n 0)):= rfl
theorem clone_eq {l : List UInt8} (h : l.length ≤ 140737488355328) : m_slices_Clone_byte_byte l = some l:= by
 unfold m_slices_Clone_byte_byte
 rw [app_nil 1 (by omega) h]; rfl
theorem int_eq (n : Int) : m_der_Int n = some (intI n):= by
 have h8 : (be8 n).length = 8:= rfl
 have h:= trim_len (be8 n)
 unfold m_der_Int
 rw [be8_eq]
 show obind (obind (iter m_der_Int_b4 FUEL (be8 n)) _) _ = _
 rw [trim_eq FUEL (be8 n) (by rw [h8]; have:= FUEL_big; omega)]
 show obind (m_slices_Clone_byte_byte (trim (be8 n))) _ = _
 rw [clone_eq (by omega)]
 rfl
def bigI (x : UInt64) : g_api_Item:= intI (w64 (x.toNat : Int))
theorem big_eq (x : UInt64) : m_cert_big x = some (bigI x):= by unfold m_cert_big; rw [int_eq]; rfl
def textI (s : ByteArray) : g_api_Item:= ⟨12,s.data.toList,[]⟩
def boolI (v : Bool) : g_api_Item:= ⟨1,[if v = true then 255 else 0],[]⟩
def seqI (l : List g_api_Item) : g_api_Item:= ⟨48,[],l⟩
theorem textI_eq {s : ByteArray} (h : s.size ≤ 140737488355328) : m_der_Text s = some (textI s):= by
 unfold m_der_Text
 rw [app_nil 1 (by rw [size_list]; omega) (by rw [size_list]; exact h)]; rfl
theorem boolI_eq (v : Bool) : m_der_Bool v = some (boolI v):= by cases v <;> rfl
theorem seqI_eq {l : List g_api_Item} (h : l.length ≤ 1000000) : m_der_Seq l = some (seqI l):= by
 unfold m_der_Seq m_slices_Clone_api_Item_api_Item
 rw [app_nil 56 (by omega) (by omega)]; rfl
theorem texts_go : ∀ (l : List ByteArray) (i : Int) (a : List g_api_Item),(∀ s ∈ l,s.size ≤ 64) → a.length + l.length ≤ 1000000 → each0 m_cert_seq_string_81x_b2 l i a = some (a ++ l.map textI)
 | [],i,a,_,_=> by simp [each0]
 | s :: l,i,a,h,hn=> by
  rw [List.length_cons] at hn
  have ih:= texts_go l (i + 1) (a ++ [textI s]) (fun x hx=> h x (List.mem_cons_of_mem _ hx)) (by rw [List.length_append]; show a.length + 1 + _ ≤ _; omega)
  have e : m_cert_seq_string_81x_b2 i s a = some (a ++ [textI s]):= by
   unfold m_cert_seq_string_81x_b2
   rw [textI_eq (by have:= h s List.mem_cons_self; omega),oZ0,app_ok 56 (by show (a.length + 1) * 56 ≤ _; omega) (by show a.length + 1 ≤ _; omega)]
   rfl
  show obind (m_cert_seq_string_81x_b2 i s a) _ = _
  rw [e]
  show each0 _ l (i + 1) (a ++ [textI s]) = _
  rw [ih]
  simp
def textsI (l : List ByteArray) : g_api_Item:= seqI (l.map textI)
theorem texts_eq {l : List ByteArray} (h : ∀ s ∈ l,s.size ≤ 64) (hn : l.length ≤ 1000000) : m_cert_seq_string_81x l = some (textsI l):= by
 unfold m_cert_seq_string_81x
 rw [texts_go l 0 [] h (by simpa using hn)]
 simp only [oZ0,List.nil_append]
 rw [seqI_eq (by rw [List.length_map]; exact hn)]; rfl
def promI (p : g_api_Promise) : g_api_Item:= seqI [intI p.Log,intI p.At,bigI p.Leaf.1,bigI p.Leaf.2,bigI p.Sig.E,bigI p.Sig.S]
theorem promI_eq (p : g_api_Promise) : m_cert_body_1 p = some (promI p):= by
 unfold m_cert_body_1
 simp only [int_eq,big_eq,oZ0]
 rw [seqI_eq (by simp)]; rfl
theorem proms_go : ∀ (l : List g_api_Promise) (i : Int) (a : List g_api_Item),a.length + l.length ≤ 1000000 → each0 m_cert_seq_api_Promise_89x_b2 l i a = some (a ++ l.map promI)
 | [],i,a,_=> by simp [each0]
 | s :: l,i,a,hn=> by
  rw [List.length_cons] at hn
  have ih:= proms_go l (i + 1) (a ++ [promI s]) (by rw [List.length_append]; show a.length + 1 + _ ≤ _; omega)
  have e : m_cert_seq_api_Promise_89x_b2 i s a = some (a ++ [promI s]):= by
   unfold m_cert_seq_api_Promise_89x_b2
   rw [promI_eq,oZ0,app_ok 56 (by show (a.length + 1) * 56 ≤ _; omega) (by show a.length + 1 ≤ _; omega)]
   rfl
  show obind (m_cert_seq_api_Promise_89x_b2 i s a) _ = _
  rw [e]
  show each0 _ l (i + 1) (a ++ [promI s]) = _
  rw [ih]
  simp
def promsI (l : List g_api_Promise) : g_api_Item:= seqI (l.map promI)
theorem promsI_eq {l : List g_api_Promise} (hn : l.length ≤ 1000000) : m_cert_seq_api_Promise_89x l = some (promsI l):= by
 unfold m_cert_seq_api_Promise_89x
 rw [proms_go l 0 [] (by simpa using hn)]
 simp only [oZ0,List.nil_append]
 rw [seqI_eq (by rw [List.length_map]; exact hn)]; rfl
structure Sized (c : g_api_Cert) : Prop where
 issuer : c.Issuer.size ≤ 64
 subject : c.Subject.size ≤ 64
 names : ∀ s ∈ c.Names,s.size ≤ 64
 few : c.Names.length ≤ 8
 permit : ∀ s ∈ c.Permit,s.size ≤ 64
 fewP : c.Permit.length ≤ 8
 proms : c.Proms.length ≤ 4
def preI (c : g_api_Cert) : g_api_Item:= seqI [intI c.Serial,textI c.Issuer,textI c.Subject,bigI c.Key,textsI c.Names,intI c.From,intI c.Until,boolI c.Ca,intI c.Depth,textsI c.Permit]
def bodyI (c : g_api_Cert) : g_api_Item:= seqI [preI c,promsI c.Proms]
def wholeI (c : g_api_Cert) : g_api_Item:= seqI [bodyI c,seqI [bigI c.Sig.E,bigI c.Sig.S]]
theorem preI_eq {c : g_api_Cert} (h : Sized c) : m_cert_pre c = some (preI c):= by
 unfold m_cert_pre
 have h1:= h.issuer; have h2:= h.subject; have h3:= h.few; have h4:= h.fewP
 simp only [int_eq,big_eq,boolI_eq,textI_eq (s:= c.Issuer) (by omega),textI_eq (s:= c.Subject) (by omega),texts_eq h.names (by omega),texts_eq h.permit (by omega),oZ0]
 rw [seqI_eq (by simp)]; rfl
theorem bodyI_eq {c : g_api_Cert} (h : Sized c) : m_cert_body c = some (bodyI c):= by
 unfold m_cert_body
 have h1:= h.proms
 rw [preI_eq h,promsI_eq (by omega)]
 simp only [oZ0]
 rw [seqI_eq (by simp)]; rfl
theorem wholeI_eq {c : g_api_Cert} (h : Sized c) : m_cert_whole c = some (wholeI c):= by
 unfold m_cert_whole
 rw [bodyI_eq h,big_eq,big_eq]
 simp only [oZ0]
 rw [seqI_eq (by simp)]
 simp only [oZ0]
 rw [seqI_eq (by simp)]; rfl
structure Form (c : g_api_Cert) : Prop where
 proms : promsB (-1) c.Proms = true
 serial : numB c.Serial = true
 frm : numB c.From = true
 til : numB c.Until = true
 lt : c.From < c.Until
 issuer : textV c.Issuer = true
 key0 : (c.Key.toNat : Int) ≠ 0
 keyQ : (c.Key.toNat : Int) < 2305843009213691579
 nproms : (c.Proms.length : Int) ≤ 4
 sig : sigB c.Sig = true
 ca : c.Ca = true → textV c.Subject = true ∧ c.Names = [] ∧ 0 ≤ c.Depth ∧ c.Depth ≤ 4 ∧ listV patV c.Permit 0 8 = true
 leaf : c.Ca = false → c.Subject = (⟨#[]⟩ : ByteArray) ∧ listV nameV c.Names 1 8 = true ∧ c.Depth = 0 ∧ c.Permit = []
theorem form_of {c : g_api_Cert} (h : formB c = true) : Form c:= by
 unfold formB at h
 simp only [Bool.and_eq_true,decide_eq_true_eq,Bool.not_eq_true',beq_eq_false_iff_ne] at h
 obtain ⟨⟨⟨h1,⟨⟨h2,h3⟩,h4⟩,h5⟩,⟨⟨⟨h6,h7⟩,h8⟩,h9⟩,h10⟩,h11⟩:= h
 refine ⟨h1,h2,h3,h4,h5,h6,h7,h8,h9,h10,fun e=> ?_,fun e=> ?_⟩
 ·rw [if_pos e] at h11
  simp only [Bool.and_eq_true,decide_eq_true_eq,beq_iff_eq] at h11
  obtain ⟨⟨⟨⟨a,b⟩,d⟩,f⟩,g⟩:= h11
  exact ⟨a,List.eq_nil_of_length_eq_zero (by omega),by omega,f,g⟩
 ·rw [e] at h11
  simp only [Bool.false_eq_true,if_false,Bool.and_eq_true,decide_eq_true_eq,beq_iff_eq] at h11
  obtain ⟨⟨⟨a,b⟩,d⟩,f⟩:= h11
  exact ⟨eqS_iff.1 a,b,d,List.eq_nil_of_length_eq_zero (by omega)⟩
theorem listV_len {right : ByteArray → Int} {l : List ByteArray} {a b : Int} (h : listV right l a b = true) : a ≤ l.length ∧ (l.length : Int) ≤ b ∧ ∀ s ∈ l,right s = 0:= by
 unfold listV at h
 simp only [Bool.and_eq_true,decide_eq_true_eq] at h
 exact ⟨by omega,h.2,listB_all h.1.1⟩
theorem Form.sized {c : g_api_Cert} (h : Form c) : Sized c:= by
 have hi:= (textV_ok h.issuer).2
 have hp:= h.nproms
 cases hc : c.Ca with
 | true =>
  obtain ⟨h1,h2,h3,h4,h5⟩:= h.ca hc
  obtain ⟨l1,l2,l3⟩:= listV_len h5
  exact ⟨hi,(textV_ok h1).2,(by rw [h2]; intro s hs; cases hs),by rw [h2]; decide,fun s hs=> patV_size (l3 s hs),by omega,by omega⟩
 | false =>
  obtain ⟨h1,h2,h3,h4⟩:= h.leaf hc
  obtain ⟨l1,l2,l3⟩:= listV_len h2
  exact ⟨hi,by rw [h1]; decide,fun s hs=> nameV_size (l3 s hs),by omega,(by rw [h4]; intro s hs; cases hs),by rw [h4]; decide,by omega⟩
end Go.Proofs.YtlnbckkkapbdmaaGreatDoor
end
section
namespace Go.Proofs.YtlnbckkkapbdmaaGreatDoor
open Go Go.Gw Go.Ax
theorem find_eq (t : Int) : m_der_find t = some (if t = 1 then (⟨1,228⟩,true) else if t = 2 then (⟨2,128⟩,true) else if t = 4 then (⟨4,229⟩,true) else if t = 12 then (⟨12,230⟩,true) else if t = 48 then (⟨48,233⟩,true) else (⟨0,-1⟩,false)):= by
 by_cases h1 : t = 1
 ·subst h1; rfl
 by_cases h2 : t = 2
 ·subst h2; rfl
 by_cases h3 : t = 4
 ·subst h3; rfl
 by_cases h4 : t = 12
 ·subst h4; rfl
 by_cases h5 : t = 48
 ·subst h5; rfl
 rw [if_neg h1,if_neg h2,if_neg h3,if_neg h4,if_neg h5]
 have b : ∀ (k : Int),t ≠ k → ((k == t) = true) = False:= fun k h=> by simp only [beq_iff_eq,eq_iff_iff,iff_false]; exact fun e=> h e.symm
 have g : eachN (m_slices_IndexFunc_der_kind_der_kind_156x_b1 tab_0) tab_0.length 0 t = some (.inl t):= by
  have i : ∀ (j : Nat) (k : g_der_kind),idx tab_0 (j : Int) = some k → t ≠ k.tag_ → m_slices_IndexFunc_der_kind_der_kind_156x_b1 tab_0 (j : Int) t = some (.inl t):= fun j k e hk=> by
   have hb : (k.tag_ == t) = false:= by simp only [beq_eq_false_iff_ne]; exact fun e=> hk e.symm
   unfold m_slices_IndexFunc_der_kind_der_kind_156x_b1 m_der_find_1
   rw [e]
   simp only [oZ0,hb,Bool.false_eq_true,if_false]
  show obind (m_slices_IndexFunc_der_kind_der_kind_156x_b1 tab_0 ((0 : Nat) : Int) t) _ = _
  rw [i 0 ⟨1,228⟩ rfl h1]
  show obind (m_slices_IndexFunc_der_kind_der_kind_156x_b1 tab_0 ((1 : Nat) : Int) t) _ = _
  rw [i 1 ⟨2,128⟩ rfl h2]
  show obind (m_slices_IndexFunc_der_kind_der_kind_156x_b1 tab_0 ((2 : Nat) : Int) t) _ = _
  rw [i 2 ⟨4,229⟩ rfl h3]
  show obind (m_slices_IndexFunc_der_kind_der_kind_156x_b1 tab_0 ((3 : Nat) : Int) t) _ = _
  rw [i 3 ⟨12,230⟩ rfl h4]
  show obind (m_slices_IndexFunc_der_kind_der_kind_156x_b1 tab_0 ((4 : Nat) : Int) t) _ = _
  rw [i 4 ⟨48,233⟩ rfl h5]
  rfl
 unfold m_der_find m_slices_IndexFunc_der_kind_der_kind_156x
 rw [g]
 rfl
def knownB (t : Int) : Bool:= t == 1 || t == 2 || t == 4 || t == 12 || t == 48
def boolB (b : List UInt8) : Bool:= match b with | [x]=> x == 0 || x == 255 | _=> false
def printB (b : List UInt8) : Bool:= b.all fun c=> decide (32 ≤ c.toNat) && decide (c.toNat ≤ 126)
def kindB (t : Int) (b : List UInt8) : Bool :=
 if t = 1 then boolB b else if t = 2 then leastB b else if t = 4 then true else if t = 12 then printB b else if t = 48 then b.isEmpty else false
theorem kinds1_eq (b : List UInt8) : m_der_kinds_1 b = some (boolB b):= by
 match b with
 | []=> rfl
 | [x] =>
  unfold m_der_kinds_1
  have e1 : ((([x] : List UInt8).length : Int) == 1) = true:= rfl
  have e2 : idx [x] 0 = some x:= rfl
  rw [e1,e2]
  have e3 : ∀ n : UInt8,((x.toNat : Int) == n.toNat) = (x == n):= fun n=> by
   rw [Bool.eq_iff_iff,beq_iff_eq,beq_iff_eq,← UInt8.toNat_inj]
   omega
  have z0 : ((x.toNat : Int) == 0) = (x == 0):= e3 0
  have z1 : ((x.toNat : Int) == 255) = (x == 255):= e3 255
  simp only [gu_tt,oZ0,bnd_eq',z0,z1,Bool.true_and]
  show _ = some (x == 0 || x == 255)
  cases h : x == 0 with
  | true=> rfl
  | false=> simp only [Bool.not_false,gu_tt,oZ0,bnd_eq',z1,Bool.false_or]
 | x :: y :: l =>
  unfold m_der_kinds_1
  have e1 : (((x :: y :: l).length : Int) == 1) = false:= by simp only [beq_eq_false_iff_ne,List.length_cons]; omega
  rw [e1]
  rfl
theorem indexP : ∀ (a b : List UInt8),∃ r,eachN (m_slices_IndexFunc_byte_byte_232x_b1 (a ++ b)) b.length (a.length : Int) () = some r ∧ (r = .inl () ↔ printB b = true) ∧ ∀ i,r = .inr i → 0 ≤ i
 | a,[]=> ⟨.inl (),rfl,by simp [printB],fun i h=> by cases h⟩
 | a,c :: b=> by
  have hi : idx (a ++ c :: b) (a.length : Int) = some c:= by
   unfold idx
   rw [if_pos (by omega)]
   simp
  obtain ⟨r,h1,h2,h3⟩:= indexP (a ++ [c]) b
  have ec : (decide ((c.toNat : Int) < 32) || decide ((c.toNat : Int) > 126)) = !(decide (32 ≤ c.toNat) && decide (c.toNat ≤ 126)):= by
   rw [Bool.eq_iff_iff]
   simp only [Bool.or_eq_true,Bool.not_eq_true',Bool.and_eq_false_iff,decide_eq_true_eq,decide_eq_false_iff_not]
   omega
  have st : m_slices_IndexFunc_byte_byte_232x_b1 (a ++ c :: b) (a.length : Int) () = some (if (decide (32 ≤ c.toNat) && decide (c.toNat ≤ 126)) = true then .inl () else .inr (a.length : Int)):= by
   unfold m_slices_IndexFunc_byte_byte_232x_b1 m_der_kinds_3_1
   rw [hi]
   simp only [oZ0,bnd_eq',ec]
   cases decide (32 ≤ c.toNat) && decide (c.toNat ≤ 126) <;> rfl
  show ∃ r,obind (m_slices_IndexFunc_byte_byte_232x_b1 (a ++ c :: b) (a.length : Int) ()) _ = some r ∧ _
  rw [st]
  cases hc : decide (32 ≤ c.toNat) && decide (c.toNat ≤ 126) with
  | false=> exact ⟨.inr (a.length : Int),rfl,by simp [printB,hc],fun i h=> (by cases h; omega)⟩
  | true =>
   refine ⟨r,?_,?_,h3⟩
   ·show eachN (m_slices_IndexFunc_byte_byte_232x_b1 (a ++ c :: b)) b.length ((a.length : Int) + 1) () = some r
    rw [← h1]
    simp
   ·rw [h2]
    simp only [printB,List.all_cons,hc,Bool.true_and]
theorem kinds3_eq (b : List UInt8) : m_der_kinds_3 b = some (printB b):= by
 obtain ⟨r,h1,h2,h3⟩:= indexP [] b
 unfold m_der_kinds_3 m_slices_ContainsFunc_byte_byte_232x m_slices_IndexFunc_byte_byte_232x
 have h1 : eachN (m_slices_IndexFunc_byte_byte_232x_b1 b) b.length 0 () = some r:= h1
 rw [h1]
 cases r with
 | inl u=> rw [h2.1 rfl]; rfl
 | inr i =>
  have hp : printB b = false:= by
   cases h : printB b with
   | false=> rfl
   | true=> exact absurd (h2.2 h) (by simp)
  have hi:= h3 i rfl
  rw [hp]
  show some (!(decide (i ≥ 0))) = _
  rw [decide_eq_true hi]; rfl
theorem kinds4_eq (b : List UInt8) : m_der_kinds_4 b = some b.isEmpty:= by
 cases b with
 | nil=> rfl
 | cons a l =>
  unfold m_der_kinds_4
  have : (((a :: l).length : Int) == 0) = false:= by simp only [beq_eq_false_iff_ne,List.length_cons]; omega
  rw [this]; rfl
theorem known_cases {t : Int} (h : knownB t = true) : t = 1 ∨ t = 2 ∨ t = 4 ∨ t = 12 ∨ t = 48:= by
 unfold knownB at h
 simp only [Bool.or_eq_true,beq_iff_eq] at h
 omega
theorem find_known {t : Int} (h : knownB t = true) : ∃ k,m_der_find t = some (k,true) ∧ k.tag_ = t ∧ ∀ b,m_dyn_34 k.may_ b = some (kindB t b):= by
 rcases known_cases h with e | e | e | e | e
 ·subst e; exact ⟨_,rfl,rfl,kinds1_eq⟩
 ·subst e; exact ⟨_,rfl,rfl,least_eq⟩
 ·subst e; exact ⟨_,rfl,rfl,fun b=> rfl⟩
 ·subst e; exact ⟨_,rfl,rfl,kinds3_eq⟩
 ·subst e; exact ⟨_,rfl,rfl,kinds4_eq⟩
theorem find_unknown {t : Int} (h : knownB t = false) : m_der_find t = some (⟨0,-1⟩,false) ∧ ∀ b,kindB t b = false:= by
 unfold knownB at h
 simp only [Bool.or_eq_false_iff,beq_eq_false_iff_ne] at h
 obtain ⟨⟨⟨⟨h1,h2⟩,h3⟩,h4⟩,h5⟩:= h
 refine ⟨?_,fun b=> ?_⟩
 ·rw [find_eq,if_neg h1,if_neg h2,if_neg h3,if_neg h4,if_neg h5]
 ·unfold kindB
  rw [if_neg h1,if_neg h2,if_neg h3,if_neg h4,if_neg h5]
theorem kindB_known {t : Int} {b : List UInt8} (h : kindB t b = true) : knownB t = true:= by
 cases e : knownB t with
 | true=> rfl
 | false=> rw [(find_unknown e).2 b] at h; cases h
def mayB : Nat → g_api_Item → Bool
 | 0,_=> false
 | d + 1,x=> kindB x.Tag x.B && (x.Tag == 48 || x.L.isEmpty) && x.L.all (mayB d)
theorem indexM (rF : g_api_Item → Int → Option Bool) (p : g_api_Item → Bool) (d : Int) : ∀ (a b : List g_api_Item),(∀ y ∈ b,rF y (w64 (d - 1)) = some (p y)) →
  ∃ r,eachN (m_slices_IndexFunc_api_Item_api_Item_119x_b1 rF (a ++ b)) b.length (a.length : Int) d = some r ∧ (r = .inl d ↔ b.all p = true) ∧ (∀ e,r = .inl e → e = d) ∧ ∀ i,r = .inr i → 0 ≤ i.1
 | a,[],_=> ⟨.inl d,rfl,by simp,fun e h=> by cases h; rfl,fun i h=> by cases h⟩
 | a,c :: b,h=> by
  have hi : idx (a ++ c :: b) (a.length : Int) = some c:= by
   unfold idx
   rw [if_pos (by omega)]
   simp
  obtain ⟨r,h1,h2,h4,h3⟩:= indexM rF p d (a ++ [c]) b fun y hy=> h y (List.mem_cons_of_mem _ hy)
  have st : m_slices_IndexFunc_api_Item_api_Item_119x_b1 rF (a ++ c :: b) (a.length : Int) d = some (if p c = true then .inl d else .inr ((a.length : Int),d)):= by
   unfold m_slices_IndexFunc_api_Item_api_Item_119x_b1 m_der_may_1_r
   rw [hi]
   simp only [oZ0,h c List.mem_cons_self]
   cases p c <;> rfl
  show ∃ r,obind (m_slices_IndexFunc_api_Item_api_Item_119x_b1 rF (a ++ c :: b) (a.length : Int) d) _ = some r ∧ _
  rw [st]
  cases hc : p c with
  | false=> exact ⟨.inr ((a.length : Int),d),rfl,by simp [hc],fun e h=> (by cases h),fun i h=> (by cases h; exact Int.natCast_nonneg _)⟩
  | true =>
   refine ⟨r,?_,?_,h4,h3⟩
   ·show eachN (m_slices_IndexFunc_api_Item_api_Item_119x_b1 rF (a ++ c :: b)) b.length ((a.length : Int) + 1) d = some r
    rw [← h1]
    simp
   ·rw [h2]
    simp only [List.all_cons,hc,Bool.true_and]
theorem contains_eq (rF : g_api_Item → Int → Option Bool) (p : g_api_Item → Bool) (d : Int) (l : List g_api_Item) (h : ∀ y ∈ l,rF y (w64 (d - 1)) = some (p y)) :
  ∃ z,m_slices_ContainsFunc_api_Item_api_Item_119x_r rF l d = some (!(l.all p),z):= by
 obtain ⟨r,h1,h2,h4,h3⟩:= indexM rF p d [] l h
 have h1 : eachN (m_slices_IndexFunc_api_Item_api_Item_119x_b1 rF l) l.length 0 d = some r:= h1
 unfold m_slices_ContainsFunc_api_Item_api_Item_119x_r m_slices_IndexFunc_api_Item_api_Item_119x_r
 rw [h1]
 cases r with
 | inl u =>
  have:= h4 u rfl
  subst this
  rw [h2.1 rfl]
  exact ⟨_,rfl⟩
 | inr i =>
  have hp : l.all p = false:= by
   cases h : l.all p with
   | false=> rfl
   | true=> exact absurd (h2.2 h) (by simp)
  have hi:= h3 i rfl
  rw [hp]
  refine ⟨i.2,?_⟩
  show some (decide (i.1 ≥ 0),i.2) = _
  rw [decide_eq_true hi]; rfl
theorem may_eq : ∀ (d n : Nat) (x : g_api_Item),d < n → d ≤ 100 → r_der_may n x (d : Int) = some (mayB d x)
 | d,0,x,h,_=> by omega
 | 0,n + 1,x,_,_=> by
  show m_der_may_r (r_der_may n) x 0 = some false
  unfold m_der_may_r
  cases hk : knownB x.Tag with
  | false=> rw [(find_unknown hk).1]; rfl
  | true =>
   obtain ⟨k,e,_,_⟩:= find_known hk
   rw [e]; rfl
 | d + 1,n + 1,x,h,hd=> by
  have ih : ∀ y ∈ x.L,r_der_may n y (w64 (((d + 1 : Nat) : Int) - 1)) = some (mayB d y):= fun y _=> by
   rw [show w64 (((d + 1 : Nat) : Int) - 1) = (d : Int) from by rw [w64_id (by omega) (by omega)]; omega]
   exact may_eq d n y (by omega) (by omega)
  obtain ⟨z,hz⟩:= contains_eq (r_der_may n) (mayB d) ((d + 1 : Nat) : Int) x.L ih
  show m_der_may_r (r_der_may n) x ((d + 1 : Nat) : Int) = some (mayB (d + 1) x)
  unfold m_der_may_r mayB
  have e1 : decide (((d + 1 : Nat) : Int) < 1) = false:= by rw [decide_eq_false_iff_not]; omega
  have e2 : decide ((x.L.length : Int) > 0) = !x.L.isEmpty:= by
   cases x.L with
   | nil=> rfl
   | cons a l=> show decide _ = true; rw [decide_eq_true_eq,List.length_cons]; omega
  have e3 : (x.Tag != 48) = !(x.Tag == 48):= rfl
  rw [e1,e2,e3]
  cases hk : knownB x.Tag with
  | false =>
   rw [(find_unknown hk).1,(find_unknown hk).2]; rfl
  | true =>
   obtain ⟨k,e,_,hm⟩:= find_known hk
   rw [e]
   simp only [oZ0,Bool.not_true,Bool.or_false,Bool.not_false,gu_tt,hm,hz,Bool.not_not]
   cases kindB x.Tag x.B <;> cases x.Tag == 48 <;> cases x.L.isEmpty <;> rfl
theorem may8_eq (x : g_api_Item) : m_der_may x 8 = some (mayB 8 x):= may_eq 8 FUEL x (by have:= FUEL_big; omega) (by decide)
end Go.Proofs.YtlnbckkkapbdmaaGreatDoor
end
section
namespace Go.Proofs.YtlnbckkkapbdmaaGreatDoor
open Go Go.Gw Go.Ax
def lenB (n : Nat) : List UInt8:= if n < 128 then [toB (n : Int)] else if n < 256 then [129,toB (n : Int)] else [130,toB (shr64 (n : Int) 8),toB (n : Int)]
def putB : Nat → g_api_Item → List UInt8
 | 0,_=> []
 | d + 1,x=> toB x.Tag :: (lenB (x.B ++ x.L.flatMap (putB d)).length ++ (x.B ++ x.L.flatMap (putB d)))
def depB : Nat → g_api_Item → Prop
 | 0,_=> False
 | d + 1,x=> ∀ y ∈ x.L,depB d y
theorem dep_may : ∀ {d : Nat} {x : g_api_Item},mayB d x = true → depB d x
 | 0,x,h=> by cases h
 | d + 1,x,h=> by
  simp only [mayB,Bool.and_eq_true,List.all_eq_true] at h
  exact fun y hy=> dep_may (h.2 y hy)
theorem lenB_len (n : Nat) : 1 ≤ (lenB n).length ∧ (lenB n).length ≤ 3:= by
 unfold lenB
 split
 ·exact ⟨by simp,by simp⟩
 ·split
  ·exact ⟨by simp,by simp⟩
  ·exact ⟨by simp,by simp⟩
theorem putE : ∀ (d n : Nat) (x : g_api_Item) (b : List UInt8),d ≤ n → depB d x → b.length + (putB d x).length ≤ 100000000000000 → r_der_put n b x = some (b ++ putB d x)
 | 0,n,x,b,_,h,_=> h.elim
 | d + 1,0,x,b,h,_,_=> by omega
 | d + 1,n + 1,x,b,hn,hd,hb=> by
  have eP : putB (d + 1) x = toB x.Tag :: (lenB (x.B ++ x.L.flatMap (putB d)).length ++ (x.B ++ x.L.flatMap (putB d))):= rfl
  have go : ∀ (l : List g_api_Item) (i : Int) (s : List UInt8),(∀ y ∈ l,depB d y) → s.length + (l.flatMap (putB d)).length ≤ 100000000000000 → each0 (m_der_content_b2 (r_der_put n)) l i s = some (s ++ l.flatMap (putB d)):= by
   intro l
   induction l with
   | nil=> intro i s _ _; simp [each0]
   | cons y l ih =>
    intro i s h hs
    rw [List.flatMap_cons,List.length_append] at hs
    have e : m_der_content_b2 (r_der_put n) i y s = some (s ++ putB d y):= by
     unfold m_der_content_b2
     rw [putE d n y s (by omega) (h y List.mem_cons_self) (by omega)]
     rfl
    show obind (m_der_content_b2 (r_der_put n) i y s) _ = _
    rw [e]
    show each0 _ l (i + 1) (s ++ putB d y) = _
    rw [ih (i + 1) (s ++ putB d y) (fun z hz=> h z (List.mem_cons_of_mem _ hz)) (by rw [List.length_append]; omega),List.flatMap_cons,List.append_assoc]
  rw [eP] at hb ⊢
  simp only [List.length_cons,List.length_append] at hb
  have hc : m_der_content_r (r_der_put n) x = some (x.B ++ x.L.flatMap (putB d)):= by
   unfold m_der_content_r
   rw [clone_eq (by omega),oZ0,go x.L 0 x.B hd (by omega)]
   rfl
  show m_der_put_r (r_der_put n) b x = _
  unfold m_der_put_r
  rw [hc,oZ0,app_ok 1 (by simp only [List.length_cons,List.length_nil]; omega) (by simp only [List.length_cons,List.length_nil]; omega),oZ0]
  rw [← List.length_append] at hb
  have hL : (x.B ++ x.L.flatMap (putB d)).length = (x.B ++ x.L.flatMap (putB d)).length:= rfl
  generalize (x.B ++ x.L.flatMap (putB d)) = c at hb hL ⊢
  have hl:= lenB_len c.length
  have hm : ∀ z : List UInt8,z.length ≤ 3 → app 1 (b ++ [toB x.Tag]) z = some (b ++ [toB x.Tag] ++ z):= fun z hz=> app_ok 1 (by simp only [List.length_append,List.length_cons,List.length_nil]; omega) (by simp only [List.length_append,List.length_cons,List.length_nil]; omega)
  have fin : app 1 (b ++ [toB x.Tag] ++ lenB c.length) c = some (b ++ toB x.Tag :: (lenB c.length ++ c)):= by
   rw [app_ok 1 (by simp only [List.length_append,List.length_cons,List.length_nil]; omega) (by simp only [List.length_append,List.length_cons,List.length_nil]; omega)]
   simp
  have mid : (bnd (decide ((c.length : Int) < 128)) fun x4 =>
    if x4 = true then
     obind (app 1 (b ++ [toB x.Tag]) ([(toB (c.length : Int))] : List UInt8)) fun x5 =>
     some x5
    else
    bnd ((decide ((c.length : Int) < 256))) fun x6 =>
    if x6 = true then
     obind (app 1 (b ++ [toB x.Tag]) ([129,(toB (c.length : Int))] : List UInt8)) fun x7 =>
     some x7
    else
    obind (app 1 (b ++ [toB x.Tag]) ([130,(toB (shr64 (c.length : Int) 8)),(toB (c.length : Int))] : List UInt8)) fun x8 =>
    some x8) = some (b ++ [toB x.Tag] ++ lenB c.length):= by
   rw [hm [toB (c.length : Int)] (by simp),hm [129,toB (c.length : Int)] (by simp),hm [130,toB (shr64 (c.length : Int) 8),toB (c.length : Int)] (by simp)]
   simp only [bnd_eq',oZ0,decide_eq_true_eq]
   unfold lenB
   by_cases h1 : c.length < 128
   ·rw [if_pos h1,if_pos (by omega)]
   ·rw [if_neg h1,if_neg (by omega)]
    by_cases h2 : c.length < 256
    ·rw [if_pos h2,if_pos (by omega)]
    ·rw [if_neg h2,if_neg (by omega)]
  rw [mid]
  simp only [oZ0]
  rw [fin]
  rfl
theorem put8_eq {x : g_api_Item} (h : depB 8 x) (hs : (putB 8 x).length ≤ 100000000000000) : m_der_put [] x = some (putB 8 x):= by
 have:= putE 8 FUEL x [] (by have:= FUEL_big; omega) h (by simpa using hs)
 exact this
theorem Put_eq {x : g_api_Item} (hs : (putB 8 x).length ≤ 100000000000000) :
  m_der_Put x = some (if mayB 8 x = true then (if (putB 8 x).length ≤ 8192 then (putB 8 x,0) else ([],2)) else ([],1)):= by
 unfold m_der_Put
 rw [may8_eq]
 cases hm : mayB 8 x with
 | false=> rfl
 | true =>
  simp only [oZ0,Bool.not_true,Bool.false_eq_true,if_false,if_true]
  rw [put8_eq (dep_may hm) hs]
  simp only [oZ0,decide_eq_true_eq]
  by_cases h : (putB 8 x).length ≤ 8192
  ·rw [if_neg (by omega),if_pos h]
  ·rw [if_pos (by omega),if_neg h]
theorem flat_len {α : Type} (f : α → List UInt8) (k : Nat) : ∀ (l : List α),(∀ y ∈ l,(f y).length ≤ k) → (l.flatMap f).length ≤ l.length * k
 | [],_=> by simp
 | y :: l,h=> by
  have h1:= h y List.mem_cons_self
  have h2:= flat_len f k l fun z hz=> h z (List.mem_cons_of_mem _ hz)
  rw [List.flatMap_cons,List.length_append,List.length_cons,Nat.succ_mul]
  omega
theorem put_len (d : Nat) (x : g_api_Item) : (putB (d + 1) x).length ≤ 4 + x.B.length + (x.L.flatMap (putB d)).length:= by
 have:= lenB_len (x.B ++ x.L.flatMap (putB d)).length
 show (toB x.Tag :: (lenB (x.B ++ x.L.flatMap (putB d)).length ++ (x.B ++ x.L.flatMap (putB d)))).length ≤ _
 rw [List.length_cons,List.length_append,List.length_append] at *
 omega
theorem int_len (d : Nat) (n : Int) : (putB d (intI n)).length ≤ 12:= by
 cases d with
 | zero=> simp [putB]
 | succ d =>
  have h:= put_len d (intI n)
  have h1 : (intI n).B.length ≤ 8:= trim_len (be8 n)
  have h2 : (intI n).L = []:= rfl
  rw [h2] at h
  simp only [List.flatMap_nil,List.length_nil] at h
  omega
theorem textI_len (d : Nat) {s : ByteArray} (hs : s.size ≤ 64) : (putB d (textI s)).length ≤ 68:= by
 cases d with
 | zero=> simp [putB]
 | succ d =>
  have h:= put_len d (textI s)
  have h1 : (textI s).B.length = s.size:= size_list s
  have h2 : (textI s).L = []:= rfl
  rw [h2] at h
  simp only [List.flatMap_nil,List.length_nil] at h
  omega
theorem boolI_len (d : Nat) (v : Bool) : (putB d (boolI v)).length ≤ 5:= by
 cases d with
 | zero=> simp [putB]
 | succ d =>
  have h:= put_len d (boolI v)
  have h1 : (boolI v).B.length = 1:= rfl
  have h2 : (boolI v).L = []:= rfl
  rw [h2] at h
  simp only [List.flatMap_nil,List.length_nil] at h
  omega
theorem seqI_len (d : Nat) (l : List g_api_Item) (k : Nat) (hk : ∀ e y,y ∈ l → (putB e y).length ≤ k) : (putB d (seqI l)).length ≤ 4 + l.length * k:= by
 cases d with
 | zero=> simp [putB]
 | succ d =>
  have h:= put_len d (seqI l)
  have h1 : (seqI l).B.length = 0:= rfl
  have h3:= flat_len (putB d) k l fun y hy=> hk d y hy
  have h2 : (seqI l).L = l:= rfl
  rw [h2] at h
  omega
theorem textsI_len (d : Nat) {l : List ByteArray} (h : ∀ s ∈ l,s.size ≤ 64) (hn : l.length ≤ 8) : (putB d (textsI l)).length ≤ 1000:= by
 have:= seqI_len d (l.map textI) 68 fun e y hy=> by
  obtain ⟨s,hs,e2⟩:= List.mem_map.1 hy
  rw [← e2]
  exact textI_len e (h s hs)
 rw [List.length_map] at this
 unfold textsI
 omega
theorem mem2 {α : Type} {p : α → Prop} {a b : α} (ha : p a) (hb : p b) : ∀ y ∈ [a,b],p y:= by
 intro y hy
 simp only [List.mem_cons,List.not_mem_nil,or_false] at hy
 rcases hy with e | e <;> rw [e] <;> assumption
theorem preI_len (d : Nat) {c : g_api_Cert} (h : Sized c) : (putB d (preI c)).length ≤ 20000:= by
 have:= seqI_len d [intI c.Serial,textI c.Issuer,textI c.Subject,bigI c.Key,textsI c.Names,intI c.From,intI c.Until,boolI c.Ca,intI c.Depth,textsI c.Permit] 1000 fun e y hy=> by
  simp only [List.mem_cons,List.not_mem_nil,or_false] at hy
  rcases hy with q | q | q | q | q | q | q | q | q | q <;> rw [q]
  ·have:= int_len e c.Serial; omega
  ·have:= textI_len e h.issuer; omega
  ·have:= textI_len e h.subject; omega
  ·have:= int_len e (w64 (c.Key.toNat : Int)); unfold bigI; omega
  ·exact textsI_len e h.names h.few
  ·have:= int_len e c.From; omega
  ·have:= int_len e c.Until; omega
  ·have:= boolI_len e c.Ca; omega
  ·have:= int_len e c.Depth; omega
  ·exact textsI_len e h.permit h.fewP
 simp only [List.length_cons,List.length_nil] at this
 unfold preI
 omega
theorem promI_len (d : Nat) (p : g_api_Promise) : (putB d (promI p)).length ≤ 100:= by
 have:= seqI_len d [intI p.Log,intI p.At,bigI p.Leaf.1,bigI p.Leaf.2,bigI p.Sig.E,bigI p.Sig.S] 12 fun e y hy=> by
  simp only [List.mem_cons,List.not_mem_nil,or_false] at hy
  rcases hy with q | q | q | q | q | q <;> rw [q] <;> exact int_len e _
 simp only [List.length_cons,List.length_nil] at this
 unfold promI
 omega
theorem bodyI_len (d : Nat) {c : g_api_Cert} (h : Sized c) : (putB d (bodyI c)).length ≤ 50000:= by
 have:= seqI_len d [preI c,promsI c.Proms] 20000 fun e=> mem2 (p:= fun y=> (putB e y).length ≤ 20000) (preI_len e h) (by
  have:= seqI_len e (c.Proms.map promI) 100 fun f y hy=> by
   obtain ⟨p,hp,e2⟩:= List.mem_map.1 hy
   rw [← e2]
   exact promI_len f p
  rw [List.length_map] at this
  have:= h.proms
  unfold promsI
  omega)
 simp only [List.length_cons,List.length_nil] at this
 unfold bodyI
 omega
theorem wholeI_len (d : Nat) {c : g_api_Cert} (h : Sized c) : (putB d (wholeI c)).length ≤ 200000:= by
 have:= seqI_len d [bodyI c,seqI [bigI c.Sig.E,bigI c.Sig.S]] 50000 fun e=> mem2 (p:= fun y=> (putB e y).length ≤ 50000) (bodyI_len e h) (by
  have:= seqI_len e [bigI c.Sig.E,bigI c.Sig.S] 12 fun f=> mem2 (p:= fun y=> (putB f y).length ≤ 12) (int_len f _) (int_len f _)
  simp only [List.length_cons,List.length_nil] at this
  omega)
 simp only [List.length_cons,List.length_nil] at this
 unfold wholeI
 omega
def checkV (c : g_api_Cert) : Int:= if formB c = true then (if mayB 8 (wholeI c) = true ∧ (putB 8 (wholeI c)).length ≤ 2048 then 0 else 2) else 1
theorem chk_fin (b : List UInt8) (m : Bool) : (obind (some (if m = true then (if b.length ≤ 8192 then (b,(0 : Int)) else ([],2)) else ([],1))) fun x3=> if ((x3.2 != 0) || (decide ((x3.1.length : Int) > 2048))) = true then some (2 : Int) else some 0) = some (if m = true ∧ b.length ≤ 2048 then 0 else 2):= by
 cases m with
 | false=> rfl
 | true =>
  simp only [if_true,oZ0,true_and]
  by_cases h1 : b.length ≤ 8192
  ·rw [if_pos h1]
   by_cases h2 : b.length ≤ 2048
   ·rw [if_pos h2,if_neg]
    simp only [bne_self_eq_false,Bool.false_or,decide_eq_true_eq]
    omega
   ·rw [if_neg h2,if_pos]
    simp only [bne_self_eq_false,Bool.false_or,decide_eq_true_eq]
    omega
  ·rw [if_neg h1]
   have h2 : ¬ b.length ≤ 2048:= by omega
   rw [if_neg h2]
   rfl
theorem check_eq (c : g_api_Cert) : m_cert_Check c = some (checkV c):= by
 unfold m_cert_Check checkV
 rw [formed_eq]
 cases hf : formB c with
 | false=> rfl
 | true =>
  have hs:= (form_of hf).sized
  simp only [oZ0,Bool.not_true,Bool.false_eq_true,if_false,if_true]
  have hl:= wholeI_len 8 hs
  rw [wholeI_eq hs,oZ0,Put_eq (by omega),chk_fin]
end Go.Proofs.YtlnbckkkapbdmaaGreatDoor
end
section
namespace Go.Proofs.YtlnbckkkapbdmaaGreatDoor
open Go Go.Gw Go.Ax
theorem w64_mod (x : Int) : w64 (x % 18446744073709551616) = w64 x:= by unfold w64; omega
theorem nat_or (q b : Nat) (h : b < 256) : 256 * q ||| b = 256 * q + b:= (Nat.two_pow_add_eq_or_of_lt (i:= 8) h q).symm
theorem or_shl8 (s b : Int) (h0 : 0 ≤ b) (h1 : b < 256) : or64 (shl64 s 8) b = w64 (s * 256 + b):= by
 have e1 : (shl64 s 8) = w64 (s * 256):= rfl
 unfold or64
 rw [BitVec.toNat_or,BitVec.toNat_ofInt,BitVec.toNat_ofInt,e1]
 obtain ⟨q,hq⟩ : ∃ q : Nat,(w64 (s * 256) % ((2 ^ 64 : Nat) : Int)).toNat = 256 * q:= by
  refine ⟨(w64 (s * 256) % ((2 ^ 64 : Nat) : Int)).toNat / 256,?_⟩
  unfold w64
  omega
 have hb : (b % ((2 ^ 64 : Nat) : Int)).toNat = b.toNat:= by omega
 rw [hb,hq,nat_or q b.toNat (by omega),← w64_mod,← w64_mod (s * 256 + b)]
 congr 1
 have hq' : w64 (s * 256) % 18446744073709551616 = 256 * q:= by
  have : (0 : Int) ≤ w64 (s * 256) % ((2 ^ 64 : Nat) : Int):= Int.emod_nonneg _ (by decide)
  have e : (((2 ^ 64 : Nat) : Int)) = 18446744073709551616:= rfl
  rw [e] at this hq
  omega
 unfold w64 at hq'
 omega
theorem toB_nat (n : Int) : ((toB n).toNat : Int) = n % 256:= by
 have h : 0 ≤ n % 256:= Int.emod_nonneg _ (by decide)
 have h2 : n % 256 < 256:= Int.emod_lt_of_pos _ (by decide)
 unfold toB
 rw [UInt8.toNat_ofNat']
 omega
theorem shr64_8 (n : Int) : shr64 n 8 = n / 256:= by
 unfold shr64
 rw [Int.fdiv_eq_ediv_of_nonneg _ (by decide)]
 rfl
theorem idx0 {α : Type} (x : α) (l : List α) : idx (x :: l) 0 = some x:= rfl
theorem fst1 (b : UInt8) (r : List UInt8) (h : b.toNat < 128) : m_der_length (b :: r) = some ((b.toNat : Int),1,0):= by
 unfold m_der_length
 have e0 : (((b :: r).length : Int) == 0) = false:= by simp only [beq_eq_false_iff_ne,List.length_cons]; omega
 have e1 : w64 (b.toNat : Int) = (b.toNat : Int):= w64_id (by omega) (by omega)
 rw [e0,idx0,if_neg (by decide),oZ0,e1,if_pos (by simp only [decide_eq_true_eq]; omega)]
theorem cut_mid (a : UInt8) (l r : List UInt8) : cut (a :: l ++ r) 1 ((l.length : Int) + 1) = some l:= by
 unfold cut
 rw [if_pos ⟨by decide,by omega,by simp only [List.length_append,List.length_cons]; omega⟩]
 have e : ((l.length : Int) + 1).toNat - (1 : Int).toNat = l.length:= by show ((l.length : Int) + 1).toNat - 1 = _; omega
 rw [e]
 show some (List.take l.length (l ++ r)) = _
 rw [List.take_left]
theorem fst2 (b : UInt8) (r : List UInt8) (h : 128 ≤ b.toNat) : m_der_length (129 :: b :: r) = some ((b.toNat : Int),2,0):= by
 unfold m_der_length
 have e0 : (((129 :: b :: r).length : Int) == 0) = false:= by simp only [beq_eq_false_iff_ne,List.length_cons]; omega
 have e1 : w64 (((129 : UInt8).toNat : Int)) = 129:= w64_id (x:= 129) (by decide) (by decide)
 have e2 : w64 ((129 : Int) - 128) = 1:= rfl
 have e3 : w64 ((1 : Int) + 1) = 2:= rfl
 have e4 : decide (((129 :: b :: r).length : Int) ≤ 1) = false:= by simp only [decide_eq_false_iff_not,List.length_cons]; omega
 have e5 : cut (129 :: b :: r) 1 2 = some [b]:= cut_mid 129 [b] r
 have hb:= b.toNat_lt
 have e6 : or64 (shl64 0 8) (w64 (b.toNat : Int)) = (b.toNat : Int):= by
  rw [w64_id (x:= (b.toNat : Int)) (by omega) (by omega),or_shl8 0 _ (by omega) (by omega),Int.zero_mul,Int.zero_add,w64_id (by omega) (by omega)]
 have e7 : each0 m_der_length_b1 [b] 0 0 = some (b.toNat : Int):= by
  show some (or64 (shl64 0 8) (w64 (b.toNat : Int))) = _
  rw [e6]
 have e8 : decide ((b.toNat : Int) < 128) = false:= by simp only [decide_eq_false_iff_not]; omega
 rw [e0,idx0,if_neg (by decide),oZ0,e1,if_neg (by decide),bnd_eq',e2,bnd_eq',if_neg (by decide),bnd_eq',e4,if_neg (by decide),e3,e5,oZ0,e7,oZ0,oZ0,e8,if_neg (by simp)]
theorem fst3 (b1 b2 : UInt8) (r : List UInt8) (h : 1 ≤ b1.toNat) : m_der_length (130 :: b1 :: b2 :: r) = some ((b1.toNat : Int) * 256 + (b2.toNat : Int),3,0):= by
 unfold m_der_length
 have e0 : (((130 :: b1 :: b2 :: r).length : Int) == 0) = false:= by simp only [beq_eq_false_iff_ne,List.length_cons]; omega
 have e1 : w64 (((130 : UInt8).toNat : Int)) = 130:= w64_id (x:= 130) (by decide) (by decide)
 have e2 : w64 ((130 : Int) - 128) = 2:= rfl
 have e3 : w64 ((2 : Int) + 1) = 3:= rfl
 have e4 : decide (((130 :: b1 :: b2 :: r).length : Int) ≤ 2) = false:= by simp only [decide_eq_false_iff_not,List.length_cons]; omega
 have e5 : cut (130 :: b1 :: b2 :: r) 1 3 = some [b1,b2]:= cut_mid 130 [b1,b2] r
 have hb1:= b1.toNat_lt
 have hb2:= b2.toNat_lt
 have e6 : or64 (shl64 0 8) (w64 (b1.toNat : Int)) = (b1.toNat : Int):= by
  rw [w64_id (x:= (b1.toNat : Int)) (by omega) (by omega),or_shl8 0 _ (by omega) (by omega),Int.zero_mul,Int.zero_add,w64_id (by omega) (by omega)]
 have e6' : or64 (shl64 (b1.toNat : Int) 8) (w64 (b2.toNat : Int)) = (b1.toNat : Int) * 256 + (b2.toNat : Int):= by
  rw [w64_id (x:= (b2.toNat : Int)) (by omega) (by omega),or_shl8 _ _ (by omega) (by omega),w64_id (by omega) (by omega)]
 have e7 : each0 m_der_length_b1 [b1,b2] 0 0 = some ((b1.toNat : Int) * 256 + (b2.toNat : Int)):= by
  show some (or64 (shl64 (or64 (shl64 0 8) (w64 (b1.toNat : Int))) 8) (w64 (b2.toNat : Int))) = _
  rw [e6,e6']
 have e8 : decide ((b1.toNat : Int) * 256 + (b2.toNat : Int) < 128) = false:= by simp only [decide_eq_false_iff_not]; omega
 have e9 : decide ((b1.toNat : Int) * 256 + (b2.toNat : Int) < 256) = false:= by simp only [decide_eq_false_iff_not]; omega
 rw [e0,idx0,if_neg (by decide),oZ0,e1,if_neg (by decide),bnd_eq',e2,bnd_eq',if_neg (by decide),bnd_eq',e4,if_neg (by decide),e3,e5,oZ0,e7,oZ0,oZ0,e8,e9,if_neg (by decide)]
theorem length_lt {n : Nat} (hn : n < 65536) (r : List UInt8) : m_der_length (lenB n ++ r) = some ((n : Int),((lenB n).length : Int),0):= by
 have n2:= toB_nat (n : Int)
 have n1:= toB_nat (shr64 (n : Int) 8)
 rw [shr64_8] at n1
 unfold lenB
 rw [shr64_8]
 generalize toB (n : Int) = b2 at n2
 generalize toB ((n : Int) / 256) = b1 at n1
 by_cases h1 : n < 128
 ·rw [if_pos h1]
  have e : (b2.toNat : Int) = n:= by omega
  have:= fst1 b2 r (by omega)
  rw [e] at this
  exact this
 ·rw [if_neg h1]
  by_cases h2 : n < 256
  ·rw [if_pos h2]
   have e : (b2.toNat : Int) = n:= by omega
   have:= fst2 b2 r (by omega)
   rw [e] at this
   exact this
  ·rw [if_neg h2]
   have e : (b1.toNat : Int) * 256 + (b2.toNat : Int) = n:= by omega
   have:= fst3 b1 b2 r (by omega)
   rw [e] at this
   exact this
theorem cut_app {α : Type} (a b : List α) : cut (a ++ b) (a.length : Int) (((a ++ b).length : Nat) : Int) = some b:= by
 unfold cut
 rw [if_pos ⟨by omega,by rw [List.length_append]; omega,by omega⟩]
 simp only [Int.toNat_natCast,List.drop_left]
 rw [List.take_of_length_le]
 rw [List.length_append]; omega
theorem cut_fst {α : Type} (a b : List α) : cut (a ++ b) 0 (a.length : Int) = some a:= by
 unfold cut
 rw [if_pos ⟨by omega,by omega,by rw [List.length_append]; omega⟩]
 simp
theorem put_pos {d : Nat} {x : g_api_Item} (h : mayB d x = true) : 1 ≤ (putB d x).length:= by
 cases d with
 | zero=> cases h
 | succ d=> show 1 ≤ (_ :: _ : List UInt8).length; rw [List.length_cons]; omega
theorem tag_back {t : Int} (h : knownB t = true) : w64 ((toB t).toNat : Int) = t:= by
 rw [toB_nat]
 rcases known_cases h with e | e | e | e | e <;> subst e <;> rfl
theorem loop_eq (rF : List UInt8 → Int → Option (g_api_Item × List UInt8 × Int)) (p : g_api_Item → List UInt8) (D : Int) (r0 : List UInt8) : ∀ (l acc : List g_api_Item) (m : Nat),l.length < m → acc.length + l.length ≤ 100000 →
  (∀ y ∈ l,1 ≤ (p y).length ∧ ∀ r,rF (p y ++ r) (w64 (D - 1)) = some (y,r,0)) → iter (m_der_get_b3 rF D) m (r0,l.flatMap p,acc) = some (.inl (r0,acc ++ l))
 | l,acc,0,h,_,_=> by omega
 | [],acc,m + 1,_,_,_=> by
  have e : m_der_get_b3 rF D (r0,[],acc) = some (.inr (.inl (r0,acc))):= rfl
  show obind (m_der_get_b3 rF D (r0,[],acc)) _ = _
  rw [e]
  simp
 | y :: l,acc,m + 1,h,ha,hy=> by
  rw [List.length_cons] at h ha
  obtain ⟨h1,h2⟩:= hy y List.mem_cons_self
  have e : m_der_get_b3 rF D (r0,(y :: l).flatMap p,acc) = some (.inl (r0,l.flatMap p,acc ++ [y])):= by
   unfold m_der_get_b3
   have e0 : decide ((((y :: l).flatMap p).length : Int) > 0) = true:= by rw [decide_eq_true_eq,List.flatMap_cons,List.length_append]; omega
   show (if decide ((((y :: l).flatMap p).length : Int) > 0) = true then _ else _) = _
   rw [if_pos e0]
   simp only [List.flatMap_cons,h2,oZ0,bne_self_eq_false,Bool.false_eq_true,if_false]
   rw [app_ok 56 (by show (acc.length + 1) * 56 ≤ _; omega) (by show acc.length + 1 ≤ _; omega)]
   rfl
  show obind (m_der_get_b3 rF D (r0,(y :: l).flatMap p,acc)) _ = _
  rw [e]
  show iter (m_der_get_b3 rF D) m (r0,l.flatMap p,acc ++ [y]) = _
  rw [loop_eq rF p D r0 l (acc ++ [y]) m (by omega) (by rw [List.length_append]; show acc.length + 1 + _ ≤ _; omega) fun z hz=> hy z (List.mem_cons_of_mem _ hz),List.append_assoc]
  rfl
theorem flat_pos (p : g_api_Item → List UInt8) : ∀ (l : List g_api_Item),(∀ y ∈ l,1 ≤ (p y).length) → l.length ≤ (l.flatMap p).length
 | [],_=> by simp
 | y :: l,h=> by
  have h1:= h y List.mem_cons_self
  have h2:= flat_pos p l fun z hz=> h z (List.mem_cons_of_mem _ hz)
  rw [List.flatMap_cons,List.length_append,List.length_cons]
  omega
theorem flat_mem (p : g_api_Item → List UInt8) {y : g_api_Item} : ∀ {l : List g_api_Item},y ∈ l → (p y).length ≤ (l.flatMap p).length
 | z :: l,h=> by
  rw [List.flatMap_cons,List.length_append]
  rcases List.mem_cons.1 h with e | h
  ·rw [e]; omega
  ·have:= flat_mem p h; omega
theorem get_put (d : Nat) : ∀ (D n : Nat) (x : g_api_Item) (r : List UInt8),mayB d x = true → d ≤ D → d ≤ n → D ≤ 100 → (putB d x).length ≤ 8192 → r_der_get n (putB d x ++ r) (D : Int) = some (x,r,0):= by
 induction d with
 | zero=> intro D n x r h; cases h
 | succ d IH =>
  intro D n x r hm hD hn hDD hl
  obtain ⟨n,rfl⟩ : ∃ k,n = k + 1:= ⟨n - 1,by omega⟩
  have eP : putB (d + 1) x = toB x.Tag :: (lenB (x.B ++ x.L.flatMap (putB d)).length ++ (x.B ++ x.L.flatMap (putB d))):= rfl
  have ih : ∀ y ∈ x.L,mayB d y = true ∧ ∀ r,(putB d y).length ≤ 8192 → r_der_get n (putB d y ++ r) (w64 ((D : Int) - 1)) = some (y,r,0):= fun y hy=> by
   simp only [mayB,Bool.and_eq_true,List.all_eq_true] at hm
   refine ⟨hm.2 y hy,fun r h1=> ?_⟩
   have:= IH (D - 1) n y r (hm.2 y hy) (by omega) (by omega) (by omega) h1
   rw [show w64 ((D : Int) - 1) = ((D - 1 : Nat) : Int) from by rw [w64_id (by omega) (by omega)]; omega]
   exact this
  have hm0:= hm
  simp only [mayB,Bool.and_eq_true,List.all_eq_true] at hm0
  have hk:= kindB_known hm0.1.1
  rw [eP] at hl ⊢
  generalize hc : x.B ++ x.L.flatMap (putB d) = c at hl ⊢
  have hlen:= lenB_len c.length
  simp only [List.length_cons,List.length_append] at hl
  obtain ⟨k,f1,f2,f3⟩:= find_known hk
  show m_der_get_r (r_der_get n) (toB x.Tag :: (lenB c.length ++ c) ++ r) (D : Int) = _
  unfold m_der_get_r
  have e0 : (((toB x.Tag :: (lenB c.length ++ c) ++ r).length : Int) == 0) = false:= by simp only [beq_eq_false_iff_ne,List.length_append,List.length_cons]; omega
  have e1 : idx (toB x.Tag :: (lenB c.length ++ c) ++ r) 0 = some (toB x.Tag):= rfl
  rw [e0,e1,if_neg (by decide),oZ0,tag_back hk,f1,oZ0]
  have e2 : decide ((D : Int) < 1) = false:= by rw [decide_eq_false_iff_not]; omega
  have e3 : cut (toB x.Tag :: (lenB c.length ++ c) ++ r) 1 ((toB x.Tag :: (lenB c.length ++ c) ++ r).length : Int) = some (lenB c.length ++ (c ++ r)):= by
   rw [List.cons_append,cut_tl,List.append_assoc]
  rw [e2,if_neg (by simp),e3,oZ0,length_lt (by omega),oZ0,if_neg (by simp)]
  have e4 : w64 (w64 (1 + ((lenB c.length).length : Int)) + (c.length : Int)) = 1 + ((lenB c.length).length : Int) + (c.length : Int):= by
   rw [w64_id (x:= 1 + ((lenB c.length).length : Int)) (by omega) (by omega),w64_id (by omega) (by omega)]
  have e5 : decide (1 + ((lenB c.length).length : Int) + (c.length : Int) > 8192) = false:= by rw [decide_eq_false_iff_not]; omega
  have e6 : cut (toB x.Tag :: (lenB c.length ++ c) ++ r) (w64 (1 + ((lenB c.length).length : Int))) ((toB x.Tag :: (lenB c.length ++ c) ++ r).length : Int) = some (c ++ r):= by
   have:= cut_app (toB x.Tag :: lenB c.length) (c ++ r)
   rw [w64_id (x:= 1 + ((lenB c.length).length : Int)) (by omega) (by omega)]
   rw [show ((toB x.Tag :: lenB c.length).length : Int) = 1 + ((lenB c.length).length : Int) from by rw [List.length_cons]; omega] at this
   rw [show toB x.Tag :: (lenB c.length ++ c) ++ r = toB x.Tag :: lenB c.length ++ (c ++ r) from by simp]
   exact this
  have e7 : decide ((c.length : Int) > ((c ++ r).length : Int)) = false:= by rw [decide_eq_false_iff_not,List.length_append]; omega
  rw [e4,e5,if_neg (by decide),e6,oZ0,e7,if_neg (by decide),cut_fst,oZ0,cut_app,oZ0,f2]
  cases ht : x.Tag == 48 with
  | false =>
   have hL : x.L = []:= by
    have:= hm0.1.2
    rw [ht] at this
    simpa using this
   have hcB : c = x.B:= by rw [← hc,hL]; simp
   have e8 : (x.Tag != 48) = true:= by simp only [bne,ht,Bool.not_false]
   rw [if_pos e8,hcB,f3,oZ0,hm0.1.1,if_neg (by decide),clone_eq (by rw [← hcB]; omega),oZ0]
   cases x
   simp only at hL
   rw [hL]
  | true =>
   have e8 : (x.Tag != 48) = false:= by simp only [bne,ht,Bool.not_true]
   have ht2 : x.Tag = 48:= by simpa using ht
   have hB : x.B = []:= by
    have:= hm0.1.1
    rw [ht2] at this
    exact List.isEmpty_iff.1 this
   have hcL : c = x.L.flatMap (putB d):= by rw [← hc,hB]; rfl
   rw [e8,if_neg (by decide)]
   have hp : ∀ y ∈ x.L,1 ≤ (putB d y).length:= fun y hy=> put_pos (ih y hy).1
   have hn1:= flat_pos (putB d) x.L hp
   have:= loop_eq (r_der_get n) (putB d) (D : Int) r x.L [] FUEL (by have:= FUEL_big; rw [hcL] at hl; omega) (by rw [hcL] at hl; simp only [List.length_nil]; omega) fun y hy=> ⟨hp y hy,fun r'=> by
    exact (ih y hy).2 r' (by have:= flat_mem (putB d) hy; rw [hcL] at hl; omega)⟩
   rw [hcL,this]
   cases x
   simp only at hB
   rw [hB]
   rfl
end Go.Proofs.YtlnbckkkapbdmaaGreatDoor
end
section
namespace Go.Proofs.YtlnbckkkapbdmaaGreatDoor
open Go Go.Gw Go.Ax
theorem toB_back (c : UInt8) : toB (c.toNat : Int) = c:= by
 apply UInt8.toNat_inj.1
 have h:= toB_nat (c.toNat : Int)
 have:= c.toNat_lt
 omega
theorem len_some (l : List UInt8) (hl : l.length ≤ 1000000) : ∃ n long e : Int,m_der_length l = some (n,long,e) ∧ (e = 0 → ∃ (k : Nat) (r : List UInt8),k < 65536 ∧ l = lenB k ++ r ∧ n = (k : Int) ∧ long = ((lenB k).length : Int)):= by
 match l with
 | []=> exact ⟨0,0,70,rfl,fun h=> by omega⟩
 | b :: r =>
  have e0 : (((b :: r).length : Int) == 0) = false:= by simp only [beq_eq_false_iff_ne,List.length_cons]; omega
  have hb:= b.toNat_lt
  have e1 : w64 (b.toNat : Int) = (b.toNat : Int):= w64_id (by omega) (by omega)
  by_cases h1 : b.toNat < 128
  ·refine ⟨(b.toNat : Int),1,0,fst1 b r h1,fun _=> ⟨b.toNat,r,by omega,?_,rfl,?_⟩⟩
   ·unfold lenB
    rw [if_pos h1,toB_back]
    rfl
   ·unfold lenB
    rw [if_pos h1]
    rfl
  by_cases h2 : b.toNat = 129
  ·have hbe : b = 129:= UInt8.toNat_inj.1 h2
   subst hbe
   match r with
   | [] =>
    refine ⟨0,0,70,?_,fun h=> by omega⟩
    unfold m_der_length
    have f1 : w64 (((129 : UInt8).toNat : Int)) = 129:= w64_id (x:= 129) (by decide) (by decide)
    have f2 : w64 ((129 : Int) - 128) = 1:= rfl
    have f4 : decide ((([129] : List UInt8).length : Int) ≤ 1) = true:= by simp
    rw [e0,idx0,if_neg (by decide),oZ0,f1,if_neg (by decide),bnd_eq',f2,bnd_eq',if_neg (by decide),bnd_eq',f4,if_pos rfl]
   | c :: r =>
    have hc:= c.toNat_lt
    by_cases h3 : 128 ≤ c.toNat
    ·refine ⟨(c.toNat : Int),2,0,fst2 c r h3,fun _=> ⟨c.toNat,r,by omega,?_,rfl,?_⟩⟩
     ·unfold lenB
      rw [if_neg (by omega),if_pos (by omega),toB_back]
      rfl
     ·unfold lenB
      rw [if_neg (by omega),if_pos (by omega)]
      rfl
    ·refine ⟨0,0,71,?_,fun h=> by omega⟩
     unfold m_der_length
     have f1 : w64 (((129 : UInt8).toNat : Int)) = 129:= w64_id (x:= 129) (by decide) (by decide)
     have f2 : w64 ((129 : Int) - 128) = 1:= rfl
     have f3 : w64 ((1 : Int) + 1) = 2:= rfl
     have f4 : decide (((129 :: c :: r).length : Int) ≤ 1) = false:= by simp only [decide_eq_false_iff_not,List.length_cons]; omega
     have f5 : cut (129 :: c :: r) 1 2 = some [c]:= cut_mid 129 [c] r
     have f6 : or64 (shl64 0 8) (w64 (c.toNat : Int)) = (c.toNat : Int):= by
      rw [w64_id (x:= (c.toNat : Int)) (by omega) (by omega),or_shl8 0 _ (by omega) (by omega),Int.zero_mul,Int.zero_add,w64_id (by omega) (by omega)]
     have f7 : each0 m_der_length_b1 [c] 0 0 = some (c.toNat : Int):= by
      show some (or64 (shl64 0 8) (w64 (c.toNat : Int))) = _
      rw [f6]
     have f8 : decide ((c.toNat : Int) < 128) = true:= by simp only [decide_eq_true_eq]; omega
     rw [e0,idx0,if_neg (by decide),oZ0,f1,if_neg (by decide),bnd_eq',f2,bnd_eq',if_neg (by decide),bnd_eq',f4,if_neg (by decide),f3,f5,oZ0,f7,oZ0,oZ0,f8,if_pos (by simp)]
  by_cases h3 : b.toNat = 130
  ·have hbe : b = 130:= UInt8.toNat_inj.1 h3
   subst hbe
   have f1 : w64 (((130 : UInt8).toNat : Int)) = 130:= w64_id (x:= 130) (by decide) (by decide)
   have f2 : w64 ((130 : Int) - 128) = 2:= rfl
   have f3 : w64 ((2 : Int) + 1) = 3:= rfl
   match r with
   | [] =>
    refine ⟨0,0,70,?_,fun h=> by omega⟩
    unfold m_der_length
    have f4 : decide ((([130] : List UInt8).length : Int) ≤ 2) = true:= by simp
    rw [e0,idx0,if_neg (by decide),oZ0,f1,if_neg (by decide),bnd_eq',f2,bnd_eq',if_neg (by decide),bnd_eq',f4,if_pos rfl]
   | [c] =>
    refine ⟨0,0,70,?_,fun h=> by omega⟩
    unfold m_der_length
    have f4 : decide (((130 :: [c] : List UInt8).length : Int) ≤ 2) = true:= by simp
    rw [e0,idx0,if_neg (by decide),oZ0,f1,if_neg (by decide),bnd_eq',f2,bnd_eq',if_neg (by decide),bnd_eq',f4,if_pos rfl]
   | c :: d :: r =>
    have hc:= c.toNat_lt
    have hd:= d.toNat_lt
    by_cases h4 : 1 ≤ c.toNat
    ·refine ⟨(c.toNat : Int) * 256 + (d.toNat : Int),3,0,fst3 c d r h4,fun _=> ⟨c.toNat * 256 + d.toNat,r,by omega,?_,by omega,?_⟩⟩
     ·unfold lenB
      rw [if_neg (by omega),if_neg (by omega),shr64_8]
      have q1 : (((c.toNat * 256 + d.toNat : Nat) : Int) / 256) = (c.toNat : Int):= by omega
      have q2 : toB ((c.toNat * 256 + d.toNat : Nat) : Int) = d:= by
       apply UInt8.toNat_inj.1
       have:= toB_nat ((c.toNat * 256 + d.toNat : Nat) : Int)
       omega
      rw [q1,toB_back,q2]
      rfl
     ·unfold lenB
      rw [if_neg (by omega),if_neg (by omega)]
      rfl
    ·refine ⟨0,0,71,?_,fun h=> by omega⟩
     unfold m_der_length
     have f4 : decide (((130 :: c :: d :: r).length : Int) ≤ 2) = false:= by simp only [decide_eq_false_iff_not,List.length_cons]; omega
     have f5 : cut (130 :: c :: d :: r) 1 3 = some [c,d]:= cut_mid 130 [c,d] r
     have f6 : or64 (shl64 0 8) (w64 (c.toNat : Int)) = (c.toNat : Int):= by
      rw [w64_id (x:= (c.toNat : Int)) (by omega) (by omega),or_shl8 0 _ (by omega) (by omega),Int.zero_mul,Int.zero_add,w64_id (by omega) (by omega)]
     have f6' : or64 (shl64 (c.toNat : Int) 8) (w64 (d.toNat : Int)) = (c.toNat : Int) * 256 + (d.toNat : Int):= by
      rw [w64_id (x:= (d.toNat : Int)) (by omega) (by omega),or_shl8 _ _ (by omega) (by omega),w64_id (by omega) (by omega)]
     have f7 : each0 m_der_length_b1 [c,d] 0 0 = some ((c.toNat : Int) * 256 + (d.toNat : Int)):= by
      show some (or64 (shl64 (or64 (shl64 0 8) (w64 (c.toNat : Int))) 8) (w64 (d.toNat : Int))) = _
      rw [f6,f6']
     have f9 : decide ((c.toNat : Int) * 256 + (d.toNat : Int) < 256) = true:= by simp only [decide_eq_true_eq]; omega
     rw [e0,idx0,if_neg (by decide),oZ0,f1,if_neg (by decide),bnd_eq',f2,bnd_eq',if_neg (by decide),bnd_eq',f4,if_neg (by decide),f3,f5,oZ0,f7,oZ0,oZ0,f9,if_pos (by simp)]
  ·refine ⟨0,0,71,?_,fun h=> by omega⟩
   unfold m_der_length
   have f1 : decide ((b.toNat : Int) < 128) = false:= by simp only [decide_eq_false_iff_not]; omega
   have f2 : (((b.toNat : Int) != 129) && ((b.toNat : Int) != 130)) = true:= by
    rw [Bool.and_eq_true,bne_iff_ne,bne_iff_ne]; omega
   rw [e0,idx0,if_neg (by decide),oZ0,e1,f1,if_neg (by decide),bnd_eq',bnd_eq',f2,if_pos rfl]
def GotI (D : Nat) (b : List UInt8) (q : g_api_Item × List UInt8 × Int) : Prop:= q.2.2 = 0 → mayB D q.1 = true ∧ b = putB D q.1 ++ q.2.1
theorem got_loop (rF : List UInt8 → Int → Option (g_api_Item × List UInt8 × Int)) (D : Nat) (hD : D ≤ 100) (r0 : List UInt8) (hF : ∀ b : List UInt8,b.length ≤ 1000000 → ∃ q,rF b (D : Int) = some q ∧ GotI D b q) :
  ∀ (m : Nat) (inb : List UInt8) (acc : List g_api_Item) (n : Nat),inb.length ≤ m → m < n → m ≤ 1000000 → acc.length + m ≤ 1000000 →
   ∃ t,iter (m_der_get_b3 rF ((D + 1 : Nat) : Int)) n (r0,inb,acc) = some t ∧ (t = .inr ((⟨0,[],[]⟩ : g_api_Item),([] : List UInt8),71) ∨ ∃ l,t = .inl (r0,acc ++ l) ∧ (∀ y ∈ l,mayB D y = true) ∧ l.flatMap (putB D) = inb)
 | m,inb,acc,0,_,h,_,_=> by omega
 | m,[],acc,n + 1,_,_,_,_=> by
  refine ⟨.inl (r0,acc),?_,.inr ⟨[],by simp,fun y hy=> (by cases hy),rfl⟩⟩
  have e : m_der_get_b3 rF ((D + 1 : Nat) : Int) (r0,[],acc) = some (.inr (.inl (r0,acc))):= rfl
  show obind (m_der_get_b3 rF ((D + 1 : Nat) : Int) (r0,[],acc)) _ = _
  rw [e]; rfl
 | m,c :: inb,acc,n + 1,hm,hn,h1,h2=> by
  have hw : w64 (((D + 1 : Nat) : Int) - 1) = (D : Int):= by rw [w64_id (by omega) (by omega)]; omega
  obtain ⟨⟨y,r,e⟩,hq,hg⟩:= hF (c :: inb) (by omega)
  have e0 : decide (((c :: inb).length : Int) > 0) = true:= by rw [decide_eq_true_eq,List.length_cons]; omega
  by_cases he : e = 0
  ·subst he
   obtain ⟨g1,g2⟩:= hg rfl
   have g1 : mayB D y = true:= g1
   have g2 : c :: inb = putB D y ++ r:= g2
   have hp:= put_pos g1
   have hlen : (c :: inb).length = (putB D y).length + r.length:= by rw [g2,List.length_append]
   rw [List.length_cons] at hm hlen
   obtain ⟨t,ht,hc⟩:= got_loop rF D hD r0 hF (m - 1) r (acc ++ [y]) n (by omega) (by omega) (by omega) (by rw [List.length_append]; show acc.length + 1 + _ ≤ _; omega)
   refine ⟨t,?_,?_⟩
   ·have es : m_der_get_b3 rF ((D + 1 : Nat) : Int) (r0,c :: inb,acc) = some (.inl (r0,r,acc ++ [y])):= by
     unfold m_der_get_b3
     show (if decide (((c :: inb).length : Int) > 0) = true then _ else _) = _
     rw [e0,if_pos rfl,hw]
     show obind (rF (c :: inb) (D : Int)) _ = _
     rw [hq,oZ0,if_neg (by simp)]
     show obind (app 56 acc [y]) _ = _
     rw [app_ok 56 (by show (acc.length + 1) * 56 ≤ _; omega) (by show acc.length + 1 ≤ _; omega)]
     rfl
    show obind (m_der_get_b3 rF ((D + 1 : Nat) : Int) (r0,c :: inb,acc)) _ = _
    rw [es]
    exact ht
   ·rcases hc with hc | ⟨l,c1,c2,c3⟩
    ·exact .inl hc
    ·refine .inr ⟨y :: l,?_,?_,?_⟩
     ·rw [c1,List.append_assoc]; rfl
     ·intro z hz
      rcases List.mem_cons.1 hz with q | q
      ·rw [q]; exact g1
      ·exact c2 z q
     ·rw [List.flatMap_cons,c3,g2]
  ·refine ⟨.inr ((⟨0,[],[]⟩ : g_api_Item),([] : List UInt8),71),?_,.inl rfl⟩
   have es : m_der_get_b3 rF ((D + 1 : Nat) : Int) (r0,c :: inb,acc) = some (.inr (.inr ((⟨0,[],[]⟩ : g_api_Item),([] : List UInt8),71))):= by
    unfold m_der_get_b3
    show (if decide (((c :: inb).length : Int) > 0) = true then _ else _) = _
    rw [e0,if_pos rfl,hw]
    show obind (rF (c :: inb) (D : Int)) _ = _
    rw [hq,oZ0,if_pos (by simpa using he)]
   show obind (m_der_get_b3 rF ((D + 1 : Nat) : Int) (r0,c :: inb,acc)) _ = _
   rw [es]; rfl
theorem cut_all {α : Type} (l : List α) (k : Nat) (h : k ≤ l.length) : cut l 0 (k : Int) = some (l.take k) ∧ cut l (k : Int) (l.length : Int) = some (l.drop k):= by
 have e:= List.take_append_drop k l
 have h1:= cut_fst (l.take k) (l.drop k)
 have h2:= cut_app (l.take k) (l.drop k)
 rw [e] at h1 h2
 rw [show (l.take k).length = k from by rw [List.length_take]; omega] at h1 h2
 exact ⟨h1,h2⟩
theorem got_eq (D : Nat) : ∀ (n : Nat) (b : List UInt8),D ≤ 100 → D < n → b.length ≤ 1000000 → ∃ q,r_der_get n b (D : Int) = some q ∧ GotI D b q:= by
 induction D with
 | zero =>
  intro n b _ hn hb
  obtain ⟨n,rfl⟩ : ∃ k,n = k + 1:= ⟨n - 1,by omega⟩
  show ∃ q,m_der_get_r (r_der_get n) b 0 = some q ∧ _
  unfold m_der_get_r
  cases b with
  | nil=> exact ⟨_,rfl,fun h=> by cases h⟩
  | cons c b =>
   have e0 : (((c :: b).length : Int) == 0) = false:= by simp only [beq_eq_false_iff_ne,List.length_cons]; omega
   rw [e0,if_neg (by decide),idx0,oZ0]
   cases hk : knownB (w64 (c.toNat : Int)) with
   | false =>
    rw [(find_unknown hk).1,oZ0,if_pos (by simp)]
    exact ⟨_,rfl,fun h=> by cases h⟩
   | true =>
    obtain ⟨k,e,_,_⟩:= find_known hk
    rw [e,oZ0,if_pos (by simp)]
    exact ⟨_,rfl,fun h=> by cases h⟩
 | succ D IH =>
  intro n b hD hn hb
  obtain ⟨n,rfl⟩ : ∃ k,n = k + 1:= ⟨n - 1,by omega⟩
  have hF : ∀ b : List UInt8,b.length ≤ 1000000 → ∃ q,r_der_get n b (D : Int) = some q ∧ GotI D b q:= fun b h=> IH n b (by omega) (by omega) h
  show ∃ q,m_der_get_r (r_der_get n) b ((D + 1 : Nat) : Int) = some q ∧ _
  unfold m_der_get_r
  cases b with
  | nil=> exact ⟨_,rfl,fun h=> by cases h⟩
  | cons c b =>
   have e0 : (((c :: b).length : Int) == 0) = false:= by simp only [beq_eq_false_iff_ne,List.length_cons]; omega
   have hc:= c.toNat_lt
   have ew : w64 (c.toNat : Int) = (c.toNat : Int):= w64_id (by omega) (by omega)
   have eD : decide (((D + 1 : Nat) : Int) < 1) = false:= by rw [decide_eq_false_iff_not]; omega
   rw [e0,if_neg (by decide),idx0,oZ0,ew,eD]
   cases hk : knownB (c.toNat : Int) with
   | false =>
    rw [(find_unknown hk).1,oZ0,if_pos (by simp)]
    exact ⟨_,rfl,fun h=> by cases h⟩
   | true =>
    obtain ⟨k,e,ht,hm⟩:= find_known hk
    rw [e,oZ0,if_neg (by simp),cut_tl,oZ0]
    rw [List.length_cons] at hb
    obtain ⟨ln,long,le,hl,hl0⟩:= len_some b (by omega)
    rw [hl,oZ0]
    by_cases hle : le = 0
    rotate_left
    ·rw [if_pos (by simpa using hle)]
     exact ⟨_,rfl,fun h=> absurd h hle⟩
    subst hle
    rw [if_neg (by simp)]
    obtain ⟨z,r,hz,hb2,rfl,rfl⟩:= hl0 rfl
    have hll:= lenB_len z
    have hbl : b.length = (lenB z).length + r.length:= by rw [hb2,List.length_append]
    have e4 : w64 (w64 (1 + ((lenB z).length : Int)) + (z : Int)) = 1 + ((lenB z).length : Int) + (z : Int):= by
     rw [w64_id (x:= 1 + ((lenB z).length : Int)) (by omega) (by omega),w64_id (by omega) (by omega)]
    show ∃ q,(if decide (w64 (w64 (1 + ((lenB z).length : Int)) + (z : Int)) > 8192) = true then _ else _) = some q ∧ _
    rw [e4]
    by_cases h8 : 1 + ((lenB z).length : Int) + (z : Int) > 8192
    ·rw [decide_eq_true h8,if_pos rfl]
     exact ⟨_,rfl,fun h=> by cases h⟩
    rw [decide_eq_false h8,if_neg (by decide)]
    have e6 : cut (c :: b) (w64 (1 + ((lenB z).length : Int))) ((c :: b).length : Int) = some r:= by
     have:= cut_app (c :: lenB z) r
     rw [w64_id (x:= 1 + ((lenB z).length : Int)) (by omega) (by omega)]
     rw [show ((c :: lenB z).length : Int) = 1 + ((lenB z).length : Int) from by rw [List.length_cons]; omega] at this
     rw [hb2]
     exact this
    show ∃ q,obind (cut (c :: b) (w64 (1 + ((lenB z).length : Int))) ((c :: b).length : Int)) _ = some q ∧ _
    rw [e6,oZ0]
    by_cases hzr : z ≤ r.length
    rotate_left
    ·rw [if_pos (by rw [decide_eq_true_eq]; show (z : Int) > _; omega)]
     exact ⟨_,rfl,fun h=> by cases h⟩
    rw [if_neg (by rw [decide_eq_true_eq]; show ¬ (z : Int) > _; omega)]
    obtain ⟨k1,k2⟩:= cut_all r z hzr
    show ∃ q,obind (cut r 0 (z : Int)) _ = some q ∧ _
    rw [k1,oZ0]
    show ∃ q,obind (cut r (z : Int) (r.length : Int)) _ = some q ∧ _
    rw [k2,oZ0]
    have htl : (r.take z).length = z:= by rw [List.length_take]; omega
    have hback : toB k.tag_ = c:= by rw [ht]; exact toB_back c
    show ∃ q,(if (k.tag_ != 48) = true then _ else _) = some q ∧ _
    by_cases h48 : k.tag_ = 48
    ·rw [if_neg (by simp [h48])]
     obtain ⟨t,ht1,ht2⟩:= got_loop (r_der_get n) D (by omega) (r.drop z) hF z (r.take z) [] FUEL (by omega) (by have:= FUEL_big; omega) (by omega) (by simp only [List.length_nil]; omega)
     rw [ht1,oZ0]
     rcases ht2 with q | ⟨l,q1,q2,q3⟩
     ·subst q
      exact ⟨_,rfl,fun h=> by cases h⟩
     ·subst q1
      refine ⟨_,rfl,fun _=> ⟨?_,?_⟩⟩
      ·show mayB (D + 1) ⟨k.tag_,[],[] ++ l⟩ = true
       rw [h48]
       unfold mayB
       simp only [Bool.and_eq_true,List.all_eq_true]
       exact ⟨⟨rfl,rfl⟩,q2⟩
      ·show c :: b = (toB k.tag_ :: (lenB ([] ++ ([] ++ l).flatMap (putB D)).length ++ ([] ++ ([] ++ l).flatMap (putB D)))) ++ r.drop z
       rw [List.nil_append,List.nil_append,q3,htl,hback,hb2,List.cons_append,List.append_assoc,List.take_append_drop]
    ·rw [if_pos (by simpa using h48),hm,oZ0]
     cases hkb : kindB (c.toNat : Int) (r.take z) with
     | false =>
      rw [if_pos (by simp)]
      exact ⟨_,rfl,fun h=> by cases h⟩
     | true =>
      rw [if_neg (by simp),clone_eq (by omega),oZ0]
      refine ⟨_,rfl,fun _=> ⟨?_,?_⟩⟩
      ·show mayB (D + 1) ⟨k.tag_,r.take z,[]⟩ = true
       unfold mayB
       simp only [Bool.and_eq_true,List.all_eq_true]
       refine ⟨⟨?_,by simp⟩,fun y hy=> (by cases hy)⟩
       show kindB k.tag_ (r.take z) = true
       rw [ht]; exact hkb
      ·show c :: b = (toB k.tag_ :: (lenB (r.take z ++ ([] : List g_api_Item).flatMap (putB D)).length ++ (r.take z ++ ([] : List g_api_Item).flatMap (putB D)))) ++ r.drop z
       rw [List.flatMap_nil,List.append_nil,htl,hback,hb2,List.cons_append,List.append_assoc,List.take_append_drop]
end Go.Proofs.YtlnbckkkapbdmaaGreatDoor
end
section
namespace Go.Proofs.YtlnbckkkapbdmaaGreatDoor
open Go Go.Gw Go.Ax
def s8 (a : UInt8) : Int:= if a.toNat < 128 then (a.toNat : Int) else (a.toNat : Int) - 256
def vfold (s : Int) (l : List UInt8) : Int:= l.foldl (fun s b=> s * 256 + (b.toNat : Int)) s
def wfold (s : Int) (l : List UInt8) : Int:= l.foldl (fun s b=> w64 (s * 256 + (b.toNat : Int))) s
def sval : List UInt8 → Int
 | []=> 0
 | a :: l=> vfold (s8 a) l
def asintV : List UInt8 → Int
 | []=> 0
 | a :: l=> wfold (s8 a) l
theorem w64_step (x b : Int) : w64 (w64 x * 256 + b) = w64 (x * 256 + b):= by unfold w64; omega
theorem wfold_eq : ∀ (l : List UInt8) (s x : Int),s = w64 x → wfold s l = w64 (vfold x l)
 | [],s,x,h=> h
 | b :: l,s,x,h=> by
  show wfold (w64 (s * 256 + (b.toNat : Int))) l = w64 (vfold (x * 256 + (b.toNat : Int)) l)
  exact wfold_eq l _ _ (by rw [h,w64_step])
theorem s8_rng (a : UInt8) : -128 ≤ s8 a ∧ s8 a < 128:= by
 have:= a.toNat_lt
 unfold s8
 split <;> omega
theorem asint_sval (l : List UInt8) (h : l ≠ []) : asintV l = w64 (sval l):= by
 cases l with
 | nil=> exact absurd rfl h
 | cons a l =>
  have:= s8_rng a
  exact wfold_eq l (s8 a) (s8 a) (w64_id (by omega) (by omega)).symm
theorem w8_s8 (a : UInt8) : w64 (w8 (a.toNat : Int)) = s8 a:= by
 have h:= a.toNat_lt
 have e : w8 (a.toNat : Int) = s8 a:= by
  show (if (true && decide ((a.toNat : Int) % 256 ≥ 128)) = true then (a.toNat : Int) % 256 - 256 else (a.toNat : Int) % 256) = s8 a
  unfold s8
  simp only [Bool.true_and,decide_eq_true_eq]
  split
  ·rw [if_neg (by omega)]; omega
  ·rw [if_pos (by omega)]; omega
 have:= s8_rng a
 rw [e,w64_id (by omega) (by omega)]
theorem asint_go : ∀ (l : List UInt8) (i s : Int),each0 m_der_AsInt_1_b2 l i s = some (wfold s l)
 | [],i,s=> rfl
 | b :: l,i,s=> by
  have h:= b.toNat_lt
  have e : m_der_AsInt_1_b2 i b s = some (w64 (s * 256 + (b.toNat : Int))):= by
   unfold m_der_AsInt_1_b2
   rw [bnd_eq',w64_id (x:= (b.toNat : Int)) (by omega) (by omega),or_shl8 s _ (by omega) (by omega)]
  show obind (m_der_AsInt_1_b2 i b s) _ = _
  rw [e,oZ0]
  exact asint_go l (i + 1) _
theorem asint1_eq {x : g_api_Item} (h : x.B ≠ []) : m_der_AsInt_1 x = some (asintV x.B):= by
 unfold m_der_AsInt_1
 cases hb : x.B with
 | nil=> exact absurd hb h
 | cons a l =>
  rw [idx0,oZ0,cut_tl,oZ0,w8_s8,asint_go,oZ0,oZ0]
  rfl
theorem sign_byte (b : UInt8) : ((toB (-((shrB b 7).toNat : Int))).toNat : Int) = if b.toNat < 128 then 0 else 255:= by
 have h:= b.toNat_lt
 rw [toB_nat]
 have e : (shrB b 7).toNat = b.toNat / 128:= by
  unfold shrB
  rw [UInt8.toNat_ofNat']
  show b.toNat / 128 % 256 = _
  omega
 rw [e]
 split <;> omega
theorem least_not {a b : UInt8} {l : List UInt8} (hl : l.length ≤ 6) : leastB (a :: b :: l) = false ↔ (a.toNat : Int) = if b.toNat < 128 then 0 else 255:= by
 show (decide (((a :: b :: l).length : Int) ≤ 8) && ((a.toNat : Int) != ((toB (-((shrB b 7).toNat : Int))).toNat : Int))) = false ↔ _
 rw [sign_byte,decide_eq_true (by simp only [List.length_cons]; omega),Bool.true_and]
 simp only [bne_eq_false_iff_eq]
theorem sval_step {a b : UInt8} {l : List UInt8} (h : (a.toNat : Int) = if b.toNat < 128 then 0 else 255) : sval (a :: b :: l) = sval (b :: l):= by
 show vfold (s8 a * 256 + (b.toNat : Int)) l = vfold (s8 b) l
 have hb:= b.toNat_lt
 congr 1
 unfold s8
 by_cases h1 : b.toNat < 128
 ·rw [if_pos h1] at h ⊢
  rw [if_pos (by omega)]
  omega
 ·rw [if_neg h1] at h ⊢
  rw [if_neg (by omega)]
  omega
theorem shr_k (n : Int) (k : Nat) (hk : k ≤ 64) (hp : (0 : Int) ≤ 2 ^ k) : ((toB (shr64 n k)).toNat : Int) = n / 2 ^ k % 256:= by
 rw [toB_nat]
 unfold shr64
 rw [Nat.min_eq_left hk,Int.fdiv_eq_ediv_of_nonneg _ hp]
end Go.Proofs.YtlnbckkkapbdmaaGreatDoor
end
section
namespace Go.Proofs.YtlnbckkkapbdmaaGreatDoor
open Go Go.Gw Go.Ax
def fewI : Nat → g_api_Item → Prop
 | 0,_=> True
 | d + 1,x=> x.L.length ≤ 100000 ∧ ∀ y ∈ x.L,fewI d y
theorem clone_items {l : List g_api_Item} (h : l.length ≤ 100000) : m_slices_Clone_api_Item_api_Item l = some l:= by
 unfold m_slices_Clone_api_Item_api_Item
 rw [app_nil 56 (by omega) (by omega)]; rfl
theorem may_kind {d : Nat} {x : g_api_Item} (h : mayB d x = true) : kindB x.Tag x.B = true:= by
 cases d with
 | zero=> cases h
 | succ d =>
  simp only [mayB,Bool.and_eq_true] at h
  exact h.1.1
theorem asInt_eq (x : g_api_Item) : m_der_AsInt x = some (if x.Tag = 2 then (if mayB 8 x = true then (asintV x.B,0) else (0,71)) else (0,72)):= by
 unfold m_der_AsInt m_der_as_int_175x
 by_cases ht : x.Tag = 2
 ·have e : (x.Tag != 2) = false:= by simp [ht]
  rw [if_pos ht,e,if_neg (by decide),may8_eq,oZ0]
  cases hm : mayB 8 x with
  | false=> rfl
  | true =>
   have hk:= may_kind hm
   rw [ht] at hk
   have hB : x.B ≠ []:= by
    intro hb
    rw [hb] at hk
    cases hk
   rw [if_neg (by decide),asint1_eq hB]
   rfl
 ·have e : (x.Tag != 2) = true:= by simp [ht]
  rw [if_neg ht,e,if_pos rfl]
  rfl
theorem asText_eq (x : g_api_Item) : m_der_AsText x = some (if x.Tag = 12 then (if mayB 8 x = true then (bs x.B,0) else ((⟨#[]⟩ : ByteArray),71)) else ((⟨#[]⟩ : ByteArray),72)):= by
 unfold m_der_AsText m_der_as_string_145x
 by_cases ht : x.Tag = 12
 ·have e : (x.Tag != 12) = false:= by simp [ht]
  rw [if_pos ht,e,if_neg (by decide),may8_eq,oZ0]
  cases hm : mayB 8 x with
  | false=> rfl
  | true=> rfl
 ·have e : (x.Tag != 12) = true:= by simp [ht]
  rw [if_neg ht,e,if_pos rfl]
  rfl
def truthV : List UInt8 → Bool
 | []=> false
 | a :: _=> (a.toNat : Int) != 0
theorem asBool_eq (x : g_api_Item) : m_der_AsBool x = some (if x.Tag = 1 then (if mayB 8 x = true then (truthV x.B,0) else (false,71)) else (false,72)):= by
 unfold m_der_AsBool m_der_as_bool_147x
 by_cases ht : x.Tag = 1
 ·have e : (x.Tag != 1) = false:= by simp [ht]
  rw [if_pos ht,e,if_neg (by decide),may8_eq,oZ0]
  cases hm : mayB 8 x with
  | false=> rfl
  | true =>
   have hk:= may_kind hm
   rw [ht] at hk
   unfold m_der_AsBool_1
   cases hb : x.B with
   | nil=> rw [hb] at hk; cases hk
   | cons a l =>
    rw [if_neg (by decide),idx0]
    rfl
 ·have e : (x.Tag != 1) = true:= by simp [ht]
  rw [if_neg ht,e,if_pos rfl]
  rfl
theorem asSeq_eq {x : g_api_Item} (hx : x.L.length ≤ 100000) : m_der_AsSeq x = some (if x.Tag = 48 then (if mayB 8 x = true then (x.L,0) else ([],71)) else ([],72)):= by
 unfold m_der_AsSeq m_der_as_api_Item_168x
 by_cases ht : x.Tag = 48
 ·have e : (x.Tag != 48) = false:= by simp [ht]
  rw [if_pos ht,e,if_neg (by decide),may8_eq,oZ0]
  cases hm : mayB 8 x with
  | false=> rfl
  | true =>
   unfold m_der_AsSeq_1
   rw [if_neg (by decide),clone_items hx]
   rfl
 ·have e : (x.Tag != 48) = true:= by simp [ht]
  rw [if_neg ht,e,if_pos rfl]
  rfl
abbrev Its:= List g_api_Item
def rd {α : Type} (p : Option (α × Its)) : Option (Option (α × g_cert_reader)):= some (p.map fun q=> (q.1,⟨q.2⟩))
def next1 {α : Type} (tag : Int) (v : g_api_Item → α) : Its → Option (α × Its)
 | []=> none
 | x :: r=> if x.Tag = tag ∧ mayB 8 x = true then some (v x,r) else none
theorem next1_cons {α : Type} (tag : Int) (v : g_api_Item → α) (x : g_api_Item) (r : Its) : next1 tag v (x :: r) = if x.Tag = tag ∧ mayB 8 x = true then some (v x,r) else none:= rfl
theorem len_pos (x : g_api_Item) (r : Its) : decide (((x :: r).length : Int) > 0) = true:= by rw [decide_eq_true_eq,List.length_cons]; omega
theorem must_t : m_cert_must true = some (some ()):= rfl
theorem must_f : m_cert_must false = some none:= rfl
theorem int1_eq (l : Its) : m_cert_next_int_143x ⟨l⟩ = rd (next1 2 (fun x=> asintV x.B) l):= by
 unfold m_cert_next_int_143x
 cases l with
 | nil=> rfl
 | cons x r =>
  show obind (m_cert_must (decide (((x :: r).length : Int) > 0))) _ = _
  rw [len_pos,must_t,oZ0]
  show obind (idx (x :: r) 0) _ = _
  rw [idx0,oZ0,asInt_eq,oZ0]
  rw [next1_cons]
  by_cases ht : x.Tag = 2
  ·rw [if_pos ht]
   cases hm : mayB 8 x with
   | false =>
    rw [if_neg (by decide),if_neg (by simp)]
    rfl
   | true =>
    rw [if_pos rfl,if_pos ⟨ht,rfl⟩]
    show obind (cut (x :: r) 1 ((x :: r).length : Int)) _ = _
    rw [cut_tl]
    rfl
  ·rw [if_neg ht,if_neg (by simp [ht])]
   rfl
theorem str1_eq (l : Its) : m_cert_next_string_104x ⟨l⟩ = rd (next1 12 (fun x=> bs x.B) l):= by
 unfold m_cert_next_string_104x
 cases l with
 | nil=> rfl
 | cons x r =>
  show obind (m_cert_must (decide (((x :: r).length : Int) > 0))) _ = _
  rw [len_pos,must_t,oZ0]
  show obind (idx (x :: r) 0) _ = _
  rw [idx0,oZ0,asText_eq,oZ0]
  rw [next1_cons]
  by_cases ht : x.Tag = 12
  ·rw [if_pos ht]
   cases hm : mayB 8 x with
   | false =>
    rw [if_neg (by decide),if_neg (by simp)]
    rfl
   | true =>
    rw [if_pos rfl,if_pos ⟨ht,rfl⟩]
    show obind (cut (x :: r) 1 ((x :: r).length : Int)) _ = _
    rw [cut_tl]
    rfl
  ·rw [if_neg ht,if_neg (by simp [ht])]
   rfl
theorem bool1_eq (l : Its) : m_cert_next_bool_107x ⟨l⟩ = rd (next1 1 (fun x=> truthV x.B) l):= by
 unfold m_cert_next_bool_107x
 cases l with
 | nil=> rfl
 | cons x r =>
  show obind (m_cert_must (decide (((x :: r).length : Int) > 0))) _ = _
  rw [len_pos,must_t,oZ0]
  show obind (idx (x :: r) 0) _ = _
  rw [idx0,oZ0,asBool_eq,oZ0]
  rw [next1_cons]
  by_cases ht : x.Tag = 1
  ·rw [if_pos ht]
   cases hm : mayB 8 x with
   | false =>
    rw [if_neg (by decide),if_neg (by simp)]
    rfl
   | true =>
    rw [if_pos rfl,if_pos ⟨ht,rfl⟩]
    show obind (cut (x :: r) 1 ((x :: r).length : Int)) _ = _
    rw [cut_tl]
    rfl
  ·rw [if_neg ht,if_neg (by simp [ht])]
   rfl
theorem seq1_eq {l : Its} (hl : ∀ x ∈ l,x.L.length ≤ 100000) : m_cert_next_api_Item_132x ⟨l⟩ = rd (next1 48 (fun x=> x.L) l):= by
 unfold m_cert_next_api_Item_132x
 cases l with
 | nil=> rfl
 | cons x r =>
  show obind (m_cert_must (decide (((x :: r).length : Int) > 0))) _ = _
  rw [len_pos,must_t,oZ0]
  show obind (idx (x :: r) 0) _ = _
  rw [idx0,oZ0,asSeq_eq (hl x List.mem_cons_self),oZ0]
  rw [next1_cons]
  by_cases ht : x.Tag = 48
  ·rw [if_pos ht]
   cases hm : mayB 8 x with
   | false =>
    rw [if_neg (by decide),if_neg (by simp)]
    rfl
   | true =>
    rw [if_pos rfl,if_pos ⟨ht,rfl⟩]
    show obind (cut (x :: r) 1 ((x :: r).length : Int)) _ = _
    rw [cut_tl]
    rfl
  ·rw [if_neg ht,if_neg (by simp [ht])]
   rfl
def count1 (l : Its) : Option (Int × Its):= (next1 2 (fun x=> asintV x.B) l).bind fun p=> if 0 ≤ p.1 then some p else none
theorem count_eq (l : Its) : m_cert_reader_count ⟨l⟩ = rd (count1 l):= by
 unfold m_cert_reader_count
 rw [int1_eq]
 unfold count1 rd
 cases next1 2 (fun x=> asintV x.B) l with
 | none=> rfl
 | some p =>
  obtain ⟨n,r⟩:= p
  simp only [Option.map_some,oZ0,Option.bind_some]
  by_cases h : 0 ≤ n
  ·rw [decide_eq_true h,must_t,if_pos h]
   rfl
  ·rw [decide_eq_false h,must_f,if_neg h]
   rfl
def big1 (l : Its) : Option (UInt64 × Its):= (count1 l).map fun p=> (toU p.1,p.2)
theorem bigR_eq (l : Its) : m_cert_reader_big ⟨l⟩ = rd (big1 l):= by
 unfold m_cert_reader_big
 rw [count_eq]
 unfold big1 rd
 cases count1 l <;> rfl
def sub1 (l : Its) : Option (Its × Its):= next1 48 (fun x=> x.L) l
theorem sub_eq {l : Its} (hl : ∀ x ∈ l,x.L.length ≤ 100000) : m_cert_reader_sub ⟨l⟩ = some ((sub1 l).map fun p=> (⟨p.1⟩,⟨p.2⟩)):= by
 unfold m_cert_reader_sub
 rw [seq1_eq hl]
 unfold sub1 rd
 cases next1 48 (fun x=> x.L) l <;> rfl
theorem end_eq (l : Its) : m_cert_reader_end ⟨l⟩ = some (if l = [] then some ⟨[]⟩ else none):= by
 unfold m_cert_reader_end
 cases l with
 | nil=> rfl
 | cons x r =>
  have e : (((x :: r).length : Int) == 0) = false:= by simp only [beq_eq_false_iff_ne,List.length_cons]; omega
  show obind (m_cert_must (((x :: r).length : Int) == 0)) _ = _
  rw [e,must_f,if_neg (by simp)]
  rfl
def allT : Its → Option (List ByteArray)
 | []=> some []
 | x :: r=> if x.Tag = 12 ∧ mayB 8 x = true then (allT r).map fun t=> bs x.B :: t else none
theorem texts_loop : ∀ (l : Its) (a : List ByteArray) (n : Nat),l.length < n → a.length + l.length ≤ 1000000 →
  iter m_cert_reader_texts_b2 n (a,l) = some (match allT l with | some t=> .inl (a ++ t,[]) | none=> .inr none)
 | l,a,0,h,_=> by omega
 | [],a,n + 1,_,_=> by
  have e : m_cert_reader_texts_b2 (a,[]) = some (.inr (.inl (a,[]))):= rfl
  show obind (m_cert_reader_texts_b2 (a,[])) _ = _
  rw [e]
  simp [allT]
 | x :: l,a,n + 1,h,ha=> by
  rw [List.length_cons] at h ha
  have e : m_cert_reader_texts_b2 (a,x :: l) = some (if x.Tag = 12 ∧ mayB 8 x = true then .inl (a ++ [bs x.B],l) else .inr (.inr none)):= by
   unfold m_cert_reader_texts_b2
   show (if decide (((x :: l).length : Int) > 0) = true then _ else _) = _
   rw [len_pos,if_pos rfl]
   show obind (m_cert_next_string_104x ⟨x :: l⟩) _ = _
   rw [str1_eq]
   unfold rd
   rw [next1_cons]
   by_cases hx : x.Tag = 12 ∧ mayB 8 x = true
   ·rw [if_pos hx,if_pos hx]
    show obind (app 16 a [bs x.B]) _ = _
    rw [app_ok 16 (by show (a.length + 1) * 16 ≤ _; omega) (by show a.length + 1 ≤ _; omega)]
    rfl
   ·rw [if_neg hx,if_neg hx]
    rfl
  show obind (m_cert_reader_texts_b2 (a,x :: l)) _ = _
  rw [e]
  unfold allT
  by_cases hx : x.Tag = 12 ∧ mayB 8 x = true
  ·rw [if_pos hx,if_pos hx]
   show iter m_cert_reader_texts_b2 n (a ++ [bs x.B],l) = _
   rw [texts_loop l (a ++ [bs x.B]) n (by omega) (by rw [List.length_append]; show a.length + 1 + _ ≤ _; omega)]
   cases allT l with
   | none=> rfl
   | some t=> simp
  ·rw [if_neg hx,if_neg hx]
   rfl
def texts1 (l : Its) : Option (List ByteArray × Its):= (sub1 l).bind fun p=> (allT p.1).map fun t=> (t,p.2)
theorem textsR_eq {l : Its} (hl : ∀ x ∈ l,x.L.length ≤ 100000) : m_cert_reader_texts ⟨l⟩ = rd (texts1 l):= by
 unfold m_cert_reader_texts
 rw [sub_eq hl]
 unfold texts1 rd
 cases hs : sub1 l with
 | none=> rfl
 | some p =>
  have hp : p.1.length ≤ 100000:= by
   unfold sub1 next1 at hs
   cases l with
   | nil=> cases hs
   | cons x r =>
    simp only at hs
    split at hs
    ·have hs:= sI0 hs
     rw [← hs]
     exact hl x List.mem_cons_self
    ·cases hs
  show obind (iter m_cert_reader_texts_b2 FUEL ([],p.1)) _ = _
  rw [texts_loop p.1 [] FUEL (by have:= FUEL_big; omega) (by simp only [List.length_nil]; omega)]
  show _ = some (Option.map _ ((allT p.1).map fun t=> (t,p.2)))
  cases allT p.1 <;> rfl
end Go.Proofs.YtlnbckkkapbdmaaGreatDoor
end
section
namespace Go.Proofs.YtlnbckkkapbdmaaGreatDoor
open Go Go.Gw Go.Ax
theorem may_up : ∀ {d : Nat} {x : g_api_Item},mayB d x = true → mayB (d + 1) x = true
 | 0,x,h=> by cases h
 | d + 1,x,h=> by
  simp only [mayB,Bool.and_eq_true,List.all_eq_true] at h
  unfold mayB
  simp only [Bool.and_eq_true,List.all_eq_true]
  exact ⟨h.1,fun y hy=> may_up (h.2 y hy)⟩
theorem may_le {d e : Nat} {x : g_api_Item} (h : d ≤ e) (hm : mayB d x = true) : mayB e x = true:= by
 induction h with
 | refl=> exact hm
 | step _ ih=> exact may_up ih
theorem may_in {d : Nat} {x y : g_api_Item} (h : mayB (d + 1) x = true) (hy : y ∈ x.L) : mayB d y = true:= by
 simp only [mayB,Bool.and_eq_true,List.all_eq_true] at h
 exact h.2 y hy
def text1 : Its → Option (ByteArray × Its):= next1 12 (fun x=> bs x.B)
def bool1 : Its → Option (Bool × Its):= next1 1 (fun x=> truthV x.B)
def pre1 (l : Its) : Option (g_api_Cert × Its) :=
 (count1 l).bind fun x1=> (text1 x1.2).bind fun x2=> (text1 x2.2).bind fun x3=> (big1 x3.2).bind fun x4=> (texts1 x4.2).bind fun x5 =>
 (count1 x5.2).bind fun x6=> (count1 x6.2).bind fun x7=> (bool1 x7.2).bind fun x8=> (count1 x8.2).bind fun x9=> (texts1 x9.2).bind fun x10 =>
 if x10.2 = [] then some (⟨x1.1,x2.1,x3.1,x4.1,x5.1,x6.1,x7.1,x8.1,x9.1,x10.1,[],⟨0,0⟩⟩,[]) else none
def few1 (l : Its) : Prop:= ∀ x ∈ l,x.L.length ≤ 100000
theorem next1_few {α : Type} {tag : Int} {v : g_api_Item → α} {l r : Its} {a : α} (h : next1 tag v l = some (a,r)) (hl : few1 l) : few1 r:= by
 cases l with
 | nil=> cases h
 | cons x l =>
  rw [next1_cons] at h
  split at h
  ·cases h
   exact fun y hy=> hl y (List.mem_cons_of_mem _ hy)
  ·cases h
theorem count1_few {l r : Its} {a : Int} (h : count1 l = some (a,r)) (hl : few1 l) : few1 r:= by
 unfold count1 at h
 cases hn : next1 2 (fun x=> asintV x.B) l with
 | none=> rw [hn] at h; cases h
 | some p =>
  rw [hn,Option.bind_some] at h
  split at h
  ·cases h
   exact next1_few hn hl
  ·cases h
theorem big1_few {l r : Its} {a : UInt64} (h : big1 l = some (a,r)) (hl : few1 l) : few1 r:= by
 unfold big1 at h
 cases hn : count1 l with
 | none=> rw [hn] at h; cases h
 | some p =>
  rw [hn] at h
  cases h
  exact count1_few (a:= p.1) hn hl
theorem texts1_few {l r : Its} {a : List ByteArray} (h : texts1 l = some (a,r)) (hl : few1 l) : few1 r:= by
 unfold texts1 at h
 cases hn : sub1 l with
 | none=> rw [hn] at h; cases h
 | some p =>
  rw [hn,Option.bind_some] at h
  cases ht : allT p.1 with
  | none=> rw [ht] at h; cases h
  | some t =>
   rw [ht] at h
   cases h
   exact next1_few hn hl
theorem rd_some {α : Type} (a : α) (r : Its) : rd (some (a,r)) = some (some (a,⟨r⟩)):= rfl
theorem preR_eq {l : Its} (hl : few1 l) : m_cert_reader_pre ⟨l⟩ = rd (pre1 l):= by
 unfold m_cert_reader_pre pre1
 rw [count_eq]
 cases h1 : count1 l with
 | none=> rfl
 | some x1 =>
  obtain ⟨x1,l1⟩:= x1
  replace hl:= count1_few h1 hl
  simp only [rd_some,oZ0,Option.bind_some]
  rw [show m_cert_next_string_104x ⟨l1⟩ = rd (text1 l1) from str1_eq l1]
  cases h2 : text1 l1 with
  | none=> rfl
  | some x2 =>
   obtain ⟨x2,l2⟩:= x2
   replace hl:= next1_few h2 hl
   simp only [rd_some,oZ0,Option.bind_some]
   rw [show m_cert_next_string_104x ⟨l2⟩ = rd (text1 l2) from str1_eq l2]
   cases h3 : text1 l2 with
   | none=> rfl
   | some x3 =>
    obtain ⟨x3,l3⟩:= x3
    replace hl:= next1_few h3 hl
    simp only [rd_some,oZ0,Option.bind_some]
    rw [bigR_eq]
    cases h4 : big1 l3 with
    | none=> rfl
    | some x4 =>
     obtain ⟨x4,l4⟩:= x4
     replace hl:= big1_few h4 hl
     simp only [rd_some,oZ0,Option.bind_some]
     rw [textsR_eq hl]
     cases h5 : texts1 l4 with
     | none=> rfl
     | some x5 =>
      obtain ⟨x5,l5⟩:= x5
      replace hl:= texts1_few h5 hl
      simp only [rd_some,oZ0,Option.bind_some]
      rw [count_eq]
      cases h6 : count1 l5 with
      | none=> rfl
      | some x6 =>
       obtain ⟨x6,l6⟩:= x6
       replace hl:= count1_few h6 hl
       simp only [rd_some,oZ0,Option.bind_some]
       rw [count_eq]
       cases h7 : count1 l6 with
       | none=> rfl
       | some x7 =>
        obtain ⟨x7,l7⟩:= x7
        replace hl:= count1_few h7 hl
        simp only [rd_some,oZ0,Option.bind_some]
        rw [show m_cert_next_bool_107x ⟨l7⟩ = rd (bool1 l7) from bool1_eq l7]
        cases h8 : bool1 l7 with
        | none=> rfl
        | some x8 =>
         obtain ⟨x8,l8⟩:= x8
         replace hl:= next1_few h8 hl
         simp only [rd_some,oZ0,Option.bind_some]
         rw [count_eq]
         cases h9 : count1 l8 with
         | none=> rfl
         | some x9 =>
          obtain ⟨x9,l9⟩:= x9
          replace hl:= count1_few h9 hl
          simp only [rd_some,oZ0,Option.bind_some]
          rw [textsR_eq hl]
          cases h10 : texts1 l9 with
          | none=> rfl
          | some x10 =>
           obtain ⟨x10,l10⟩:= x10
           simp only [rd_some,oZ0,Option.bind_some]
           rw [end_eq]
           by_cases he : l10 = []
           ·rw [if_pos he,if_pos he]; rfl
           ·rw [if_neg he,if_neg he]; rfl
def prom1 (l : Its) : Option (g_api_Promise × Its) :=
 (count1 l).bind fun x1=> (count1 x1.2).bind fun x2=> (big1 x2.2).bind fun x3=> (big1 x3.2).bind fun x4=> (big1 x4.2).bind fun x5=> (big1 x5.2).bind fun x6=> some (⟨x1.1,x2.1,(x3.1,x4.1),⟨x5.1,x6.1⟩⟩,x6.2)
structure Nums (c : g_api_Cert) : Prop where
 serial : 0 ≤ c.Serial ∧ c.Serial ≤ 1099511627776
 frm : 0 ≤ c.From ∧ c.From ≤ 1099511627776
 til : 0 ≤ c.Until ∧ c.Until ≤ 1099511627776
 key : c.Key.toNat < 2305843009213691579
 depth : 0 ≤ c.Depth ∧ c.Depth ≤ 4
 sig : sigB c.Sig = true
 proms : ∀ p ∈ c.Proms,promB p = true
def bareP (c : g_api_Cert) : g_api_Cert:= ⟨c.Serial,c.Issuer,c.Subject,c.Key,c.Names,c.From,c.Until,c.Ca,c.Depth,c.Permit,[],⟨0,0⟩⟩
def bareS (c : g_api_Cert) : g_api_Cert:= ⟨c.Serial,c.Issuer,c.Subject,c.Key,c.Names,c.From,c.Until,c.Ca,c.Depth,c.Permit,c.Proms,⟨0,0⟩⟩
end Go.Proofs.YtlnbckkkapbdmaaGreatDoor
end
section
namespace Go.Proofs.YtlnbckkkapbdmaaGreatDoor
open Go Go.Gw Go.Ax
def sgn8 (a : UInt8) : UInt8:= if a.toNat < 128 then 0 else 255
theorem sgn8_nat (a : UInt8) : ((sgn8 a).toNat : Int) = if a.toNat < 128 then 0 else 255:= by
 unfold sgn8
 split <;> rfl
theorem trim_id : ∀ (l : List UInt8),leastB l = true → trim l = l
 | [],h=> by cases h
 | [a],_=> rfl
 | a :: b :: l,h=> by
  unfold trim
  rw [if_pos h]
theorem trim_sgn {a : UInt8} {l : List UInt8} (h : l.length ≤ 6) : trim (sgn8 a :: a :: l) = trim (a :: l):= by
 have e : leastB (sgn8 a :: a :: l) = false:= (least_not h).2 (sgn8_nat a)
 show (if leastB (sgn8 a :: a :: l) = true then _ else _) = _
 rw [e]
 rfl
theorem sval_sgn (a : UInt8) (l : List UInt8) : sval (sgn8 a :: a :: l) = sval (a :: l):= sval_step (sgn8_nat a)
theorem be8_eight (a7 a6 a5 a4 a3 a2 a1 a0 : UInt8) : be8 (sval [a7,a6,a5,a4,a3,a2,a1,a0]) = [a7,a6,a5,a4,a3,a2,a1,a0]:= by
 have h6:= a6.toNat_lt; have h5:= a5.toNat_lt; have h4:= a4.toNat_lt; have h3:= a3.toNat_lt; have h2:= a2.toNat_lt; have h1:= a1.toNat_lt; have h0:= a0.toNat_lt
 have h7:= a7.toNat_lt
 have hs : sval [a7,a6,a5,a4,a3,a2,a1,a0] = ((((((s8 a7 * 256 + (a6.toNat : Int)) * 256 + (a5.toNat : Int)) * 256 + (a4.toNat : Int)) * 256 + (a3.toNat : Int)) * 256 + (a2.toNat : Int)) * 256 + (a1.toNat : Int)) * 256 + (a0.toNat : Int):= rfl
 have hS : s8 a7 % 256 = (a7.toNat : Int):= by unfold s8; split <;> omega
 generalize s8 a7 = S at hs hS
 generalize sval [a7,a6,a5,a4,a3,a2,a1,a0] = n at hs
 have d1 : n / 256 = (((((S * 256 + (a6.toNat : Int)) * 256 + (a5.toNat : Int)) * 256 + (a4.toNat : Int)) * 256 + (a3.toNat : Int)) * 256 + (a2.toNat : Int)) * 256 + (a1.toNat : Int):= by omega
 have d2 : n / 256 / 256 = ((((S * 256 + (a6.toNat : Int)) * 256 + (a5.toNat : Int)) * 256 + (a4.toNat : Int)) * 256 + (a3.toNat : Int)) * 256 + (a2.toNat : Int):= by rw [d1]; omega
 have d3 : n / 256 / 256 / 256 = (((S * 256 + (a6.toNat : Int)) * 256 + (a5.toNat : Int)) * 256 + (a4.toNat : Int)) * 256 + (a3.toNat : Int):= by rw [d2]; omega
 have d4 : n / 256 / 256 / 256 / 256 = ((S * 256 + (a6.toNat : Int)) * 256 + (a5.toNat : Int)) * 256 + (a4.toNat : Int):= by rw [d3]; omega
 have d5 : n / 256 / 256 / 256 / 256 / 256 = (S * 256 + (a6.toNat : Int)) * 256 + (a5.toNat : Int):= by rw [d4]; omega
 have d6 : n / 256 / 256 / 256 / 256 / 256 / 256 = S * 256 + (a6.toNat : Int):= by rw [d5]; omega
 have d7 : n / 256 / 256 / 256 / 256 / 256 / 256 / 256 = S:= by rw [d6]; omega
 have q : ∀ (k : Nat) (x : UInt8),k ≤ 64 → n / 2 ^ k % 256 = (x.toNat : Int) → toB (shr64 n k) = x:= fun k x hk h=> by
  apply UInt8.toNat_inj.1
  have:= shr_k n k hk (by exact Int.le_of_lt (Int.pow_pos (by decide)))
  omega
 have p1 : n / 2 ^ 8 = n / 256:= rfl
 have p2 : n / 2 ^ 16 = n / 256 / 256:= by
  show n / 65536 = _
  omega
 have p3 : n / 2 ^ 24 = n / 256 / 256 / 256:= by
  show n / 16777216 = _
  omega
 have p4 : n / 2 ^ 32 = n / 256 / 256 / 256 / 256:= by
  show n / 4294967296 = _
  omega
 have p5 : n / 2 ^ 40 = n / 256 / 256 / 256 / 256 / 256:= by
  show n / 1099511627776 = _
  omega
 have p6 : n / 2 ^ 48 = n / 256 / 256 / 256 / 256 / 256 / 256:= by
  show n / 281474976710656 = _
  omega
 have p7 : n / 2 ^ 56 = n / 256 / 256 / 256 / 256 / 256 / 256 / 256:= by
  show n / 72057594037927936 = _
  omega
 unfold be8
 rw [q 56 a7 (by decide) (by rw [p7,d7]; exact hS),q 48 a6 (by decide) (by rw [p6,d6]; omega),q 40 a5 (by decide) (by rw [p5,d5]; omega),q 32 a4 (by decide) (by rw [p4,d4]; omega),q 24 a3 (by decide) (by rw [p3,d3]; omega),
  q 16 a2 (by decide) (by rw [p2,d2]; omega),q 8 a1 (by decide) (by rw [p1,d1]; omega),q 0 a0 (by decide) (by rw [Int.pow_zero,Int.ediv_one]; omega)]
theorem trim_be8 : ∀ (k : Nat) (a : UInt8) (l : List UInt8),(a :: l).length + k = 8 → trim (be8 (sval (a :: l))) = trim (a :: l)
 | 0,a,l,h=> by
  match l,h with
  | [a6,a5,a4,a3,a2,a1,a0],_=> rw [be8_eight]
 | k + 1,a,l,h=> by
  have h : l.length + 1 + (k + 1) = 8:= by simpa using h
  have ih:= trim_be8 k (sgn8 a) (a :: l) (by simp only [List.length_cons]; omega)
  rw [sval_sgn,trim_sgn (by omega)] at ih
  exact ih
theorem least_len {l : List UInt8} (h : leastB l = true) : 1 ≤ l.length ∧ l.length ≤ 8:= by
 match l,h with
 | [a],_=> exact ⟨by simp,by simp⟩
 | a :: b :: l,h =>
  have h : (decide (((a :: b :: l).length : Int) ≤ 8) && ((a.toNat : Int) != ((toB (-((shrB b 7).toNat : Int))).toNat : Int))) = true:= h
  simp only [Bool.and_eq_true,decide_eq_true_eq] at h
  exact ⟨by simp,by omega⟩
theorem least_of {l : List UInt8} (h : leastB l = true) : trim (be8 (sval l)) = l:= by
 have hl:= least_len h
 cases l with
 | nil=> cases h
 | cons a l =>
  rw [trim_be8 (8 - (a :: l).length) a l (by omega)]
  exact trim_id _ h
theorem sval_rng {l : List UInt8} (h : leastB l = true) : -9223372036854775808 ≤ sval l ∧ sval l ≤ 9223372036854775807:= by
 have hl:= least_len h
 have key : ∀ (k : Nat) (a : UInt8) (l : List UInt8),(a :: l).length + k = 8 → -9223372036854775808 ≤ sval (a :: l) ∧ sval (a :: l) ≤ 9223372036854775807:= by
  intro k
  induction k with
  | zero =>
   intro a l h
   match l,h with
   | [a6,a5,a4,a3,a2,a1,a0],_ =>
    have h6:= a6.toNat_lt; have h5:= a5.toNat_lt; have h4:= a4.toNat_lt; have h3:= a3.toNat_lt; have h2:= a2.toNat_lt; have h1:= a1.toNat_lt; have h0:= a0.toNat_lt
    have h7:= s8_rng a
    have hs : sval [a,a6,a5,a4,a3,a2,a1,a0] = ((((((s8 a * 256 + (a6.toNat : Int)) * 256 + (a5.toNat : Int)) * 256 + (a4.toNat : Int)) * 256 + (a3.toNat : Int)) * 256 + (a2.toNat : Int)) * 256 + (a1.toNat : Int)) * 256 + (a0.toNat : Int):= rfl
    omega
  | succ k ih =>
   intro a l h
   have h : l.length + 1 + (k + 1) = 8:= by simpa using h
   have:= ih (sgn8 a) (a :: l) (by simp only [List.length_cons]; omega)
   rw [sval_sgn] at this
   exact this
 cases l with
 | nil=> cases h
 | cons a l=> exact key (8 - (a :: l).length) a l (by omega)
theorem intI_of {x : g_api_Item} (ht : x.Tag = 2) (hL : x.L = []) (h : leastB x.B = true) : intI (asintV x.B) = x:= by
 have hr:= sval_rng h
 have hne : x.B ≠ []:= by intro q; rw [q] at h; cases h
 unfold intI
 rw [asint_sval _ hne,w64_id hr.1 hr.2,least_of h]
 cases x
 simp only at ht hL
 rw [ht,hL]
end Go.Proofs.YtlnbckkkapbdmaaGreatDoor
end
section
namespace Go.Proofs.YtlnbckkkapbdmaaGreatDoor
open Go Go.Gw Go.Ax
def readP (x : g_api_Item) : Option g_api_Promise:= if x.Tag = 48 ∧ mayB 8 x = true then (prom1 x.L).bind fun q=> if q.2 = [] then some q.1 else none else none
abbrev BS:= Its × List g_api_Promise
def outP (r : Its) (a : List g_api_Promise) : Option g_api_Promise → BS ⊕ (BS ⊕ Option (g_api_Cert × g_cert_reader))
 | some p=> .inl (r,a ++ [p])
 | none=> .inr (.inr none)
def outA (a : List g_api_Promise) : Option (List g_api_Promise) → BS ⊕ Option (g_api_Cert × g_cert_reader)
 | some ps=> .inl ([],a ++ ps)
 | none=> .inr none
theorem readP_eq (x : g_api_Item) (r : Its) (a : List g_api_Promise) (hr : few1 (x :: r)) (ha : a.length ≤ 100000) : m_cert_reader_body_b5 (x :: r,a) = some (outP r a (readP x)):= by
 unfold m_cert_reader_body_b5
 show (if decide (((x :: r).length : Int) > 0) = true then _ else _) = _
 rw [len_pos,if_pos rfl]
 show obind (m_cert_reader_sub ⟨x :: r⟩) _ = _
 rw [sub_eq hr]
 unfold readP sub1
 rw [next1_cons]
 by_cases hx : x.Tag = 48 ∧ mayB 8 x = true
 rotate_left
 ·rw [if_neg hx,if_neg hx]; rfl
 rw [if_pos hx,if_pos hx,Option.map_some,oZ0]
 show obind (m_cert_reader_count ⟨x.L⟩) _ = _
 unfold prom1
 rw [count_eq]
 cases h1 : count1 x.L with
 | none=> rfl
 | some q =>
  obtain ⟨x1,l1⟩:= q
  rw [rd_some,oZ0,Option.bind_some]
  show obind (m_cert_reader_count ⟨l1⟩) _ = _
  rw [count_eq]
  cases h2 : count1 l1 with
  | none=> rfl
  | some q =>
   obtain ⟨x2,l2⟩:= q
   rw [rd_some,oZ0,Option.bind_some]
   show obind (m_cert_reader_big ⟨l2⟩) _ = _
   rw [bigR_eq]
   cases h3 : big1 l2 with
   | none=> rfl
   | some q =>
    obtain ⟨x3,l3⟩:= q
    rw [rd_some,oZ0,Option.bind_some]
    show obind (m_cert_reader_big ⟨l3⟩) _ = _
    rw [bigR_eq]
    cases h4 : big1 l3 with
    | none=> rfl
    | some q =>
     obtain ⟨x4,l4⟩:= q
     rw [rd_some,oZ0,Option.bind_some]
     show obind (m_cert_reader_big ⟨l4⟩) _ = _
     rw [bigR_eq]
     cases h5 : big1 l4 with
     | none=> rfl
     | some q =>
      obtain ⟨x5,l5⟩:= q
      rw [rd_some,oZ0,Option.bind_some]
      show obind (m_cert_reader_big ⟨l5⟩) _ = _
      rw [bigR_eq]
      cases h6 : big1 l5 with
      | none=> rfl
      | some q =>
       obtain ⟨x6,l6⟩:= q
       rw [rd_some,oZ0,Option.bind_some,Option.bind_some]
       show obind (app 48 a [(⟨x1,x2,(x3,x4),⟨x5,x6⟩⟩ : g_api_Promise)]) _ = _
       rw [app_ok 48 (by show (a.length + 1) * 48 ≤ _; omega) (by show a.length + 1 ≤ _; omega),oZ0]
       show obind (m_cert_reader_end ⟨l6⟩) _ = _
       rw [end_eq]
       show _ = some (outP r a (if l6 = [] then some (⟨x1,x2,(x3,x4),⟨x5,x6⟩⟩ : g_api_Promise) else none))
       by_cases h : l6 = []
       ·rw [if_pos h,if_pos h]; rfl
       ·rw [if_neg h,if_neg h]; rfl
def allP : Its → Option (List g_api_Promise)
 | []=> some []
 | x :: r=> (readP x).bind fun p=> (allP r).map fun l=> p :: l
theorem allP_loop : ∀ (l : Its) (a : List g_api_Promise) (n : Nat),l.length < n → a.length + l.length ≤ 100000 → few1 l → iter m_cert_reader_body_b5 n (l,a) = some (outA a (allP l))
 | l,a,0,h,_,_=> by omega
 | [],a,n + 1,_,_,_=> by
  have e : m_cert_reader_body_b5 ([],a) = some (.inr (.inl ([],a))):= rfl
  show obind (m_cert_reader_body_b5 ([],a)) _ = _
  rw [e]
  show some (.inl ([],a)) = some (.inl ([],a ++ []) : BS ⊕ Option (g_api_Cert × g_cert_reader))
  rw [List.append_nil]
 | x :: l,a,n + 1,h,ha,hf=> by
  rw [List.length_cons] at h ha
  show obind (m_cert_reader_body_b5 (x :: l,a)) _ = _
  rw [readP_eq x l a hf (by omega)]
  unfold allP
  cases readP x with
  | none=> rfl
  | some p =>
   rw [Option.bind_some]
   show iter m_cert_reader_body_b5 n (l,a ++ [p]) = _
   rw [allP_loop l (a ++ [p]) n (by omega) (by rw [List.length_append]; show a.length + 1 + _ ≤ _; omega) fun y hy=> hf y (List.mem_cons_of_mem _ hy)]
   cases allP l with
   | none=> rfl
   | some ps =>
    show some (.inl ([],(a ++ [p]) ++ ps) : BS ⊕ Option (g_api_Cert × g_cert_reader)) = some (.inl ([],a ++ (p :: ps)))
    rw [List.append_assoc]
    rfl
def few2D (l : Its) : Prop:= few1 l ∧ ∀ x ∈ l,few1 x.L
def few3D (l : Its) : Prop:= few1 l ∧ ∀ x ∈ l,few2D x.L
theorem sub1_in {l q r : Its} (h : sub1 l = some (q,r)) : ∃ x,l = x :: r ∧ q = x.L ∧ x.Tag = 48 ∧ mayB 8 x = true:= by
 unfold sub1 at h
 cases l with
 | nil=> cases h
 | cons x l =>
  rw [next1_cons] at h
  by_cases hx : x.Tag = 48 ∧ mayB 8 x = true
  ·rw [if_pos hx] at h
   cases h
   exact ⟨x,rfl,rfl,hx.1,hx.2⟩
  ·rw [if_neg hx] at h; cases h
def withP (c : g_api_Cert) (ps : List g_api_Promise) : g_api_Cert:= ⟨c.Serial,c.Issuer,c.Subject,c.Key,c.Names,c.From,c.Until,c.Ca,c.Depth,c.Permit,ps,c.Sig⟩
def withS (c : g_api_Cert) (s : g_api_Sig) : g_api_Cert:= ⟨c.Serial,c.Issuer,c.Subject,c.Key,c.Names,c.From,c.Until,c.Ca,c.Depth,c.Permit,c.Proms,s⟩
def body1 (l : Its) : Option (g_api_Cert × Its) :=
 (sub1 l).bind fun x1=> (pre1 x1.1).bind fun x2=> (sub1 x1.2).bind fun x3=> (allP x3.1).bind fun ps=> if x3.2 = [] then some (withP x2.1 ps,[]) else none
theorem bodyR_eq {l : Its} (hl : few2D l) : m_cert_reader_body ⟨l⟩ = rd (body1 l):= by
 unfold m_cert_reader_body body1
 rw [sub_eq hl.1]
 cases h1 : sub1 l with
 | none=> rfl
 | some q =>
  obtain ⟨q1,l1⟩:= q
  obtain ⟨y,e,eq,_,_⟩:= sub1_in h1
  have f1 : few1 q1:= by rw [eq]; exact hl.2 y (by rw [e]; exact List.mem_cons_self)
  have f2 : few2D l1:= ⟨fun z hz=> hl.1 z (by rw [e]; exact List.mem_cons_of_mem _ hz),fun z hz=> hl.2 z (by rw [e]; exact List.mem_cons_of_mem _ hz)⟩
  rw [Option.map_some,oZ0,Option.bind_some]
  show obind (m_cert_reader_pre ⟨q1⟩) _ = _
  rw [preR_eq f1]
  cases h2 : pre1 q1 with
  | none=> rfl
  | some q =>
   obtain ⟨c,l2⟩:= q
   rw [rd_some,oZ0,Option.bind_some]
   show obind (m_cert_reader_sub ⟨l1⟩) _ = _
   rw [sub_eq f2.1]
   cases h3 : sub1 l1 with
   | none=> rfl
   | some q =>
    obtain ⟨q3,l3⟩:= q
    obtain ⟨y3,e3,eq3,_,_⟩:= sub1_in h3
    have f3 : few1 q3:= by rw [eq3]; exact f2.2 y3 (by rw [e3]; exact List.mem_cons_self)
    have f4 : q3.length ≤ 100000:= by rw [eq3]; exact f2.1 y3 (by rw [e3]; exact List.mem_cons_self)
    rw [Option.map_some,oZ0,Option.bind_some]
    show obind (iter m_cert_reader_body_b5 FUEL (q3,[])) _ = _
    rw [allP_loop q3 [] FUEL (by have:= FUEL_big; omega) (by simp only [List.length_nil]; omega) f3]
    cases allP q3 with
    | none=> rfl
    | some ps =>
     show obind (m_cert_reader_end ⟨l3⟩) _ = rd (if l3 = [] then some (withP c ps,[]) else none)
     rw [end_eq]
     by_cases h : l3 = []
     ·rw [if_pos h,if_pos h]; rfl
     ·rw [if_neg h,if_neg h]; rfl
def whole1 (l : Its) : Option (g_api_Cert × Its) :=
 (sub1 l).bind fun x1=> (body1 x1.1).bind fun x2=> (sub1 x1.2).bind fun x3=> (big1 x3.1).bind fun x4=> (big1 x4.2).bind fun x5=> if x5.2 = [] then (if x3.2 = [] then some (withS x2.1 ⟨x4.1,x5.1⟩,[]) else none) else none
theorem wholeR_eq {l : Its} (hl : few3D l) : m_cert_reader_whole ⟨l⟩ = rd (whole1 l):= by
 unfold m_cert_reader_whole whole1
 rw [sub_eq hl.1]
 cases h1 : sub1 l with
 | none=> rfl
 | some q =>
  obtain ⟨q1,l1⟩:= q
  obtain ⟨y,e,eq,_,_⟩:= sub1_in h1
  have f1 : few2D q1:= by rw [eq]; exact hl.2 y (by rw [e]; exact List.mem_cons_self)
  have f2 : few1 l1:= fun z hz=> hl.1 z (by rw [e]; exact List.mem_cons_of_mem _ hz)
  rw [Option.map_some,oZ0,Option.bind_some]
  show obind (m_cert_reader_body ⟨q1⟩) _ = _
  rw [bodyR_eq f1]
  cases h2 : body1 q1 with
  | none=> rfl
  | some q =>
   obtain ⟨c,l2⟩:= q
   rw [rd_some,oZ0,Option.bind_some]
   show obind (m_cert_reader_sub ⟨l1⟩) _ = _
   rw [sub_eq f2]
   cases h3 : sub1 l1 with
   | none=> rfl
   | some q =>
    obtain ⟨q3,l3⟩:= q
    rw [Option.map_some,oZ0,Option.bind_some]
    show obind (m_cert_reader_big ⟨q3⟩) _ = _
    rw [bigR_eq]
    cases h4 : big1 q3 with
    | none=> rfl
    | some q =>
     obtain ⟨x4,l4⟩:= q
     rw [rd_some,oZ0,Option.bind_some]
     show obind (m_cert_reader_big ⟨l4⟩) _ = _
     rw [bigR_eq]
     cases h5 : big1 l4 with
     | none=> rfl
     | some q =>
      obtain ⟨x5,l5⟩:= q
      rw [rd_some,oZ0,Option.bind_some]
      show obind (m_cert_reader_end ⟨l5⟩) _ = rd (if l5 = [] then (if l3 = [] then some (withS c ⟨x4,x5⟩,[]) else none) else none)
      rw [end_eq]
      by_cases h : l5 = []
      ·rw [if_pos h,if_pos h,oZ0]
       show obind (m_cert_reader_end ⟨l3⟩) _ = _
       rw [end_eq]
       by_cases h' : l3 = []
       ·rw [if_pos h',if_pos h']; rfl
       ·rw [if_neg h',if_neg h']; rfl
      ·rw [if_neg h,if_neg h]; rfl
theorem next1_in {α : Type} {tag : Int} {v : g_api_Item → α} {l r : Its} {a : α} (h : next1 tag v l = some (a,r)) : ∃ x,l = x :: r ∧ x.Tag = tag ∧ mayB 8 x = true ∧ a = v x:= by
 cases l with
 | nil=> cases h
 | cons x l =>
  rw [next1_cons] at h
  by_cases hx : x.Tag = tag ∧ mayB 8 x = true
  ·rw [if_pos hx] at h
   cases h
   exact ⟨x,rfl,hx.1,hx.2,rfl⟩
  ·rw [if_neg hx] at h; cases h
theorem may_flat {x : g_api_Item} (h : mayB 8 x = true) (ht : x.Tag ≠ 48) : x.L = []:= by
 simp only [mayB,Bool.and_eq_true,Bool.or_eq_true,beq_iff_eq] at h
 rcases h.1.2 with q | q
 ·exact absurd q ht
 ·exact List.isEmpty_iff.1 q
theorem count_in {l r : Its} {n : Int} (h : count1 l = some (n,r)) : l = intI n :: r ∧ 0 ≤ n ∧ n ≤ 9223372036854775807:= by
 unfold count1 at h
 cases hn : next1 2 (fun x=> asintV x.B) l with
 | none=> rw [hn] at h; cases h
 | some p =>
  obtain ⟨m,q⟩:= p
  rw [hn,Option.bind_some] at h
  obtain ⟨x,e1,e2,e3,e4⟩:= next1_in hn
  by_cases h0 : 0 ≤ m
  ·rw [if_pos h0] at h
   cases h
   have hk:= may_kind e3
   rw [e2] at hk
   have hk : leastB x.B = true:= hk
   have hI:= intI_of e2 (may_flat e3 (by rw [e2]; decide)) hk
   have hr:= sval_rng hk
   have hne : x.B ≠ []:= by intro q; rw [q] at hk; cases hk
   have ev : asintV x.B = sval x.B:= by rw [asint_sval _ hne,w64_id hr.1 hr.2]
   refine ⟨by rw [e4,hI]; exact e1,h0,by rw [e4,ev]; exact hr.2⟩
  ·rw [if_neg h0] at h; cases h
theorem big_in {l r : Its} {n : UInt64} (h : big1 l = some (n,r)) : l = bigI n :: r:= by
 unfold big1 at h
 cases hn : count1 l with
 | none=> rw [hn] at h; cases h
 | some p =>
  obtain ⟨m,q⟩:= p
  rw [hn] at h
  cases h
  obtain ⟨e1,e2,e3⟩:= count_in hn
  have hu:= toU_nat m
  have hm : ((toU m).toNat : Int) = m:= by omega
  unfold bigI
  rw [hm,w64_id (by omega) e3]
  exact e1
theorem text_in {l r : Its} {s : ByteArray} (h : text1 l = some (s,r)) : l = textI s :: r:= by
 obtain ⟨x,e1,e2,e3,e4⟩:= next1_in h
 have hL:= may_flat e3 (by rw [e2]; decide)
 rw [e1,e4]
 congr 1
 cases x
 simp only at e2 hL
 rw [e2,hL]
 rfl
theorem bool_in {l r : Its} {v : Bool} (h : bool1 l = some (v,r)) : l = boolI v :: r:= by
 obtain ⟨x,e1,e2,e3,e4⟩:= next1_in h
 have hL:= may_flat e3 (by rw [e2]; decide)
 have hk:= may_kind e3
 rw [e2] at hk
 have hk : boolB x.B = true:= hk
 rw [e1,e4]
 congr 1
 cases x with
 | mk t b ls =>
  simp only at e2 hL hk
  rw [e2,hL]
  match b,hk with
  | [c],hk =>
   have hk : (c == 0 || c == 255) = true:= hk
   rw [Bool.or_eq_true,beq_iff_eq,beq_iff_eq] at hk
   rcases hk with q | q <;> rw [q] <;> rfl
theorem seq_in {x : g_api_Item} (h1 : x.Tag = 48) (h2 : mayB 8 x = true) : x = seqI x.L:= by
 have hk:= may_kind h2
 rw [h1] at hk
 have hB : x.B = []:= List.isEmpty_iff.1 hk
 cases x
 simp only at h1 hB
 rw [h1,hB]
 rfl
theorem allT_in : ∀ {l : Its} {t : List ByteArray},allT l = some t → l = t.map textI
 | [],t,h=> by cases h; rfl
 | x :: l,t,h=> by
  unfold allT at h
  by_cases hx : x.Tag = 12 ∧ mayB 8 x = true
  ·rw [if_pos hx] at h
   cases ha : allT l with
   | none=> rw [ha] at h; cases h
   | some t' =>
    rw [ha] at h
    cases h
    have e : text1 (x :: l) = some (bs x.B,l):= by
     show next1 12 (fun x=> bs x.B) (x :: l) = _
     rw [next1_cons,if_pos hx]
    have e2:= text_in e
    rw [List.map_cons,← allT_in ha]
    exact e2
  ·rw [if_neg hx] at h; cases h
theorem texts_in {l r : Its} {t : List ByteArray} (h : texts1 l = some (t,r)) : l = textsI t :: r:= by
 unfold texts1 at h
 cases hs : sub1 l with
 | none=> rw [hs] at h; cases h
 | some p =>
  obtain ⟨q,l1⟩:= p
  rw [hs,Option.bind_some] at h
  obtain ⟨x,e1,e2,e3,e4⟩:= sub1_in hs
  cases ha : allT q with
  | none=> rw [ha] at h; cases h
  | some t' =>
   rw [ha] at h
   cases h
   rw [e1,seq_in e3 e4,← e2,allT_in ha]
   rfl
theorem pre_in {l r : Its} {c : g_api_Cert} (h : pre1 l = some (c,r)) : l = (preI c).L ∧ bareP c = c:= by
 unfold pre1 at h
 cases h1 : count1 l with
 | none=> rw [h1] at h; cases h
 | some p1 =>
  obtain ⟨x1,l1⟩:= p1
  rw [h1,Option.bind_some] at h
  cases h2 : text1 l1 with
  | none=> rw [h2] at h; cases h
  | some p2 =>
   obtain ⟨x2,l2⟩:= p2
   rw [h2,Option.bind_some] at h
   cases h3 : text1 l2 with
   | none=> rw [h3] at h; cases h
   | some p3 =>
    obtain ⟨x3,l3⟩:= p3
    rw [h3,Option.bind_some] at h
    cases h4 : big1 l3 with
    | none=> rw [h4] at h; cases h
    | some p4 =>
     obtain ⟨x4,l4⟩:= p4
     rw [h4,Option.bind_some] at h
     cases h5 : texts1 l4 with
     | none=> rw [h5] at h; cases h
     | some p5 =>
      obtain ⟨x5,l5⟩:= p5
      rw [h5,Option.bind_some] at h
      cases h6 : count1 l5 with
      | none=> rw [h6] at h; cases h
      | some p6 =>
       obtain ⟨x6,l6⟩:= p6
       rw [h6,Option.bind_some] at h
       cases h7 : count1 l6 with
       | none=> rw [h7] at h; cases h
       | some p7 =>
        obtain ⟨x7,l7⟩:= p7
        rw [h7,Option.bind_some] at h
        cases h8 : bool1 l7 with
        | none=> rw [h8] at h; cases h
        | some p8 =>
         obtain ⟨x8,l8⟩:= p8
         rw [h8,Option.bind_some] at h
         cases h9 : count1 l8 with
         | none=> rw [h9] at h; cases h
         | some p9 =>
          obtain ⟨x9,l9⟩:= p9
          rw [h9,Option.bind_some] at h
          cases h10 : texts1 l9 with
          | none=> rw [h10] at h; cases h
          | some p10 =>
           obtain ⟨x10,l10⟩:= p10
           rw [h10,Option.bind_some] at h
           by_cases he : l10 = []
           ·have h : some ((⟨x1,x2,x3,x4,x5,x6,x7,x8,x9,x10,[],⟨0,0⟩⟩ : g_api_Cert),([] : Its)) = some (c,r):= by rw [← h]; exact (if_pos he).symm
            have hc:= congrArg (·.1) (sI0 h)
            have hc : (⟨x1,x2,x3,x4,x5,x6,x7,x8,x9,x10,[],⟨0,0⟩⟩ : g_api_Cert) = c:= hc
            rw [← hc]
            refine ⟨?_,rfl⟩
            rw [(count_in h1).1,text_in h2,text_in h3,big_in h4,texts_in h5,(count_in h6).1,(count_in h7).1,bool_in h8,(count_in h9).1,texts_in h10,he]
            rfl
           ·have h : (none : Option (g_api_Cert × Its)) = some (c,r):= by rw [← h]; exact (if_neg he).symm
            cases h
theorem readP_in {x : g_api_Item} {p : g_api_Promise} (h : readP x = some p) : x = promI p:= by
 unfold readP at h
 by_cases hx : x.Tag = 48 ∧ mayB 8 x = true
 rotate_left
 ·rw [if_neg hx] at h; cases h
 rw [if_pos hx] at h
 unfold prom1 at h
 have hs:= seq_in hx.1 hx.2
 cases h1 : count1 x.L with
 | none=> rw [h1] at h; cases h
 | some p1 =>
  obtain ⟨x1,l1⟩:= p1
  rw [h1,Option.bind_some] at h
  cases h2 : count1 l1 with
  | none=> rw [h2] at h; cases h
  | some p2 =>
   obtain ⟨x2,l2⟩:= p2
   rw [h2,Option.bind_some] at h
   cases h3 : big1 l2 with
   | none=> rw [h3] at h; cases h
   | some p3 =>
    obtain ⟨x3,l3⟩:= p3
    rw [h3,Option.bind_some] at h
    cases h4 : big1 l3 with
    | none=> rw [h4] at h; cases h
    | some p4 =>
     obtain ⟨x4,l4⟩:= p4
     rw [h4,Option.bind_some] at h
     cases h5 : big1 l4 with
     | none=> rw [h5] at h; cases h
     | some p5 =>
      obtain ⟨x5,l5⟩:= p5
      rw [h5,Option.bind_some] at h
      cases h6 : big1 l5 with
      | none=> rw [h6] at h; cases h
      | some p6 =>
       obtain ⟨x6,l6⟩:= p6
       rw [h6,Option.bind_some,Option.bind_some] at h
       by_cases he : l6 = []
       ·have h : some (⟨x1,x2,(x3,x4),⟨x5,x6⟩⟩ : g_api_Promise) = some p:= by rw [← h]; exact (if_pos he).symm
        rw [← sI0 h,hs,(count_in h1).1,(count_in h2).1,big_in h3,big_in h4,big_in h5,big_in h6,he]
        rfl
       ·have h : (none : Option g_api_Promise) = some p:= by rw [← h]; exact (if_neg he).symm
        cases h
theorem allP_in : ∀ {l : Its} {ps : List g_api_Promise},allP l = some ps → l = ps.map promI
 | [],ps,h=> by cases h; rfl
 | x :: l,ps,h=> by
  unfold allP at h
  cases hr : readP x with
  | none=> rw [hr] at h; cases h
  | some p =>
   rw [hr,Option.bind_some] at h
   cases ha : allP l with
   | none=> rw [ha] at h; cases h
   | some q =>
    rw [ha] at h
    cases h
    rw [List.map_cons,← allP_in ha,← readP_in hr]
theorem body_in {l r : Its} {c : g_api_Cert} (h : body1 l = some (c,r)) : l = (bodyI c).L ∧ bareS c = c:= by
 unfold body1 at h
 cases h1 : sub1 l with
 | none=> rw [h1] at h; cases h
 | some p1 =>
  obtain ⟨q1,l1⟩:= p1
  rw [h1,Option.bind_some] at h
  obtain ⟨y1,a1,a2,a3,a4⟩:= sub1_in h1
  cases h2 : pre1 q1 with
  | none=> rw [h2] at h; cases h
  | some p2 =>
   obtain ⟨c2,l2⟩:= p2
   rw [h2,Option.bind_some] at h
   obtain ⟨b1,b2⟩:= pre_in h2
   cases h3 : sub1 l1 with
   | none=> rw [h3] at h; cases h
   | some p3 =>
    obtain ⟨q3,l3⟩:= p3
    rw [h3,Option.bind_some] at h
    obtain ⟨y3,d1,d2,d3,d4⟩:= sub1_in h3
    cases h4 : allP q3 with
    | none=> rw [h4] at h; cases h
    | some ps =>
     rw [h4,Option.bind_some] at h
     by_cases he : l3 = []
     ·have h : some (withP c2 ps,([] : Its)) = some (c,r):= by rw [← h]; exact (if_pos he).symm
      have hc : withP c2 ps = c:= congrArg (·.1) (sI0 h)
      rw [← hc]
      refine ⟨?_,?_⟩
      ·rw [a1,seq_in a3 a4,← a2,b1,d1,seq_in d3 d4,← d2,allP_in h4,he]
       rfl
      ·rw [← b2]; rfl
     ·have h : (none : Option (g_api_Cert × Its)) = some (c,r):= by rw [← h]; exact (if_neg he).symm
      cases h
theorem whole_in {l r : Its} {c : g_api_Cert} (h : whole1 l = some (c,r)) : l = (wholeI c).L:= by
 unfold whole1 at h
 cases h1 : sub1 l with
 | none=> rw [h1] at h; cases h
 | some p1 =>
  obtain ⟨q1,l1⟩:= p1
  rw [h1,Option.bind_some] at h
  obtain ⟨y1,a1,a2,a3,a4⟩:= sub1_in h1
  cases h2 : body1 q1 with
  | none=> rw [h2] at h; cases h
  | some p2 =>
   obtain ⟨c2,l2⟩:= p2
   rw [h2,Option.bind_some] at h
   obtain ⟨b1,b2⟩:= body_in h2
   cases h3 : sub1 l1 with
   | none=> rw [h3] at h; cases h
   | some p3 =>
    obtain ⟨q3,l3⟩:= p3
    rw [h3,Option.bind_some] at h
    obtain ⟨y3,d1,d2,d3,d4⟩:= sub1_in h3
    cases h4 : big1 q3 with
    | none=> rw [h4] at h; cases h
    | some p4 =>
     obtain ⟨x4,l4⟩:= p4
     rw [h4,Option.bind_some] at h
     cases h5 : big1 l4 with
     | none=> rw [h5] at h; cases h
     | some p5 =>
      obtain ⟨x5,l5⟩:= p5
      rw [h5,Option.bind_some] at h
      by_cases he : l5 = []
      ·by_cases he3 : l3 = []
       ·have h : some (withS c2 ⟨x4,x5⟩,([] : Its)) = some (c,r):= by rw [← h]; exact ((if_pos he).trans (if_pos he3)).symm
        have hc : withS c2 ⟨x4,x5⟩ = c:= congrArg (·.1) (sI0 h)
        rw [← hc,a1,seq_in a3 a4,← a2,b1,d1,seq_in d3 d4,← d2,big_in h4,big_in h5,he,he3]
        rfl
       ·have h : (none : Option (g_api_Cert × Its)) = some (c,r):= by rw [← h]; exact ((if_pos he).trans (if_neg he3)).symm
        cases h
      ·have h : (none : Option (g_api_Cert × Its)) = some (c,r):= by rw [← h]; exact (if_neg he).symm
       cases h
end Go.Proofs.YtlnbckkkapbdmaaGreatDoor
end
section
namespace Go.Proofs.YtlnbckkkapbdmaaGreatDoor
open Go Go.Gw Go.Ax
theorem put_stable : ∀ {d e : Nat} {x : g_api_Item},mayB d x = true → d ≤ e → putB e x = putB d x
 | 0,e,x,h,_=> by cases h
 | d + 1,0,x,_,h=> by omega
 | d + 1,e + 1,x,h,hd=> by
  have hf : ∀ (l : List g_api_Item),(∀ y ∈ l,mayB d y = true) → l.flatMap (putB e) = l.flatMap (putB d):= by
   intro l
   induction l with
   | nil=> intro _; rfl
   | cons y l ih =>
    intro hl
    rw [List.flatMap_cons,List.flatMap_cons,put_stable (hl y List.mem_cons_self) (by omega),ih fun z hz=> hl z (List.mem_cons_of_mem _ hz)]
  have:= hf x.L fun y hy=> may_in h hy
  show toB x.Tag :: (lenB (x.B ++ x.L.flatMap (putB e)).length ++ (x.B ++ x.L.flatMap (putB e))) = toB x.Tag :: (lenB (x.B ++ x.L.flatMap (putB d)).length ++ (x.B ++ x.L.flatMap (putB d)))
  rw [this]
theorem in_len {d : Nat} {x y : g_api_Item} (h : mayB (d + 1) x = true) (hd : d + 1 ≤ 8) (hy : y ∈ x.L) : (putB 8 y).length ≤ (putB 8 x).length:= by
 rw [put_stable h hd,put_stable (may_in h hy) (by omega)]
 have h1:= flat_mem (putB d) hy
 show _ ≤ (toB x.Tag :: (lenB (x.B ++ x.L.flatMap (putB d)).length ++ (x.B ++ x.L.flatMap (putB d)))).length
 have e : (x.B ++ x.L.flatMap (putB d)).length = x.B.length + (x.L.flatMap (putB d)).length:= List.length_append
 rw [List.length_cons,List.length_append,e]
 omega
def szs (d : Nat) (l : List g_api_Item) : Nat:= (l.flatMap (putB d)).length
theorem in_seq {d : Nat} {l : List g_api_Item} (h : mayB (d + 1) (seqI l) = true) : ∀ y ∈ l,mayB d y = true:= fun y hy=> may_in h hy
structure Okc (c : g_api_Cert) : Prop where
 form : Form c
 fb : formB c = true
 may : mayB 8 (wholeI c) = true
 len : (putB 8 (wholeI c)).length ≤ 2048
theorem okc {c : g_api_Cert} (h : checkV c = 0) : Okc c:= by
 unfold checkV at h
 cases hf : formB c with
 | false=> rw [hf] at h; simp at h
 | true =>
  rw [hf,if_pos rfl] at h
  by_cases h2 : mayB 8 (wholeI c) = true ∧ (putB 8 (wholeI c)).length ≤ 2048
  ·exact ⟨form_of hf,hf,h2.1,h2.2⟩
  ·rw [if_neg h2] at h; cases h
theorem Okc.chk {c : g_api_Cert} (h : Okc c) : checkV c = 0:= by
 unfold checkV
 rw [h.fb,if_pos rfl,if_pos ⟨h.may,h.len⟩]
theorem may_body {c : g_api_Cert} (h : Okc c) : mayB 7 (bodyI c) = true:= in_seq h.may _ (by simp)
theorem may_pre {c : g_api_Cert} (h : Okc c) : mayB 6 (preI c) = true:= in_seq (may_body h) _ (by simp)
def wholeB (c : g_api_Cert) : List UInt8:= putB 8 (wholeI c)
def bodyBy (c : g_api_Cert) : List UInt8:= putB 8 (bodyI c)
def preBy (c : g_api_Cert) : List UInt8:= putB 8 (preI c)
theorem body_le {c : g_api_Cert} (h : Okc c) : (bodyBy c).length ≤ 2048:= by
 have h1:= in_len (y:= bodyI c) h.may (by decide) (by show bodyI c ∈ [bodyI c,_]; simp)
 have h2:= h.len
 show (putB 8 (bodyI c)).length ≤ _
 omega
theorem pre_le {c : g_api_Cert} (h : Okc c) : (preBy c).length ≤ 2048:= by
 have h1:= in_len (y:= preI c) (may_body h) (by decide) (by show preI c ∈ [preI c,_]; simp)
 have h2:= body_le h
 show (putB 8 (preI c)).length ≤ _
 have h3 : (putB 8 (bodyI c)).length ≤ 2048:= h2
 omega
theorem Put_may {x : g_api_Item} (h : mayB 8 x = true) (hl : (putB 8 x).length ≤ 8192) : m_der_Put x = some (putB 8 x,0):= by
 rw [Put_eq (by omega),if_pos h,if_pos hl]
theorem cPut_eq {c : g_api_Cert} (h : Okc c) : m_cert_Put c = some (wholeB c,0):= by
 unfold m_cert_Put m_cert_bytes_39x
 rw [check_eq,h.chk,oZ0,if_neg (by decide),wholeI_eq h.form.sized,oZ0,Put_may h.may (by have:= h.len; omega)]
 rfl
theorem cBody_eq {c : g_api_Cert} (h : Okc c) : m_cert_Body c = some (bodyBy c,0):= by
 unfold m_cert_Body m_cert_bytes_50x
 have hl:= body_le h
 rw [check_eq,h.chk,oZ0,if_neg (by decide),bodyI_eq h.form.sized,oZ0,Put_may (may_le (by decide) (may_body h)) (by show (bodyBy c).length ≤ _; omega)]
 rfl
theorem cPre_eq {c : g_api_Cert} (h : Okc c) : m_cert_Pre c = some (preBy c,0):= by
 unfold m_cert_Pre m_cert_bytes_47x
 have hl:= pre_le h
 rw [check_eq,h.chk,oZ0,if_neg (by decide),preI_eq h.form.sized,oZ0,Put_may (may_le (by decide) (may_pre h)) (by show (preBy c).length ≤ _; omega)]
 rfl
theorem put_inj {x y : g_api_Item} (hx : mayB 8 x = true) (hy : mayB 8 y = true) (lx : (putB 8 x).length ≤ 8192) (h : putB 8 x = putB 8 y) : x = y:= by
 have h1:= get_put 8 8 FUEL x [] hx (by decide) (by have:= FUEL_big; omega) (by decide) lx
 have h2:= get_put 8 8 FUEL y [] hy (by decide) (by have:= FUEL_big; omega) (by decide) (by rw [← h]; exact lx)
 rw [h,h2] at h1
 have h1:= sI0 h1
 exact (congrArg (·.1) h1).symm
end Go.Proofs.YtlnbckkkapbdmaaGreatDoor
end
section
namespace Go.Proofs.YtlnbckkkapbdmaaGreatDoor
open Go Go.Gw Go.Ax
theorem live18_true : m_law18_live = some true:= by kernel_rfl
end Go.Proofs.YtlnbckkkapbdmaaGreatDoor
end
section
namespace Go.Proofs.YtlnbckkkapbdmaaGreatDoor
open Go Go.Gw Go.Ax
theorem L_few {d : Nat} {x : g_api_Item} (h : mayB (d + 1) x = true) (hl : (putB (d + 1) x).length ≤ 100000) : x.L.length ≤ 100000 ∧ ∀ y ∈ x.L,mayB d y = true ∧ (putB d y).length ≤ 100000:= by
 have hp : ∀ y ∈ x.L,1 ≤ (putB d y).length:= fun y hy=> put_pos (may_in h hy)
 have h1:= flat_pos (putB d) x.L hp
 have e : (putB (d + 1) x).length = 1 + (lenB (x.B ++ x.L.flatMap (putB d)).length).length + (x.B.length + (x.L.flatMap (putB d)).length):= by
  show (toB x.Tag :: (lenB (x.B ++ x.L.flatMap (putB d)).length ++ (x.B ++ x.L.flatMap (putB d)))).length = _
  have q : (x.B ++ x.L.flatMap (putB d)).length = x.B.length + (x.L.flatMap (putB d)).length:= List.length_append
  rw [List.length_cons,List.length_append,q]
  omega
 refine ⟨by omega,fun y hy=> ⟨may_in h hy,?_⟩⟩
 have:= flat_mem (putB d) hy
 omega
theorem few_all {x : g_api_Item} (h : mayB 8 x = true) (hl : (putB 8 x).length ≤ 100000) : x.L.length ≤ 100000 ∧ few3D x.L:= by
 obtain ⟨a1,a2⟩:= L_few h hl
 refine ⟨a1,fun y hy=> (L_few (a2 y hy).1 (a2 y hy).2).1,fun y hy=> ?_⟩
 obtain ⟨b1,b2⟩:= L_few (a2 y hy).1 (a2 y hy).2
 refine ⟨fun z hz=> (L_few (b2 z hz).1 (b2 z hz).2).1,fun z hz=> ?_⟩
 obtain ⟨c1,c2⟩:= L_few (b2 z hz).1 (b2 z hz).2
 exact fun u hu=> (L_few (c2 u hu).1 (c2 u hu).2).1
def zc : g_api_Cert:= ⟨0,ByteArray.empty,ByteArray.empty,0,[],0,0,false,0,[],[],⟨0,0⟩⟩
theorem Get_any {b : List UInt8} (hb : b.length ≤ 3000) : ∃ (x : g_api_Item) (n e : Int),m_der_Get b 0 = some (x,n,e) ∧ (e = 0 → mayB 8 x = true ∧ (putB 8 x).length ≤ 3000 ∧ (n = (b.length : Int) → b = putB 8 x)):= by
 obtain ⟨⟨x,r,e⟩,h1,h2⟩:= got_eq 8 FUEL b (by decide) (by have:= FUEL_big; omega) (by omega)
 have h1 : m_der_get b 8 = some (x,r,e):= h1
 unfold m_der_Get
 have e0 : (decide ((0 : Int) < 0) || decide ((0 : Int) > (b.length : Int))) = false:= by
  have : ¬ (0 : Int) > (b.length : Int):= by omega
  rw [decide_eq_false this]; rfl
 have e1 : cut b 0 (b.length : Int) = some b:= by
  have:= cut_fst b []
  rw [List.append_nil] at this
  exact this
 rw [e0,if_neg (by decide),e1,oZ0,h1,oZ0]
 by_cases he : e = 0
 ·subst he
  obtain ⟨g1,g2⟩:= h2 rfl
  have g1 : mayB 8 x = true:= g1
  have g2 : b = putB 8 x ++ r:= g2
  have hl : b.length = (putB 8 x).length + r.length:= by rw [g2,List.length_append]
  rw [if_neg (by simp),bnd_eq']
  refine ⟨x,w64 ((b.length : Int) - (r.length : Int)),0,rfl,fun _=> ⟨g1,by omega,fun hn=> ?_⟩⟩
  rw [w64_id (by omega) (by omega)] at hn
  have : r = []:= List.eq_nil_of_length_eq_zero (by omega)
  rw [g2,this,List.append_nil]
 ·rw [if_pos (by simpa using he)]
  exact ⟨_,_,e,rfl,fun h=> absurd h he⟩
theorem in_any {x : g_api_Item} (hm : mayB 8 x = true) (hl : x.L.length ≤ 100000) : m_cert_in x = some (if x.Tag = 48 then some ⟨x.L⟩ else none):= by
 unfold m_cert_in
 rw [asSeq_eq hl]
 by_cases h : x.Tag = 48
 ·rw [if_pos h,if_pos h,if_pos hm]; rfl
 ·rw [if_neg h,if_neg h]; rfl
theorem mustB (v : Bool) : m_cert_must v = some (if v = true then some () else none):= by cases v <;> rfl
theorem okc_of {c : g_api_Cert} (h : (checkV c == 0) = true) : Okc c:= okc (by simpa using h)
theorem gotW {b : List UInt8} (hb : b.length ≤ 3000) : ∃ c e,m_cert_Get b = some (c,e) ∧ (e = 0 → Okc c ∧ wholeB c = b) ∧ (e ≠ 0 → c = zc):= by
 obtain ⟨x,n,e,h1,h2⟩:= Get_any hb
 unfold m_cert_Get m_cert_get_54x mp_cert_get_54x
 rw [h1,oZ0]
 by_cases he : e = 0
 rotate_left
 ·rw [if_pos (by simpa using he)]
  exact ⟨zc,e,rfl,fun h=> absurd h he,fun _=> rfl⟩
 subst he
 obtain ⟨g1,g2,g3⟩:= h2 rfl
 obtain ⟨f1,f2⟩:= few_all g1 (by omega)
 rw [if_neg (by simp),mustB]
 by_cases hn : n = (b.length : Int)
 rotate_left
 ·have : ((x,n,(0 : Int)).2.1 == (b.length : Int)) = false:= by rw [beq_eq_false_iff_ne]; exact hn
  rw [this]
  exact ⟨zc,71,rfl,fun h=> by omega,fun _=> rfl⟩
 have hbx:= g3 hn
 have : ((x,n,(0 : Int)).2.1 == (b.length : Int)) = true:= by rw [beq_iff_eq]; exact hn
 rw [this,if_pos rfl,oZ0]
 show ∃ c e,obind (obind (obind (m_cert_in x) _) _) _ = some (c,e) ∧ _
 rw [in_any g1 f1]
 by_cases ht : x.Tag = 48
 rotate_left
 ·rw [if_neg ht]
  exact ⟨zc,71,rfl,fun h=> by omega,fun _=> rfl⟩
 rw [if_pos ht,oZ0]
 show ∃ c e,obind (obind (obind (m_cert_reader_whole ⟨x.L⟩) _) _) _ = some (c,e) ∧ _
 rw [wholeR_eq f2]
 cases hw : whole1 x.L with
 | none=> exact ⟨zc,71,rfl,fun h=> by omega,fun _=> rfl⟩
 | some q =>
  obtain ⟨c,r⟩:= q
  rw [rd_some,oZ0]
  show ∃ c' e,obind (obind (obind (m_cert_Check c) _) _) _ = some (c',e) ∧ _
  rw [check_eq,oZ0,mustB]
  cases hc : checkV c == 0 with
  | false=> exact ⟨zc,71,rfl,fun h=> by omega,fun _=> rfl⟩
  | true =>
   refine ⟨c,0,rfl,fun _=> ⟨okc_of hc,?_⟩,fun h=> absurd rfl h⟩
   rw [hbx,seq_in ht g1,whole_in hw]
   rfl
theorem gotB {b : List UInt8} (hb : b.length ≤ 3000) : ∃ c e,m_cert_GetBody b = some (c,e) ∧ (e = 0 → Okc c ∧ bodyBy c = b ∧ bareS c = c) ∧ (e ≠ 0 → c = zc):= by
 obtain ⟨x,n,e,h1,h2⟩:= Get_any hb
 unfold m_cert_GetBody m_cert_get_56x mp_cert_get_56x
 rw [h1,oZ0]
 by_cases he : e = 0
 rotate_left
 ·rw [if_pos (by simpa using he)]
  exact ⟨zc,e,rfl,fun h=> absurd h he,fun _=> rfl⟩
 subst he
 obtain ⟨g1,g2,g3⟩:= h2 rfl
 obtain ⟨f1,f2⟩:= few_all g1 (by omega)
 rw [if_neg (by simp),mustB]
 by_cases hn : n = (b.length : Int)
 rotate_left
 ·have : ((x,n,(0 : Int)).2.1 == (b.length : Int)) = false:= by rw [beq_eq_false_iff_ne]; exact hn
  rw [this]
  exact ⟨zc,71,rfl,fun h=> by omega,fun _=> rfl⟩
 have hbx:= g3 hn
 have : ((x,n,(0 : Int)).2.1 == (b.length : Int)) = true:= by rw [beq_iff_eq]; exact hn
 rw [this,if_pos rfl,oZ0]
 show ∃ c e,obind (obind (obind (m_cert_in x) _) _) _ = some (c,e) ∧ _
 rw [in_any g1 f1]
 by_cases ht : x.Tag = 48
 rotate_left
 ·rw [if_neg ht]
  exact ⟨zc,71,rfl,fun h=> by omega,fun _=> rfl⟩
 rw [if_pos ht,oZ0]
 show ∃ c e,obind (obind (obind (m_cert_reader_body ⟨x.L⟩) _) _) _ = some (c,e) ∧ _
 rw [bodyR_eq ⟨f2.1,fun y hy=> (f2.2 y hy).1⟩]
 cases hw : body1 x.L with
 | none=> exact ⟨zc,71,rfl,fun h=> by omega,fun _=> rfl⟩
 | some q =>
  obtain ⟨c,r⟩:= q
  rw [rd_some,oZ0]
  show ∃ c' e,obind (obind (obind (m_cert_Check c) _) _) _ = some (c',e) ∧ _
  rw [check_eq,oZ0,mustB]
  cases hc : checkV c == 0 with
  | false=> exact ⟨zc,71,rfl,fun h=> by omega,fun _=> rfl⟩
  | true =>
   obtain ⟨w1,w2⟩:= body_in hw
   refine ⟨c,0,rfl,fun _=> ⟨okc_of hc,?_,w2⟩,fun h=> absurd rfl h⟩
   rw [hbx,seq_in ht g1,w1]
   rfl
theorem gotP {b : List UInt8} (hb : b.length ≤ 3000) : ∃ c e,m_cert_GetPre b = some (c,e) ∧ (e = 0 → Okc c ∧ preBy c = b ∧ bareP c = c) ∧ (e ≠ 0 → c = zc):= by
 obtain ⟨x,n,e,h1,h2⟩:= Get_any hb
 unfold m_cert_GetPre m_cert_get_57x mp_cert_get_57x
 rw [h1,oZ0]
 by_cases he : e = 0
 rotate_left
 ·rw [if_pos (by simpa using he)]
  exact ⟨zc,e,rfl,fun h=> absurd h he,fun _=> rfl⟩
 subst he
 obtain ⟨g1,g2,g3⟩:= h2 rfl
 obtain ⟨f1,f2⟩:= few_all g1 (by omega)
 rw [if_neg (by simp),mustB]
 by_cases hn : n = (b.length : Int)
 rotate_left
 ·have : ((x,n,(0 : Int)).2.1 == (b.length : Int)) = false:= by rw [beq_eq_false_iff_ne]; exact hn
  rw [this]
  exact ⟨zc,71,rfl,fun h=> by omega,fun _=> rfl⟩
 have hbx:= g3 hn
 have : ((x,n,(0 : Int)).2.1 == (b.length : Int)) = true:= by rw [beq_iff_eq]; exact hn
 rw [this,if_pos rfl,oZ0]
 show ∃ c e,obind (obind (obind (m_cert_in x) _) _) _ = some (c,e) ∧ _
 rw [in_any g1 f1]
 by_cases ht : x.Tag = 48
 rotate_left
 ·rw [if_neg ht]
  exact ⟨zc,71,rfl,fun h=> by omega,fun _=> rfl⟩
 rw [if_pos ht,oZ0]
 show ∃ c e,obind (obind (obind (m_cert_reader_pre ⟨x.L⟩) _) _) _ = some (c,e) ∧ _
 rw [preR_eq f2.1]
 cases hw : pre1 x.L with
 | none=> exact ⟨zc,71,rfl,fun h=> by omega,fun _=> rfl⟩
 | some q =>
  obtain ⟨c,r⟩:= q
  obtain ⟨w1,w2⟩:= pre_in hw
  have wp : (⟨c.Serial,c.Issuer,c.Subject,c.Key,c.Names,c.From,c.Until,c.Ca,c.Depth,c.Permit,[],c.Sig⟩ : g_api_Cert) = c:= by rw [← w2]; rfl
  rw [rd_some,oZ0]
  show ∃ c' e,obind (obind (obind (m_cert_Check (⟨c.Serial,c.Issuer,c.Subject,c.Key,c.Names,c.From,c.Until,c.Ca,c.Depth,c.Permit,[],c.Sig⟩ : g_api_Cert)) _) _) _ = some (c',e) ∧ _
  dsimp only
  rw [wp,check_eq,oZ0,mustB]
  cases hc : checkV c == 0 with
  | false=> exact ⟨zc,71,rfl,fun h=> by omega,fun _=> rfl⟩
  | true =>
   refine ⟨c,0,rfl,fun _=> ⟨okc_of hc,?_,w2⟩,fun h=> absurd rfl h⟩
   rw [hbx,seq_in ht g1,w1]
   rfl
theorem two_ten {x y : g_api_Cert} (X : Okc x) (Y : Okc y) : wholeB x ≠ bodyBy y ∧ wholeB x ≠ preBy y ∧ bodyBy x ≠ preBy y:= by
 have lw:= X.len; have lb:= body_le X
 have mb : ∀ {c : g_api_Cert},Okc c → mayB 8 (bodyI c) = true:= fun h=> may_le (by decide) (may_body h)
 have mp : ∀ {c : g_api_Cert},Okc c → mayB 8 (preI c) = true:= fun h=> may_le (by decide) (may_pre h)
 have lb' : (putB 8 (bodyI x)).length ≤ 2048:= lb
 refine ⟨fun h=> ?_,fun h=> ?_,fun h=> ?_⟩
 ·have e:= put_inj X.may (mb Y) (by omega) h
  have e2 : [bodyI x,seqI [bigI x.Sig.E,bigI x.Sig.S]] = [preI y,promsI y.Proms]:= congrArg (·.L) e
  have e3 : bodyI x = preI y:= (List.cons.inj e2).1
  have e4 : (bodyI x).L.length = (preI y).L.length:= congrArg (fun z=> z.L.length) e3
  have e5 : (2 : Nat) = 10:= e4
  omega
 ·have e:= put_inj X.may (mp Y) (by omega) h
  have e4 : (wholeI x).L.length = (preI y).L.length:= congrArg (fun z=> z.L.length) e
  have e5 : (2 : Nat) = 10:= e4
  omega
 ·have e:= put_inj (mb X) (mp Y) (by omega) h
  have e4 : (bodyI x).L.length = (preI y).L.length:= congrArg (fun z=> z.L.length) e
  have e5 : (2 : Nat) = 10:= e4
  omega
end Go.Proofs.YtlnbckkkapbdmaaGreatDoor
end
section
namespace Go.Proofs.YtlnbckkkapbdmaaGreatDoor
open Go Go.Gw Go.Ax
theorem bare_t (c : g_api_Cert) : m_law18_bare c true = some (bareP c):= rfl
theorem bare_f (c : g_api_Cert) : m_law18_bare c false = some (bareS c):= rfl
end Go.Proofs.YtlnbckkkapbdmaaGreatDoor
end
section
namespace Go.Proofs.YtlnbckkkapbdmaaGreatDoor
open Go Go.Gw Go.Ax
end Go.Proofs.YtlnbckkkapbdmaaGreatDoor
end
section
namespace Go.Proofs.YtlnbckkkapbdmaaGreatDoor
open Go Go.Gw Go.Ax
theorem idx_at {α : Type} (a b : List α) (x : α) : idx (a ++ x :: b) (a.length : Int) = some x:= by
 unfold idx
 rw [if_pos (by omega)]
 simp
theorem eqTexts : ∀ (p q l k : List ByteArray),p.length = q.length → l.length = k.length → ∃ r,eachN (m_slices_Equal_string_string_b1 (p ++ l) (q ++ k)) l.length (p.length : Int) () = some r ∧ (r = .inl () ↔ l = k) ∧ (r = .inl () ∨ r = .inr false)
 | p,q,[],[],_,_=> ⟨.inl (),rfl,by simp,.inl rfl⟩
 | p,q,[],b :: k,_,h=> by cases h
 | p,q,a :: l,[],_,h=> by cases h
 | p,q,a :: l,b :: k,hp,h=> by
  obtain ⟨r,h1,h2,h3⟩:= eqTexts (p ++ [a]) (q ++ [b]) l k (by simp [hp]) (by simpa using h)
  have e : m_slices_Equal_string_string_b1 (p ++ a :: l) (q ++ b :: k) (p.length : Int) () = some (if eqS a b = true then .inl () else .inr false):= by
   unfold m_slices_Equal_string_string_b1
   rw [idx_at,oZ0,hp,idx_at,oZ0]
   cases eqS a b <;> rfl
  show ∃ r,obind (m_slices_Equal_string_string_b1 (p ++ a :: l) (q ++ b :: k) (p.length : Int) ()) _ = some r ∧ _
  rw [e]
  cases hc : eqS a b with
  | false =>
   refine ⟨.inr false,rfl,?_,.inr rfl⟩
   have : a ≠ b:= fun x=> by rw [eqS_iff.2 x] at hc; cases hc
   simp [this]
  | true =>
   have hab:= eqS_iff.1 hc
   refine ⟨r,?_,?_,h3⟩
   ·show eachN (m_slices_Equal_string_string_b1 (p ++ a :: l) (q ++ b :: k)) l.length ((p.length : Int) + 1) () = some r
    rw [← h1]
    simp
   ·rw [h2,hab]
    simp
theorem equalT (l k : List ByteArray) : ∃ r,m_slices_Equal_string_string l k = some r ∧ (r = true ↔ l = k):= by
 unfold m_slices_Equal_string_string
 by_cases h : l.length = k.length
 ·have e : ((l.length : Int) != (k.length : Int)) = false:= by rw [h]; simp
  obtain ⟨r,h1,h2,h3⟩:= eqTexts [] [] l k rfl h
  have h1 : eachN (m_slices_Equal_string_string_b1 l k) l.length 0 () = some r:= h1
  rw [e,if_neg (by decide),h1]
  rcases h3 with h3 | h3
  ·subst h3; exact ⟨true,rfl,by simpa using h2⟩
  ·subst h3; exact ⟨false,rfl,by simpa using h2⟩
 ·have e : ((l.length : Int) != (k.length : Int)) = true:= by simp; omega
  rw [e,if_pos rfl]
  exact ⟨false,rfl,by simp only [Bool.false_eq_true,false_iff]; exact fun x=> h (by rw [x])⟩
theorem eqSig_iff {p q : g_api_Sig} : eq_api_Sig p q = true ↔ p = q:= by
 cases p; cases q
 unfold eq_api_Sig
 simp
theorem eqProm_iff {p q : g_api_Promise} : eq_api_Promise p q = true ↔ p = q:= by
 obtain ⟨a,b,⟨c,d⟩,e⟩:= p
 obtain ⟨a',b',⟨c',d'⟩,e'⟩:= q
 unfold eq_api_Promise eqSum
 simp [eqSig_iff]
theorem eqPromsL : ∀ (p q l k : List g_api_Promise),p.length = q.length → l.length = k.length → ∃ r,eachN (m_slices_Equal_api_Promise_api_Promise_b1 (p ++ l) (q ++ k)) l.length (p.length : Int) () = some r ∧ (r = .inl () ↔ l = k) ∧ (r = .inl () ∨ r = .inr false)
 | p,q,[],[],_,_=> ⟨.inl (),rfl,by simp,.inl rfl⟩
 | p,q,[],b :: k,_,h=> by cases h
 | p,q,a :: l,[],_,h=> by cases h
 | p,q,a :: l,b :: k,hp,h=> by
  obtain ⟨r,h1,h2,h3⟩:= eqPromsL (p ++ [a]) (q ++ [b]) l k (by simp [hp]) (by simpa using h)
  have e : m_slices_Equal_api_Promise_api_Promise_b1 (p ++ a :: l) (q ++ b :: k) (p.length : Int) () = some (if eq_api_Promise a b = true then .inl () else .inr false):= by
   unfold m_slices_Equal_api_Promise_api_Promise_b1
   rw [idx_at,oZ0,hp,idx_at,oZ0]
   cases eq_api_Promise a b <;> rfl
  show ∃ r,obind (m_slices_Equal_api_Promise_api_Promise_b1 (p ++ a :: l) (q ++ b :: k) (p.length : Int) ()) _ = some r ∧ _
  rw [e]
  cases hc : eq_api_Promise a b with
  | false =>
   refine ⟨.inr false,rfl,?_,.inr rfl⟩
   have : a ≠ b:= fun x=> by rw [eqProm_iff.2 x] at hc; cases hc
   simp [this]
  | true =>
   have hab:= eqProm_iff.1 hc
   refine ⟨r,?_,?_,h3⟩
   ·show eachN (m_slices_Equal_api_Promise_api_Promise_b1 (p ++ a :: l) (q ++ b :: k)) l.length ((p.length : Int) + 1) () = some r
    rw [← h1]
    simp
   ·rw [h2,hab]
    simp
theorem equalP (l k : List g_api_Promise) : ∃ r,m_slices_Equal_api_Promise_api_Promise l k = some r ∧ (r = true ↔ l = k):= by
 unfold m_slices_Equal_api_Promise_api_Promise
 by_cases h : l.length = k.length
 ·have e : ((l.length : Int) != (k.length : Int)) = false:= by rw [h]; simp
  obtain ⟨r,h1,h2,h3⟩:= eqPromsL [] [] l k rfl h
  have h1 : eachN (m_slices_Equal_api_Promise_api_Promise_b1 l k) l.length 0 () = some r:= h1
  rw [e,if_neg (by decide),h1]
  rcases h3 with h3 | h3
  ·subst h3; exact ⟨true,rfl,by simpa using h2⟩
  ·subst h3; exact ⟨false,rfl,by simpa using h2⟩
 ·have e : ((l.length : Int) != (k.length : Int)) = true:= by simp; omega
  rw [e,if_pos rfl]
  exact ⟨false,rfl,by simp only [Bool.false_eq_true,false_iff]; exact fun x=> h (by rw [x])⟩
theorem same_iff (a b : g_api_Cert) : ∃ r,m_cert_Same a b = some r ∧ (r = true ↔ a = b):= by
 obtain ⟨r1,e1,h1⟩:= equalT a.Names b.Names
 obtain ⟨r2,e2,h2⟩:= equalT a.Permit b.Permit
 obtain ⟨r3,e3,h3⟩:= equalP a.Proms b.Proms
 have hk : ((a.Key.toNat : Int) == (b.Key.toNat : Int)) = (a.Key == b.Key):= by
  rw [Bool.eq_iff_iff,beq_iff_eq,beq_iff_eq,← UInt64.toNat_inj]
  omega
 unfold m_cert_Same
 rw [e1,e2,e3,hk,gu_b,oZ0,gu_b,oZ0,gu_b,oZ0,bnd_eq']
 refine ⟨_,rfl,?_⟩
 simp only [Bool.and_eq_true,beq_iff_eq,eqS_iff,h1,h2,h3,eqSig_iff]
 constructor
 ·rintro ⟨⟨⟨⟨⟨⟨⟨⟨⟨⟨⟨q1,q2⟩,q3⟩,q4⟩,q5⟩,q6⟩,q7⟩,q8⟩,q9⟩,q10⟩,q11⟩,q12⟩
  cases a; cases b
  simp only at *
  simp [q1,q2,q3,q4,q6,q7,q8,q9,q12,q5.2,q10.2,q11.2]
 ·rintro rfl
  simp
theorem same_self (a : g_api_Cert) : m_cert_Same a a = some true:= by
 obtain ⟨r,e,h⟩:= same_iff a a
 rw [e,h.2 rfl]
end Go.Proofs.YtlnbckkkapbdmaaGreatDoor
end
section
namespace Go.Proofs.YtlnbckkkapbdmaaGreatDoor
open Go Go.Gw Go.Ax
theorem b0 : ((0 : Int) == 0) = true:= rfl
theorem only_true (a0 : List UInt8) : m_law18_CertOnly a0 = some true:= by
 unfold m_law18_CertOnly
 rw [live18_true,oZ0,if_neg (by decide)]
 by_cases hl : a0.length ≤ 3000
 rotate_left
 ·rw [if_pos (by rw [decide_eq_true_eq]; omega)]
 rw [if_neg (by rw [decide_eq_true_eq]; omega)]
 obtain ⟨x,e,h1,h2,h3⟩:= gotW hl
 obtain ⟨y,f,k1,k2,k3⟩:= gotB hl
 obtain ⟨z,g,m1,m2,m3⟩:= gotP hl
 rw [h1,oZ0,k1,oZ0,m1,oZ0]
 have zk : ((zc.Key.toNat : Int) == 0) = true:= rfl
 have eb : ∀ b : List UInt8,eqS (bs b) (bs b) = true:= fun b=> eqS_iff.2 rfl
 have hx : e = 0 ∨ (e == 0) = false:= by
  by_cases q : e = 0
  ·exact .inl q
  ·exact .inr (by simpa using q)
 have hy : f = 0 ∨ (f == 0) = false:= by
  by_cases q : f = 0
  ·exact .inl q
  ·exact .inr (by simpa using q)
 have hz : g = 0 ∨ (g == 0) = false:= by
  by_cases q : g = 0
  ·exact .inl q
  ·exact .inr (by simpa using q)
 rcases hx with hx | hx <;> rcases hy with hy | hy <;> rcases hz with hz | hz
 ·exact absurd ((h2 hx).2.trans (k2 hy).2.1.symm) (two_ten (h2 hx).1 (k2 hy).1).1
 ·exact absurd ((h2 hx).2.trans (k2 hy).2.1.symm) (two_ten (h2 hx).1 (k2 hy).1).1
 ·exact absurd ((h2 hx).2.trans (m2 hz).2.1.symm) (two_ten (h2 hx).1 (m2 hz).1).2.1
 ·-- the whole
  obtain ⟨X,hb⟩:= h2 hx
  have hy0 : f ≠ 0:= by intro q; rw [q] at hy; cases hy
  have hz0 : g ≠ 0:= by intro q; rw [q] at hz; cases hz
  subst hx
  show (if ((0 : Int) == 0) = true then _ else _) = _
  rw [b0,if_pos rfl]
  show obind (m_cert_Put x) _ = _
  rw [cPut_eq X,oZ0,hb,check_eq,X.chk]
  show obind (gu (!(((0 : Int) != 0) || (!eqS (bs a0) (bs a0)))) (some 0)) _ = _
  rw [eb,show gu (!(((0 : Int) != 0) || (!true))) (some (0 : Int)) = some 0 from rfl,oZ0]
  show (if ((((0 : Int) != 0) || (!true)) || ((0 : Int) != 0)) = true then _ else _) = _
  rw [if_neg (by decide)]
  show (if (f == 0) = true then _ else if (g == 0) = true then _ else _) = _
  rw [hy,if_neg (by decide),hz,if_neg (by decide),k3 hy0,m3 hz0]
  show some ((((decide ((w64 (0 + 1)) ≤ 1)) && (true || ((x.Key.toNat : Int) == 0))) && (false || ((zc.Key.toNat : Int) == 0))) && (false || ((zc.Key.toNat : Int) == 0))) = _
  rw [zk]
  rfl
 ·exact absurd ((k2 hy).2.1.trans (m2 hz).2.1.symm) (two_ten (k2 hy).1 (m2 hz).1).2.2
 ·-- the body
  obtain ⟨Y,hb,hs⟩:= k2 hy
  have hx0 : e ≠ 0:= by intro q; rw [q] at hx; cases hx
  have hz0 : g ≠ 0:= by intro q; rw [q] at hz; cases hz
  subst hy
  show (if (e == 0) = true then _ else _) = _
  rw [hx,if_neg (by decide)]
  show (if ((0 : Int) == 0) = true then _ else _) = _
  rw [b0,if_pos rfl]
  show obind (m_cert_Body y) _ = _
  rw [cBody_eq Y,oZ0,hb,bare_f]
  show obind (gu (!(((0 : Int) != 0) || (!eqS (bs a0) (bs a0)))) (some (bareS y))) _ = _
  rw [eb,show gu (!(((0 : Int) != 0) || (!true))) (some (bareS y)) = some (bareS y) from rfl,oZ0,hs]
  show obind (gu (!(((0 : Int) != 0) || (!true))) (m_cert_Same y y)) _ = _
  rw [same_self,show gu (!(((0 : Int) != 0) || (!true))) (some true) = some true from rfl,oZ0]
  show (if ((((0 : Int) != 0) || (!true)) || (!true)) = true then _ else _) = _
  rw [if_neg (by decide)]
  show (if (g == 0) = true then _ else _) = _
  rw [hz,if_neg (by decide),h3 hx0,m3 hz0]
  show some ((((decide ((w64 (0 + 1)) ≤ 1)) && (false || ((zc.Key.toNat : Int) == 0))) && (true || ((y.Key.toNat : Int) == 0))) && (false || ((zc.Key.toNat : Int) == 0))) = _
  rw [zk]
  rfl
 ·-- the pre
  obtain ⟨Z,hb,hs⟩:= m2 hz
  have hx0 : e ≠ 0:= by intro q; rw [q] at hx; cases hx
  have hy0 : f ≠ 0:= by intro q; rw [q] at hy; cases hy
  subst hz
  show (if (e == 0) = true then _ else _) = _
  rw [hx,if_neg (by decide)]
  show (if (f == 0) = true then _ else _) = _
  rw [hy,if_neg (by decide)]
  show (if ((0 : Int) == 0) = true then _ else _) = _
  rw [b0,if_pos rfl]
  show obind (m_cert_Pre z) _ = _
  rw [cPre_eq Z,oZ0,hb,bare_t]
  show obind (gu (!(((0 : Int) != 0) || (!eqS (bs a0) (bs a0)))) (some (bareP z))) _ = _
  rw [eb,show gu (!(((0 : Int) != 0) || (!true))) (some (bareP z)) = some (bareP z) from rfl,oZ0,hs]
  show obind (gu (!(((0 : Int) != 0) || (!true))) (m_cert_Same z z)) _ = _
  rw [same_self,show gu (!(((0 : Int) != 0) || (!true))) (some true) = some true from rfl,oZ0]
  show (if ((((0 : Int) != 0) || (!true)) || (!true)) = true then _ else _) = _
  rw [if_neg (by decide),h3 hx0,k3 hy0]
  show some ((((decide ((w64 (0 + 1)) ≤ 1)) && (false || ((zc.Key.toNat : Int) == 0))) && (false || ((zc.Key.toNat : Int) == 0))) && (true || ((z.Key.toNat : Int) == 0))) = _
  rw [zk]
  rfl
 ·-- none
  have hx0 : e ≠ 0:= by intro q; rw [q] at hx; cases hx
  have hy0 : f ≠ 0:= by intro q; rw [q] at hy; cases hy
  have hz0 : g ≠ 0:= by intro q; rw [q] at hz; cases hz
  show (if (e == 0) = true then _ else _) = _
  rw [hx,if_neg (by decide)]
  show (if (f == 0) = true then _ else _) = _
  rw [hy,if_neg (by decide)]
  show (if (g == 0) = true then _ else _) = _
  rw [hz,if_neg (by decide),h3 hx0,k3 hy0,m3 hz0]
  show some ((((decide ((0 : Int) ≤ 1)) && (false || ((zc.Key.toNat : Int) == 0))) && (false || ((zc.Key.toNat : Int) == 0))) && (false || ((zc.Key.toNat : Int) == 0))) = _
  rw [zk]
  rfl
end Go.Proofs.YtlnbckkkapbdmaaGreatDoor
end
section
namespace Go.Proofs.YtlnbckkkapbdmaaGreatDoor.lawCertOnly
open Go Go.Gw Go.ChangeShapes Go.WideShapes Go.ChangeAt Go.RowKit
theorem own : ownKnob Tryz.prog.godebug = none:= by kernel_rfl
theorem tab_ir : Ir Tryz.prog 160 (.agg [.agg [.lit (.int .i64 1),.held [103,114,101,97,116,115,101,97,108,47,100,101,114,46,107,105,110,100,115,36,49]],.agg [.lit (.int .i64 2),.held [103,114,101,97,116,115,101,97,108,47,100,101,114,46,108,101,97,115,116]],.agg [.lit (.int .i64 4),.held [103,114,101,97,116,115,101,97,108,47,100,101,114,46,107,105,110,100,115,36,50]],.agg [.lit (.int .i64 12),.held [103,114,101,97,116,115,101,97,108,47,100,101,114,46,107,105,110,100,115,36,51]],.agg [.lit (.int .i64 48),.held [103,114,101,97,116,115,101,97,108,47,100,101,114,46,107,105,110,100,115,36,52]]]) [[.int .i64 1,.func (.func 228) #[] #[]],[.int .i64 2,.func (.func 128) #[] #[]],[.int .i64 4,.func (.func 229) #[] #[]],[.int .i64 12,.func (.func 230) #[] #[]],[.int .i64 48,.func (.func 233) #[] #[]]].flatten :=
 Ir.arr (n:= 5) (k:= 2) Tryz.underlying160 (by kernel_rfl) (by kernel_rfl) rfl rfl fun i d c h1 h2=> by
  match i,h1,h2 with
  | 0,h1,h2=> cases h1; cases h2; exact Ir.pair Tryz.underlying120 rfl rfl rfl (by kernel_rfl) rfl rfl (by kernel_rfl) (by kernel_rfl) (Ir.int Tryz.underlying3) (Ir.fn Tryz.underlying43 Tryz.func228 (by kernel_rfl) (by kernel_rfl))
  | 1,h1,h2=> cases h1; cases h2; exact Ir.pair Tryz.underlying120 rfl rfl rfl (by kernel_rfl) rfl rfl (by kernel_rfl) (by kernel_rfl) (Ir.int Tryz.underlying3) (Ir.fn Tryz.underlying43 Tryz.func128 (by kernel_rfl) (by kernel_rfl))
  | 2,h1,h2=> cases h1; cases h2; exact Ir.pair Tryz.underlying120 rfl rfl rfl (by kernel_rfl) rfl rfl (by kernel_rfl) (by kernel_rfl) (Ir.int Tryz.underlying3) (Ir.fn Tryz.underlying43 Tryz.func229 (by kernel_rfl) (by kernel_rfl))
  | 3,h1,h2=> cases h1; cases h2; exact Ir.pair Tryz.underlying120 rfl rfl rfl (by kernel_rfl) rfl rfl (by kernel_rfl) (by kernel_rfl) (Ir.int Tryz.underlying3) (Ir.fn Tryz.underlying43 Tryz.func230 (by kernel_rfl) (by kernel_rfl))
  | 4,h1,h2=> cases h1; cases h2; exact Ir.pair Tryz.underlying120 rfl rfl rfl (by kernel_rfl) rfl rfl (by kernel_rfl) (by kernel_rfl) (Ir.int Tryz.underlying3) (Ir.fn Tryz.underlying43 Tryz.func233 (by kernel_rfl) (by kernel_rfl))
  | n + 5,h1,h2=> cases h1
theorem gB {W : World} (h : laidMetH Tryz.prog Rows.certOnlyRow.laid W) : GB (memOf W):= fun p hp=> by
 obtain rfl:= List.mem_singleton.1 hp
 exact gb_of (name:= "greatseal/der.kinds") (by kernel_rfl) (by kernel_rfl) (laidMetH.funcs h (d:= .agg [.agg [.lit (.int .i64 1),.iface "func" (.lit (.string [103,114,101,97,116,115,101,97,108,47,100,101,114,46,107,105,110,100,115,36,49]))],.agg [.lit (.int .i64 2),.iface "func" (.lit (.string [103,114,101,97,116,115,101,97,108,47,100,101,114,46,108,101,97,115,116]))],.agg [.lit (.int .i64 4),.iface "func" (.lit (.string [103,114,101,97,116,115,101,97,108,47,100,101,114,46,107,105,110,100,115,36,50]))],.agg [.lit (.int .i64 12),.iface "func" (.lit (.string [103,114,101,97,116,115,101,97,108,47,100,101,114,46,107,105,110,100,115,36,51]))],.agg [.lit (.int .i64 48),.iface "func" (.lit (.string [103,114,101,97,116,115,101,97,108,47,100,101,114,46,107,105,110,100,115,36,52]))]]) (List.Mem.tail _ (List.Mem.head _))) tab_ir
theorem rd5 : Rd Tryz.prog 5 (UInt8):= Rd.u8 Tryz.underlying5
theorem rd34 : Rd Tryz.prog 34 (List UInt8):= Rd.slice Tryz.underlying34 rd5 (by kernel_rfl) (by decide)
theorem contract (H : Type) (enc : TypeId × Value → H) (W : World) (base : Nat) (args : Array Value) (ds gs : List (DataW H)) (before : List MemPlace)
  (hval : ∀ (j : Nat) t v,Tryz.f7.params[j]? = some t → args[j]? = some v → Value.okWide Tryz.prog W .any base t v)
  (hW : DataW.Whole enc Tryz.prog Tryz.f7.params.toList Rows.certOnlySpec.vars false W args.toList ds gs before) (hL : laidMetH Tryz.prog Rows.certOnlyRow.laid W) :
  Calls Tryz.prog 7 args W fun e W'=> ∃ v,e = .returned v ∧ Rows.certOnlySpec.post enc Tryz.prog Tryz.f7 false true false false W args v W':= by
 have hW':= hW
 obtain ⟨p,q,hA0,hV,rfl,hfz,hnd⟩:= hW
 obtain ⟨rfl,rfl⟩:= trodVars_none hV
 rw [List.append_nil] at hW'
 have hA : DataW.TrodAll enc Tryz.prog W 0 (fun _=> true) true Tryz.f7.params.toList args.toList ds p:= hA0
 have hA1:= hA
 have hpl : Tryz.f7.params.toList = [34]:= by rw [Tryz.params7]
 rw [hpl] at hA1
 obtain ⟨v0,w0,d0,e0,p0,q0,ha0,he0,hp0,h0,r0⟩:= trodAll_cons hA1
 obtain ⟨z1,z2,z3⟩:= trodAll_nil r0
 obtain rfl : args = #[v0]:= by
  apply Array.ext'; rw [ha0,z1]
 obtain rfl : ds = [d0]:= by rw [he0,z2]
 rw [Tryz.params7] at hval
 obtain ⟨x0,l0,c0,rfl⟩:= okWide_slice Tryz.underlying34 (hval 0 34 v0 rfl rfl)
 obtain ⟨a0,s0⟩:= rd34.openS h0
 have hc:= v_law18_CertOnly (St.of W (gB hL)) s0 (only_true a0)
 refine Calls.mono hc ?_
 rintro e W' ⟨v,rfl,hk,M,hle,S,rfl⟩
 refine ⟨.bool true,rfl,post_true (tb:= 4) (by kernel_rfl) (by kernel_rfl) rfl (by kernel_rfl) Tryz.underlying4 hW' hA rfl rfl rfl hle S hk⟩
noncomputable def laidWorld (os : Os) : World :=
 { World.holding Tryz.prog os ⟨#[],#[],[]⟩ with heap:= ((((World.holding Tryz.prog os ⟨#[],#[],[]⟩).heap.modify 3 fun | .cells _ t fr=> .cells #[.int .u8 128,.int .u8 191,.int .u8 160,.int .u8 191,.int .u8 128,.int .u8 159,.int .u8 144,.int .u8 191,.int .u8 128,.int .u8 143,.int .u8 0,.int .u8 0,.int .u8 0,.int .u8 0,.int .u8 0,.int .u8 0,.int .u8 0,.int .u8 0,.int .u8 0,.int .u8 0,.int .u8 0,.int .u8 0,.int .u8 0,.int .u8 0,.int .u8 0,.int .u8 0,.int .u8 0,.int .u8 0,.int .u8 0,.int .u8 0,.int .u8 0,.int .u8 0] t fr | o=> o).modify 0 fun | .cells _ t fr=> .cells [[.int .i64 1,.func (.func 228) #[] #[]],[.int .i64 2,.func (.func 128) #[] #[]],[.int .i64 4,.func (.func 229) #[] #[]],[.int .i64 12,.func (.func 230) #[] #[]],[.int .i64 48,.func (.func 233) #[] #[]]].flatten.toArray t fr | o=> o).modify 2 fun | .cells _ t fr=> .cells ((List.replicate 128 240 ++ List.replicate 66 241 ++ List.replicate 30 2 ++ [19] ++ List.replicate 12 3 ++ [35,3,3,52,4,4,4,68] ++ List.replicate 11 241 : List Int).map fun n=> Value.int .u8 n).toArray t fr | o=> o) }
theorem laid_met (os : Os) : laidMetH Tryz.prog Rows.certOnlyRow.laid ((laidWorld os).forCall (fun _ _=> 0) ⟨#[],#[(.slice none 0 0 : Value)],[]⟩).memory :=
 laidMetH_of_parts3 (fuel:= 8) (laidMet_of_run' 8 (by kernel_rfl) (by kernel_rfl)) (by kernel_rfl) (by kernel_rfl)
theorem reads (os : Os) {H : Type} (enc : TypeId × Value → H) : ∃ places,DataW.whole enc Tryz.prog ((laidWorld os).forCall (fun _ _=> 0) ⟨#[],#[(.slice none 0 0 : Value)],[]⟩).memory Tryz.f7.params.toList Rows.certOnlySpec.vars false #[(.slice none 0 0 : Value)].toList 8 = some ([.nil],[],places) :=
 ⟨[],by kernel_rfl⟩
theorem lifted (os : Os) (started : os.Started) (H : Type) (enc : TypeId × Value → H) (F : Stop.Interp) :
  ReturnsInHanded {} Tryz.checked os 7 .any ((OpenSpec.ofChange Rows.certOnlySpec).preRow enc Tryz.prog Tryz.f7 Rows.certOnlyRow.domain false Rows.certOnlyRow.laid) (((OpenSpec.ofChange Rows.certOnlySpec).at F).post enc Tryz.prog Tryz.f7 false true false false):= by
 obtain ⟨places,hx⟩:= reads os enc
 refine returnsInHanded_of_row (C:= Tryz.checked) (s:= OpenSpec.ofChange Rows.certOnlySpec) own started (by kernel_rfl) Tryz.func7
  (witness_row_at (enc:= enc) (C:= Tryz.checked) false (laidWorld os) #[(.slice none 0 0 : Value)] rfl (by kernel_rfl) (by kernel_rfl) (by kernel_rfl)
   (OpenSpec.preRow_of_cond 8 hx (by kernel_rfl) (fun k hk=> by cases hk) (by kernel_rfl) (laid_met os))) ?_
 intro W base args ds gs before hval hW _ _ _ hL _ _
 exact contract H enc W base args ds gs before hval hW hL
theorem said : Rows.CertOnlySaid :=
 OpenClaim.holds_of_cond 7 Tryz.f7 rfl rfl rfl rfl rfl rfl rfl ⟨rfl,rfl,rfl,rfl,rfl⟩ rfl rfl rfl rfl rfl (by kernel_rfl) Tryz.func7 (by kernel_rfl)
  (of_decide_eq_true (by kernel_rfl)) (by unfold Func.isWrapper; first | (rw [if_pos (by decide +kernel)]; kernel_rfl) | (rw [if_neg (by decide +kernel)]; exact ⟨rfl,rfl⟩))
  (fun os started H enc _ F=> by rw [OpenClaim.pre_eq_preRow]; exact lifted os started H enc F)
theorem plain (f : FuncId) (fn : Func) (hf : Tryz.pinned.checked.prog.funcNamed "greatseal/greatseallaw18.CertOnly" = some f) (hfn : Tryz.pinned.checked.prog.funcs[f]? = some fn) :
  true = Tryz.pinned.checked.prog.looks [] ∧ ∀ (j : Nat) t,fn.params[j]? = some t → Tryz.pinned.checked.prog.wantsStandIn t = false:= by
 obtain rfl : f = 7:= sI0 ((show Tryz.prog.funcNamed "greatseal/greatseallaw18.CertOnly" = some 7 by kernel_rfl).symm.trans hf) |>.symm
 obtain rfl : fn = Tryz.f7:= (sI0 (Tryz.func7.symm.trans hfn)).symm
 refine ⟨by kernel_rfl,fun j t ht=> ?_⟩
 rw [Tryz.params7] at ht
 have hm : t ∈ [34]:= by simpa using Array.mem_of_getElem? ht
 have hall : ([34].all fun u=> !Tryz.prog.wantsStandIn u) = true:= by kernel_rfl
 exact (show Tryz.prog.wantsStandIn t = false by simpa using List.all_eq_true.1 hall t hm)
theorem card : Rows.CertOnlyCardSaid :=
 Claim7.holds_tied_plain_at .later [] _ _ _ _ said (fun _ h=> by cases h) (by kernel_rfl) (fun _ h=> by cases h) certOnly_row_tie rfl ⟨rfl,rfl⟩ (by kernel_rfl) rfl plain (by kernel_rfl)
end Go.Proofs.YtlnbckkkapbdmaaGreatDoor.lawCertOnly
end
