/- Several texts, one behind the other. Conditions: none. -/
import Derived.Test.YtlnbckkkapbdmaaGreatDoorZf
import Derived.Test.YtlnbckkkapbdmaaGreatDoorZg
import Derived.KernelRfl
set_option linter.unusedSimpArgs false
set_option linter.unusedVariables false
set_option maxHeartbeats 2000000
set_option maxRecDepth 100000
section
namespace Go.Proofs.YtlnbckkkapbdmaaGreatDoor
open Go Go.Gw Go.Ax
def Tot {α : Type} (x : Option α) : Prop:= ∃ r,x = some r
theorem tot {α : Type} (r : α) : Tot (some r):= ⟨r,rfl⟩
theorem tot_bind {α β : Type} {x : Option α} {k : α → Option β} (h : Tot x) (hk : ∀ a,x = some a → Tot (k a)) : Tot (obind x k):= by
 obtain ⟨a,h⟩:= h
 rw [h]; exact hk a h
theorem tot_gu {α : Type} [Inhabited α] {b : Bool} {x : Option α} (h : b = true → Tot x) : Tot (gu b x):= by
 cases b with
 | true=> exact h rfl
 | false=> exact tot default
theorem tot_if {α : Type} {b : Bool} {x y : Option α} (h1 : b = true → Tot x) (h0 : b = false → Tot y) : Tot (if b = true then x else y):= by
 cases b with
 | true=> exact h1 rfl
 | false=> exact h0 rfl
theorem tot_ite {α : Type} {c : Prop} [Decidable c] {x y : Option α} (h1 : c → Tot x) (h0 : ¬ c → Tot y) : Tot (if c then x else y):= by
 split
 ·exact h1 ‹_›
 ·exact h0 ‹_›
theorem iter_tot {σ τ : Type} {step : σ → Option (σ ⊕ τ)} (μ : σ → Nat) (I : σ → Prop) (Q : τ → Prop)
  (h : ∀ s,I s → ∃ r,step s = some r ∧ (∀ s',r = .inl s' → I s' ∧ μ s' < μ s) ∧ ∀ t,r = .inr t → Q t) : ∀ n s,I s → μ s < n → ∃ t,iter step n s = some t ∧ Q t
 | 0,s,_,hn=> by omega
 | n + 1,s,hI,hn=> by
  obtain ⟨r,h1,h2,h3⟩:= h s hI
  cases r with
  | inr t=> exact ⟨t,by show obind (step s) _ = _; rw [h1]; rfl,h3 t rfl⟩
  | inl s' =>
   obtain ⟨i',lt⟩:= h2 s' rfl
   obtain ⟨t,e,q⟩:= iter_tot μ I Q h n s' i' (by omega)
   exact ⟨t,by show obind (step s) _ = _; rw [h1]; exact e,q⟩
theorem decode_pos (s : ByteArray) (i : Nat) : 1 ≤ (Utf8.decode s i).2:= by
 unfold Utf8.decode
 simp only
 repeat' split
 all_goals simp
theorem FUEL_big : 9223372036854775808 ≤ FUEL:= Nat.le_of_ble_eq_true rfl
theorem text_1_eq (c : Int) : m_cert_text_1 c = some (decide (c ≤ 32) || decide (c > 126)):= rfl
theorem indexFunc_tot (s : ByteArray) (b : Bool) (hs : s.size < 9223372036854775808) : Tot (m_strings_indexFunc_112x s b):= by
 unfold m_strings_indexFunc_112x
 refine tot_bind ?_ fun a _=> ?_
 ·obtain ⟨t,e,_⟩:= iter_tot (step:= m_strings_indexFunc_112x_b2 s b) (fun i=> s.size - i) (fun _=> True) (fun _=> True) (fun i _=> by
   unfold m_strings_indexFunc_112x_b2
   by_cases hi : i < s.size
   ·rw [if_pos hi]
    simp only [bnd,text_1_eq,oZ0]
    split
    ·exact ⟨_,rfl,fun s' h=> (by cases h),fun _ _=> trivial⟩
    ·refine ⟨_,rfl,fun s' h=> ?_,fun _ _=> trivial⟩
     cases h
     have:= decode_pos s i
     exact ⟨trivial,by omega⟩
   ·rw [if_neg hi]
    exact ⟨_,rfl,fun s' h=> (by cases h),fun _ _=> trivial⟩) FUEL 0 trivial (by have:= FUEL_big; omega)
  exact ⟨t,e⟩
 ·cases a with
  | inl _=> exact tot _
  | inr _=> exact tot _
theorem text_tot (s : ByteArray) : Tot (m_cert_text s):= by
 unfold m_cert_text
 refine tot_bind (tot_gu fun h=> ?_) fun a _=> tot _
 simp only [Bool.and_eq_true,decide_eq_true_eq] at h
 unfold m_strings_ContainsFunc_112x m_strings_IndexFunc_112x
 refine tot_bind (tot_bind (indexFunc_tot s true (by omega)) fun a _=> tot _) fun a _=> tot _
theorem text_some {s : ByteArray} {b : Bool} (h : m_cert_text s = some b) : b = true → eqS s (⟨#[]⟩ : ByteArray) = false ∧ s.size ≤ 64:= by
 unfold m_cert_text at h
 obtain ⟨x,_,h⟩:= oY0 h
 have h:= sI0 (bnd_is h)
 intro hb
 rw [hb] at h
 simp only [Bool.and_eq_true,Bool.not_eq_true',decide_eq_true_eq] at h
 exact ⟨h.1.1,by omega⟩
theorem edge_tot (c : Int) : Tot (m_names_edge c):= tot _
theorem inner_tot (c : Int) : Tot (m_names_inner c):= by
 unfold m_names_inner
 exact tot_bind (tot_gu fun _=> edge_tot c) fun a _=> tot _
theorem label_tot (s : ByteArray) : Tot (m_names_label s):= by
 unfold m_names_label
 refine tot_if (fun _=> tot _) fun h=> ?_
 simp only [Bool.or_eq_false_iff,decide_eq_false_iff_not] at h
 refine tot_bind ?_ fun a _=> ?_
 ·obtain ⟨t,e,_⟩:= iter_tot (step:= m_names_label_b2 s) (fun i=> s.size - i) (fun _=> True) (fun _=> True) (fun i _=> by
   unfold m_names_label_b2
   by_cases hi : i < s.size
   ·rw [if_pos hi]
    have hd:= decode_pos s i
    obtain ⟨x4,h4⟩:= tot_gu (b:= ((i : Int) == (w64 ((s.size : Int) - 1)))) fun _=> edge_tot ((Utf8.decode s i).1 : Int)
    obtain ⟨x7,h7⟩:= tot_gu (b:= ((i : Int) == 0)) fun _=> edge_tot ((Utf8.decode s i).1 : Int)
    obtain ⟨x9,h9⟩:= tot_gu (b:= (!((i : Int) == 0))) fun _=> inner_tot ((Utf8.decode s i).1 : Int)
    simp only [bnd,h4,h7,h9,oZ0]
    split
    ·exact ⟨_,rfl,fun s' h=> (by cases h; exact ⟨trivial,by omega⟩),fun _ _=> trivial⟩
    ·split
     ·exact ⟨_,rfl,fun s' h=> (by cases h),fun _ _=> trivial⟩
     ·split
      ·exact ⟨_,rfl,fun s' h=> (by cases h; exact ⟨trivial,by omega⟩),fun _ _=> trivial⟩
      ·split
       ·exact ⟨_,rfl,fun s' h=> (by cases h),fun _ _=> trivial⟩
       ·exact ⟨_,rfl,fun s' h=> (by cases h; exact ⟨trivial,by omega⟩),fun _ _=> trivial⟩
   ·rw [if_neg hi]
    exact ⟨_,rfl,fun s' h=> (by cases h),fun _ _=> trivial⟩) FUEL 0 trivial (by have:= FUEL_big; omega)
  exact ⟨t,e⟩
 ·cases a with
  | inl _=> exact tot _
  | inr _=> exact tot _
theorem ixb_lt : ∀ (l : List UInt8) (c : UInt8),Lib.indexByte l c < l.length
 | [],c=> by simp [Lib.indexByte]
 | b :: l,c=> by
  have:= ixb_lt l c
  unfold Lib.indexByte
  split
  ·rw [List.length_cons]; omega
  ·split
   ·rw [List.length_cons]; omega
   ·rw [List.length_cons]; omega
theorem size_list (s : ByteArray) : s.data.toList.length = s.size:= by rw [Array.length_toList]; rfl
theorem index_dot (s : ByteArray) : ∃ x : Int,m_strings_Index s (⟨#[46]⟩ : ByteArray) = some x ∧ -1 ≤ x ∧ x < s.size:= by
 unfold m_strings_Index m_internal_stringslite_Index m_internal_stringslite_IndexByte
 simp only [bnd]
 by_cases h : ((((⟨#[46]⟩ : ByteArray).size : Int) == 0) || eqS (⟨#[46]⟩ : ByteArray) s) = true
 ·rw [if_pos h]
  refine ⟨0,rfl,by omega,?_⟩
  have h1 : eqS (⟨#[46]⟩ : ByteArray) s = true:= by
   cases he : eqS (⟨#[46]⟩ : ByteArray) s with
   | true=> rfl
   | false=> rw [he] at h; cases h
  have h2 : [(46 : UInt8)] = s.data.toList:= by simpa [eqS] using h1
  have h3:= size_list s
  rw [← h2] at h3
  simp only [List.length_cons,List.length_nil] at h3
  omega
 ·rw [if_neg h]
  refine ⟨ixbS s 46,rfl,Lib.indexByte_ge _ _,?_⟩
  have:= ixb_lt s.data.toList 46
  rw [size_list] at this
  exact this
theorem w64_id {x : Int} (h0 : -9223372036854775808 ≤ x) (h1 : x ≤ 9223372036854775807) : w64 x = x:= by
 unfold w64; omega
theorem cutS_tot {s : ByteArray} {lo hi : Int} (h0 : 0 ≤ lo) (h1 : lo ≤ hi) (h2 : hi ≤ s.size) : cutS s lo hi = some (s.extract lo.toNat hi.toNat):= by
 unfold cutS; rw [if_pos ⟨h0,h1,h2⟩]
theorem name_tot (s : ByteArray) (n k : Int) (hk : k ≤ 64) : Tot (m_names_name s n k):= by
 unfold m_names_name
 refine tot_bind ?_ fun x2 hx2=> ?_
 ·refine tot_if (fun _=> tot _) fun _=> ?_
  exact ⟨_,rfl⟩
 ·refine tot_if (fun _=> tot _) fun h=> ?_
  have hsz : s.size ≤ 64:= by
   cases hd : decide ((s.size : Int) > k) with
   | true=> rw [if_pos hd] at hx2; cases hx2; cases h
   | false=> simp only [decide_eq_false_iff_not] at hd; omega
  have key : ∃ r,m_strings_splitSeq_1 (fun (s : (Unit) × Nat) (b0 : ByteArray)=> if s.2 = 0 then obind (m_names_name_b5 b0 s) fun y=> some (y.2 == 0,y) else none) (⟨#[46]⟩ : ByteArray) s 0 ((),0) = some r:= by
   have hb5 : ∀ (b0 : ByteArray) (s : Unit × Nat),∃ z : Nat,m_names_name_b5 b0 s = some ((),z):= fun b0 s=> by
    unfold m_names_name_b5
    obtain ⟨y,hy⟩:= label_tot b0
    rw [hy]
    simp only [oZ0]
    split
    ·exact ⟨1,rfl⟩
    ·exact ⟨0,rfl⟩
   unfold m_strings_splitSeq_1
   rw [if_neg (by decide)]
   obtain ⟨tt,hit,hq⟩ : ∃ t,iter (m_strings_splitSeq_1_b2 (fun (s : (Unit) × Nat) (b0 : ByteArray)=> if s.2 = 0 then obind (m_names_name_b5 b0 s) fun y=> some (y.2 == 0,y) else none) (⟨#[46]⟩ : ByteArray) 0) FUEL (s,((),0)) = some t ∧ ∀ y,t = .inl y → y.2.2 = 0:= by
    exact iter_tot (step:= m_strings_splitSeq_1_b2 (fun (s : (Unit) × Nat) (b0 : ByteArray)=> if s.2 = 0 then obind (m_names_name_b5 b0 s) fun y=> some (y.2 == 0,y) else none) (⟨#[46]⟩ : ByteArray) 0) (fun z=> z.1.size) (fun z=> z.1.size ≤ 64 ∧ z.2.2 = 0) (fun t=> ∀ y,t = .inl y → y.2.2 = 0) (fun z hz=> by
     obtain ⟨x,h1,h2,h3⟩:= index_dot z.1
     unfold m_strings_splitSeq_1_b2
     rw [h1]
     simp only [oZ0]
     by_cases hx : x < 0
     ·rw [if_pos (by simpa using hx)]
      exact ⟨_,rfl,fun s' h=> (by cases h),fun t ht y hy=> by subst hy; cases ht; exact hz.2⟩
     ·rw [if_neg (by simpa using hx)]
      have hw : w64 (x + 0) = x:= by rw [Int.add_zero]; exact w64_id (by omega) (by omega)
      have hw1 : w64 (x + ((⟨#[46]⟩ : ByteArray).size : Int)) = x + 1:= w64_id (x:= x + 1) (by omega) (by omega)
      rw [hw,hw1,cutS_tot (by omega) (by omega) (by omega),cutS_tot (lo:= x + 1) (by omega) (by omega) (by omega)]
      simp only [oZ0,if_pos hz.2]
      obtain ⟨zz,hzz⟩:= hb5 (z.1.extract (0 : Int).toNat x.toNat) z.2
      rw [hzz]
      simp only [oZ0]
      split
      ·exact ⟨_,rfl,fun s' h=> (by cases h),fun t ht y hy=> by subst hy; cases ht⟩
      ·rename_i hne
       refine ⟨_,rfl,fun s' h=> ?_,fun t ht=> by cases ht⟩
       cases h
       have e0 : zz = 0:= by simpa using hne
       refine ⟨⟨?_,e0⟩,?_⟩
       ·simp only [ByteArray.size_extract]; omega
       ·simp only [ByteArray.size_extract]; omega) FUEL (s,((),0)) ⟨hsz,rfl⟩ (by have:= FUEL_big; show s.size < FUEL; omega)
   show Tot (obind (iter _ FUEL (s,((),0))) _)
   rw [hit]
   cases tt with
   | inr _=> exact tot _
   | inl y3 =>
    have h0:= hq y3 rfl
    obtain ⟨zz,hzz⟩:= hb5 y3.1 y3.2
    simp only [oZ0,if_pos h0,hzz]
    exact tot _
  obtain ⟨r,hr⟩:= key
  show Tot (obind (m_strings_splitSeq_1 _ (⟨#[46]⟩ : ByteArray) s 0 ((),0)) _)
  rw [hr]
  simp only [oZ0]
  exact tot_ite (fun _=> tot _) fun _=> tot _
theorem is_tot (s : ByteArray) : Tot (m_names_is s):= tot_bind (name_tot s 8 64 (by decide)) fun a _=> tot _
theorem Check_tot (s : ByteArray) : Tot (m_names_Check s):= by
 unfold m_names_Check
 refine tot_bind (is_tot s) fun a _=> tot_bind ?_ fun a _=> tot _
 unfold m_names_told
 exact tot_if (fun _=> tot _) fun _=> tot _
theorem cutPrefix_tot (s : ByteArray) : Tot (m_strings_CutPrefix s (⟨#[42,46]⟩ : ByteArray)):= by
 unfold m_strings_CutPrefix m_internal_stringslite_CutPrefix m_internal_stringslite_HasPrefix
 refine tot_bind (tot_bind (tot_bind (tot_gu fun h=> ?_) fun a _=> tot _) fun b hb=> ?_) fun a _=> tot _
 ·simp only [decide_eq_true_eq] at h
  exact ⟨_,cutS_tot (by omega) (by omega) h⟩
 ·refine tot_if (fun _=> tot _) fun h=> ?_
  obtain ⟨x,_,hx⟩:= oY0 hb
  have hx:= sI0 (bnd_is hx)
  have hb : b = true:= by simpa using h
  rw [hb] at hx
  simp only [Bool.and_eq_true,decide_eq_true_eq] at hx
  exact tot_bind ⟨_,cutS_tot (by omega) hx.1 (by omega)⟩ fun a _=> tot _
theorem Pattern_tot (s : ByteArray) : Tot (m_names_Pattern s):= by
 unfold m_names_Pattern m_names_pattern
 refine tot_bind (tot_bind (is_tot s) fun a _=> tot_if (fun _=> tot _) fun _=> tot_bind (cutPrefix_tot s) fun b _=> tot_bind (tot_gu fun _=> name_tot _ 7 62 (by decide)) fun c _=> tot _) fun a _=> tot_bind ?_ fun a _=> tot _
 unfold m_names_told
 exact tot_if (fun _=> tot _) fun _=> tot _
end Go.Proofs.YtlnbckkkapbdmaaGreatDoor
end
section
namespace Go.Proofs.YtlnbckkkapbdmaaGreatDoor
open Go Go.Gw Go.Ax
theorem tot_eq {α : Type} {x : Option α} {d : α} (h : Tot x) : x = some (x.getD d):= by
 obtain ⟨r,h⟩:= h
 rw [h]; rfl
def textV (s : ByteArray) : Bool:= (m_cert_text s).getD false
def nameV (s : ByteArray) : Int:= (m_names_Check s).getD 0
def patV (s : ByteArray) : Int:= (m_names_Pattern s).getD 0
theorem text_eq (s : ByteArray) : m_cert_text s = some (textV s):= tot_eq (text_tot s)
theorem nameV_eq (s : ByteArray) : m_names_Check s = some (nameV s):= tot_eq (Check_tot s)
theorem patV_eq (s : ByteArray) : m_names_Pattern s = some (patV s):= tot_eq (Pattern_tot s)
theorem textV_ok {s : ByteArray} (h : textV s = true) : eqS s (⟨#[]⟩ : ByteArray) = false ∧ s.size ≤ 64:= text_some (text_eq s) h
theorem name_size {s : ByteArray} {n k : Int} (h : m_names_name s n k = some true) : (s.size : Int) ≤ k:= by
 unfold m_names_name at h
 obtain ⟨x,hx,h⟩:= oY0 h
 cases hd : decide ((s.size : Int) > k) with
 | true =>
  rw [if_pos hd] at hx
  cases hx
  cases h
 | false=> simp only [decide_eq_false_iff_not] at hd; omega
theorem is_size {s : ByteArray} (h : m_names_is s = some true) : s.size ≤ 64:= by
 obtain ⟨x,hx,h⟩:= oY0 h
 cases h
 have:= name_size hx
 omega
theorem told_zero {b : Bool} {r : Int} (h : m_names_told b = some r) (h0 : r = 0) : b = true:= by
 cases b with
 | true=> rfl
 | false =>
  have h2 : (110 : Int) = r:= sI0 h
  omega
theorem nameV_size {s : ByteArray} (h : nameV s = 0) : s.size ≤ 64:= by
 have e:= nameV_eq s
 rw [h] at e
 obtain ⟨x,hx,e⟩:= oY0 e
 obtain ⟨y,hy,e⟩:= oY0 e
 cases e
 have:= told_zero hy rfl
 rw [this] at hx
 exact is_size hx
theorem cutPrefix_size {s : ByteArray} {c : ByteArray × Bool} (h : m_strings_CutPrefix s (⟨#[42,46]⟩ : ByteArray) = some c) (h1 : c.2 = true) : c.1.size + 2 = s.size:= by
 unfold m_strings_CutPrefix m_internal_stringslite_CutPrefix m_internal_stringslite_HasPrefix at h
 obtain ⟨d,hd,h⟩:= oY0 h
 have h:= sI0 h
 subst h
 obtain ⟨p,hp,hd⟩:= oY0 hd
 cases p with
 | false =>
  have hd:= sI0 hd
  subst hd
  cases h1
 | true =>
  obtain ⟨q,hq,hd⟩:= oY0 hd
  have hd:= sI0 hd
  subst hd
  unfold cutS at hq
  split at hq
  ·rename_i hc
   have hq:= sI0 hq
   have e2 : (⟨#[42,46]⟩ : ByteArray).size = 2:= rfl
   rw [e2] at hq hc
   show q.size + 2 = s.size
   rw [← hq,ByteArray.size_extract]
   omega
  ·cases hq
theorem patV_size {s : ByteArray} (h : patV s = 0) : s.size ≤ 64:= by
 have e:= patV_eq s
 rw [h] at e
 obtain ⟨x,hx,e⟩:= oY0 e
 obtain ⟨y,hy,e⟩:= oY0 e
 cases e
 have h1:= told_zero hy rfl
 unfold m_names_pattern at hx
 obtain ⟨b,hb,hx⟩:= oY0 hx
 cases b with
 | true=> exact is_size hb
 | false =>
  rw [if_neg (by decide)] at hx
  obtain ⟨c,hc,hx⟩:= oY0 hx
  obtain ⟨d,hd,hx⟩:= oY0 hx
  have hx:= sI0 hx
  subst hx
  have h2 : (c.2 && d) = true:= h1
  simp only [Bool.and_eq_true] at h2
  rw [h2.1,h2.2] at hd
  have h3:= name_size hd
  have h4:= cutPrefix_size hc h2.1
  omega
def listB (right : ByteArray → Int) : List ByteArray → List ByteArray → Bool
 | _,[]=> true
 | met,s :: l=> !(met.any (eqS s)) && right s == 0 && listB right (met ++ [s]) l
def trues (met : List ByteArray) : List (ByteArray × Bool):= met.map fun s=> (s,true)
theorem lkI_trues : ∀ (met : List ByteArray) (s : ByteArray) (i : Nat),(lkI (trues met) s i).isSome = met.any (eqS s) ∧ ∀ p,lkI (trues met) s i = some p → p.2 = true
 | [],s,i=> ⟨rfl,fun p h=> by cases h⟩
 | a :: met,s,i=> by
  have ih:= lkI_trues met s (i + 1)
  rw [List.any_cons]
  cases h : eqS s a with
  | true =>
   refine ⟨?_,fun p hp=> ?_⟩
   ·show (if eqS s a = true then some (i,true) else lkI (trues met) s (i + 1)).isSome = _
    rw [if_pos h]; rfl
   ·have hp : (if eqS s a = true then some (i,true) else lkI (trues met) s (i + 1)) = some p:= hp
    rw [if_pos h] at hp
    cases hp; rfl
  | false =>
   refine ⟨?_,fun p hp=> ?_⟩
   ·show (if eqS s a = true then some (i,true) else lkI (trues met) s (i + 1)).isSome = _
    rw [if_neg (by rw [h]; decide)]; exact ih.1
   ·have hp : (if eqS s a = true then some (i,true) else lkI (trues met) s (i + 1)) = some p:= hp
    rw [if_neg (by rw [h]; decide)] at hp
    exact ih.2 p hp
theorem lkB_trues (met : List ByteArray) (s : ByteArray) : lkB (trues met) s = met.any (eqS s):= by
 have h:= lkI_trues met s 0
 unfold lkB
 rw [← h.1]
 cases e : lkI (trues met) s 0 with
 | none=> rfl
 | some p=> rw [Option.map_some,Option.getD_some,h.2 p e]; rfl
theorem lkI_none (met : List ByteArray) (s : ByteArray) (h : met.any (eqS s) = false) : (lkI (trues met) s 0).isNone = true:= by
 have h1:= (lkI_trues met s 0).1
 rw [h] at h1
 cases e : lkI (trues met) s 0 with
 | none=> rfl
 | some p=> rw [e] at h1; cases h1
theorem listE (right : ByteArray → Int) (mr : ByteArray → Option Int) (hr : ∀ s,mr s = some (right s)) : ∀ (l met : List ByteArray) (i : Int),
  eachR (fun (i1 : Int) (x2 : ByteArray) (s1 : List (ByteArray × Bool))=> obind (gu (!(lkB s1 x2)) (mr x2)) fun x3=> if ((lkB s1 x2) || (x3 != 0)) = true then some (.inr false) else if (lkI s1 x2 0).isNone = true then some (.inl (s1 ++ [(x2,true)])) else none) l i (trues met)
   = some (if listB right met l = true then .inl (trues (met ++ l)) else .inr false)
 | [],met,i=> by simp [eachR,listB]
 | s :: l,met,i=> by
  have ih:= listE right mr hr l (met ++ [s]) (i + 1)
  have hm':= lkB_trues met s
  simp only [eachR,hr] at ih ⊢
  rw [hm']
  cases hm : met.any (eqS s) with
  | true=> simp [gu,listB,hm]
  | false =>
   simp only [gu,Bool.not_false,cond_true,oZ0,Bool.false_or]
   cases h0 : right s == 0 with
   | false =>
    have h1 : (right s != 0) = true:= by simp only [bne,h0,Bool.not_false]
    rw [if_pos h1]
    simp [listB,hm,h0]
   | true =>
    have h1 : (right s != 0) = false:= by simp only [bne,h0,Bool.not_true]
    rw [h1]
    simp only [Bool.false_eq_true,if_false,lkI_none met s hm,if_true,oZ0]
    have e : trues met ++ [(s,true)] = trues (met ++ [s]):= by simp [trues]
    rw [e]
    simp only [gu] at ih
    rw [ih]
    simp [listB,hm,h0]
def listV (right : ByteArray → Int) (l : List ByteArray) (a b : Int) : Bool:= listB right [] l && decide ((l.length : Int) ≥ a) && decide ((l.length : Int) ≤ b)
theorem list65_eq (l : List ByteArray) (a b : Int) : m_cert_list_65x l a b = some (listV patV l a b):= by
 unfold m_cert_list_65x
 have h:= listE patV m_names_Pattern patV_eq l [] 0
 show obind (eachR _ l 0 (trues [])) _ = _
 unfold m_cert_list_65x_b2
 rw [h]
 unfold listV
 cases listB patV [] l <;> rfl
theorem list66_eq (l : List ByteArray) (a b : Int) : m_cert_list_66x l a b = some (listV nameV l a b):= by
 unfold m_cert_list_66x
 have h:= listE nameV m_names_Check nameV_eq l [] 0
 show obind (eachR _ l 0 (trues [])) _ = _
 unfold m_cert_list_66x_b2
 rw [h]
 unfold listV
 cases listB nameV [] l <;> rfl
theorem listB_all {right : ByteArray → Int} : ∀ {l met : List ByteArray},listB right met l = true → ∀ s ∈ l,right s = 0
 | [],met,_,s,hs=> by cases hs
 | a :: l,met,h,s,hs=> by
  simp only [listB,Bool.and_eq_true,beq_iff_eq] at h
  rcases List.mem_cons.1 hs with e | hs
  ·rw [e]; exact h.1.2
  ·exact listB_all h.2 s hs
def numB (n : Int) : Bool:= decide (n ≥ 0) && decide (n ≤ 1099511627776)
def sigB (s : g_api_Sig) : Bool:= decide ((maxU s.E s.S).toNat < 1152921504606845789)
def promB (p : g_api_Promise) : Bool:= numB p.Log && numB p.At && decide ((maxU p.Leaf.1 p.Leaf.2).toNat < 2305843009213693951) && sigB p.Sig
theorem number_eq (n : Int) : m_cert_number n = some (numB n):= rfl
theorem signed_eq (s : g_api_Sig) : m_cert_signed s = some (sigB s):= by
 unfold m_cert_signed sigB
 simp only [bnd,Option.some.injEq,decide_eq_decide]
 omega
theorem max_eq (a b : UInt64) : m_slices_Max_uint64_uint64 [a,b] = some (maxU a b):= by
 have e1 : m_slices_Max_uint64_uint64_b1 [a,b] (a,1) = some (.inl (maxU a b,2)):= rfl
 have e2 : m_slices_Max_uint64_uint64_b1 [a,b] (maxU a b,2) = some (.inr (maxU a b)):= rfl
 have h : ∀ n,iter (m_slices_Max_uint64_uint64_b1 [a,b]) (n + 1 + 1) (a,1) = some (maxU a b):= fun n=> by
  simp only [iter,e1,oZ0,e2]
 have hf : iter (m_slices_Max_uint64_uint64_b1 [a,b]) FUEL (a,1) = some (maxU a b):= h 18446744073709551614
 have i0 : idx [a,b] 0 = some a:= rfl
 have d0 : decide ((([a,b] : List UInt64).length : Int) < 1) = false:= rfl
 unfold m_slices_Max_uint64_uint64
 rw [d0,i0]
 simp only [Bool.false_eq_true,if_false,oZ0,hf]
theorem gu_b {c v : Bool} : gu c (some v) = some (c && v):= by cases c <;> rfl
theorem gu_tt {α : Type} [Inhabited α] (o : Option α) : gu true o = o:= rfl
theorem gu_ff {α : Type} [Inhabited α] (o : Option α) : gu false o = some default:= rfl
theorem bnd_eq' {α β : Type} (a : α) (k : α → β) : bnd a k = k a:= rfl
theorem promised_eq (p : g_api_Promise) : m_cert_promised p = some (promB p):= by
 unfold m_cert_promised promB
 simp only [number_eq,max_eq,signed_eq,gu_b,bnd_eq',oZ0]
 have e : ∀ x : UInt64,decide ((x.toNat : Int) < 2305843009213693951) = decide (x.toNat < 2305843009213693951):= fun x=> by
  rw [decide_eq_decide]; omega
 simp only [e]
 cases numB p.Log with
 | false=> simp only [Bool.false_and,gu_ff,oZ0]
 | true =>
  cases numB p.At with
  | false=> simp only [Bool.false_and,Bool.true_and,gu_ff,oZ0]
  | true =>
   simp only [Bool.true_and,gu_tt,oZ0]
   cases decide ((maxU p.Leaf.1 p.Leaf.2).toNat < 2305843009213693951) <;> simp only [Bool.false_and,Bool.true_and]
def promsB : Int → List g_api_Promise → Bool
 | _,[]=> true
 | last,p :: l=> promB p && !(decide (p.Log ≤ last)) && promsB p.Log l
theorem proms_eq : ∀ (l : List g_api_Promise) (i last : Int),∃ z : Int,eachR m_cert_formed_b2 l i last = some (if promsB last l = true then .inl z else .inr false)
 | [],i,last=> ⟨last,rfl⟩
 | p :: l,i,last=> by
  obtain ⟨z,ih⟩:= proms_eq l (i + 1) p.Log
  refine ⟨z,?_⟩
  have e : m_cert_formed_b2 i p last = some (if (promB p && !(decide (p.Log ≤ last))) = true then .inl p.Log else .inr false):= by
   unfold m_cert_formed_b2
   rw [promised_eq,oZ0]
   cases promB p <;> cases decide (p.Log ≤ last) <;> rfl
  show obind (m_cert_formed_b2 i p last) _ = _
  rw [e]
  cases h : promB p && !(decide (p.Log ≤ last)) with
  | false =>
   simp [promsB,h]
  | true =>
   rw [if_pos rfl,oZ0]
   show eachR m_cert_formed_b2 l (i + 1) p.Log = _
   rw [ih]
   simp [promsB,h]
theorem promsB_all : ∀ {l : List g_api_Promise} {last : Int},promsB last l = true → ∀ p ∈ l,promB p = true
 | [],_,_,p,hp=> by cases hp
 | a :: l,last,h,p,hp=> by
  simp only [promsB,Bool.and_eq_true] at h
  rcases List.mem_cons.1 hp with e | hp
  ·rw [e]; exact h.1.1
  ·exact promsB_all h.2 p hp
def formB (c : g_api_Cert) : Bool :=
 promsB (-1) c.Proms && (numB c.Serial && numB c.From && numB c.Until && decide (c.From < c.Until)) &&
  (textV c.Issuer && (!((c.Key.toNat : Int) == 0)) && decide ((c.Key.toNat : Int) < 2305843009213691579) && decide ((c.Proms.length : Int) ≤ 4) && sigB c.Sig) &&
  (if c.Ca = true then textV c.Subject && ((c.Names.length : Int) == 0) && decide (c.Depth ≥ 0) && decide (c.Depth ≤ 4) && listV patV c.Permit 0 8
   else eqS c.Subject (⟨#[]⟩ : ByteArray) && listV nameV c.Names 1 8 && (c.Depth == 0) && ((c.Permit.length : Int) == 0))
theorem formed_eq (c : g_api_Cert) : m_cert_formed c = some (formB c):= by
 obtain ⟨z,hz⟩:= proms_eq c.Proms 0 (-1)
 unfold m_cert_formed formB
 rw [hz]
 cases promsB (-1) c.Proms with
 | false=> rfl
 | true =>
  rw [if_pos rfl,oZ0]
  simp only [number_eq,text_eq,signed_eq,list65_eq,list66_eq,gu_b,bnd_eq',oZ0,Bool.true_and]
  have e1 : decide (c.From ≥ c.Until) = !decide (c.From < c.Until):= by
   rw [← decide_not,decide_eq_decide]; omega
  have e2 : decide ((c.Key.toNat : Int) ≥ 2305843009213691579) = !decide ((c.Key.toNat : Int) < 2305843009213691579):= by
   rw [← decide_not,decide_eq_decide]; omega
  have e3 : decide ((c.Proms.length : Int) > 4) = !decide ((c.Proms.length : Int) ≤ 4):= by
   rw [← decide_not,decide_eq_decide]; omega
  rw [e1,e2,e3]
  generalize numB c.Serial = a1
  generalize numB c.From = a2
  generalize numB c.Until = a3
  generalize decide (c.From < c.Until) = a4
  generalize textV c.Issuer = b1
  generalize ((c.Key.toNat : Int) == 0) = b2
  generalize decide ((c.Key.toNat : Int) < 2305843009213691579) = b3
  generalize decide ((c.Proms.length : Int) ≤ 4) = b4
  generalize sigB c.Sig = b5
  cases a1 <;> cases a2 <;> cases a3 <;> cases a4 <;> try rfl
  all_goals cases b1 <;> cases b2 <;> cases b3 <;> cases b4 <;> cases b5 <;> try rfl
  cases c.Ca with
  | true =>
   show some _ = some _
   generalize listV patV c.Permit 0 8 = d1
   generalize textV c.Subject = d2
   generalize ((c.Names.length : Int) == 0) = d3
   generalize decide (c.Depth ≥ 0) = d4
   generalize decide (c.Depth ≤ 4) = d5
   cases d1 <;> cases d2 <;> cases d3 <;> cases d4 <;> cases d5 <;> rfl
  | false =>
   show some _ = some _
   generalize listV nameV c.Names 1 8 = d1
   generalize eqS c.Subject (⟨#[]⟩ : ByteArray) = d2
   cases d1 <;> cases d2 <;> rfl
end Go.Proofs.YtlnbckkkapbdmaaGreatDoor
end
section
namespace Go.Proofs.YtlnbckkkapbdmaaGreatDoor
open Go Go.Gw Go.Ax
theorem app_ok {α : Type} (b : Nat) {xs ys : List α} (h : (xs.length + ys.length) * b ≤ 140737488355328) (h1 : xs.length + ys.length ≤ 140737488355328) : app b xs ys = some (xs ++ ys):= by unfold app; rw [if_pos ⟨h,h1⟩]
theorem app_nil {α : Type} (b : Nat) {ys : List α} (h : ys.length * b ≤ 140737488355328) (h1 : ys.length ≤ 140737488355328) : app b [] ys = some ys:= by
 rw [app_ok b (by simpa using h) (by simpa using h1)]; rfl
theorem cut_tl {α : Type} (x : α) (xs : List α) : cut (x :: xs) 1 (((x :: xs).length : Nat) : Int) = some xs:= by
 unfold cut
 rw [if_pos ⟨by omega,by rw [List.length_cons]; omega,by omega⟩]
 show some (List.take _ xs) = _
 rw [List.take_of_length_le]
 simp
def be8 (n : Int) : List UInt8:= [toB (shr64 n 56),toB (shr64 n 48),toB (shr64 n 40),toB (shr64 n 32),toB (shr64 n 24),toB (shr64 n 16),toB (shr64 n 8),toB (shr64 n 0)]
def leastB : List UInt8 → Bool
 | []=> false
 | [_]=> true
 | a :: b :: l=> decide (((a :: b :: l).length : Int) ≤ 8) && ((a.toNat : Int) != ((toB (-((shrB b 7).toNat : Int))).toNat : Int))
def trim : List UInt8 → List UInt8
 | []=> []
 | [a]=> [a]
 | a :: b :: l=> if leastB (a :: b :: l) = true then a :: b :: l else trim (b :: l)
theorem least_eq (l : List UInt8) : m_der_least l = some (leastB l):= by
 match l with
 | []=> rfl
 | [a]=> rfl
 | a :: b :: l =>
  unfold m_der_least
  have e0 : (((a :: b :: l).length : Int) == 0) = false:= by simp only [beq_eq_false_iff_ne,List.length_cons]; omega
  have e1 : (((a :: b :: l).length : Int) == 1) = false:= by simp only [beq_eq_false_iff_ne,List.length_cons]; omega
  have i0 : idx (a :: b :: l) 0 = some a:= rfl
  have i1 : idx (a :: b :: l) 1 = some b:= rfl
  rw [e0,e1,i0,i1]
  simp only [Bool.false_eq_true,if_false,oZ0,bnd_eq',leastB]
  cases decide (((a :: b :: l).length : Int) ≤ 8) <;> rfl
theorem trim_eq : ∀ (n : Nat) (l : List UInt8),l.length < n → iter m_der_Int_b4 n l = some (trim l)
 | 0,l,h=> by omega
 | n + 1,l,h=> by
  show obind (m_der_Int_b4 l) _ = _
  match l with
  | []=> rfl
  | [a]=> rfl
  | a :: b :: l =>
   have ih:= trim_eq n (b :: l) (by simp only [List.length_cons] at h ⊢; omega)
   have e0 : decide (((a :: b :: l).length : Int) > 1) = true:= by simp only [decide_eq_true_eq,List.length_cons]; omega
   cases hl : leastB (a :: b :: l) with
   | true =>
    have e : m_der_Int_b4 (a :: b :: l) = some (.inr (a :: b :: l)):= by
     unfold m_der_Int_b4
     rw [e0,if_pos rfl,least_eq,hl]
     rfl
    rw [e]
    simp [trim,hl]
   | false =>
    have e : m_der_Int_b4 (a :: b :: l) = some (.inl (b :: l)):= by
     unfold m_der_Int_b4
     rw [e0,if_pos rfl,least_eq,hl,cut_tl]
     rfl
    rw [e]
    simp only [oZ0]
    rw [ih]
    simp [trim,hl]
theorem trim_len : ∀ (l : List UInt8),(trim l).length ≤ l.length
 | []=> Nat.le_refl _
 | [a]=> Nat.le_refl _
 | a :: b :: l=> by
  have ih:= trim_len (b :: l)
  unfold trim
  split
  ·exact Nat.le_refl _
  ·rw [List.length_cons]; omega
def intI (n : Int) : g_api_Item:= ⟨2,trim (be8 n),[]⟩
theorem be8_eq (n : Int) : eachN0 (m_der_Int_b3 n) 8 0 (0,0,0,0,0,0,0,0) = some (toB (shr64 n 56),toB (shr64 n 48),toB (shr64 n 40),toB (shr64 n 32),toB (shr64 n 24),toB (shr64 n 16),toB (shr64 n 8),toB (shr64 n 0)):= rfl
theorem clone_eq {l : List UInt8} (h : l.length ≤ 140737488355328) : m_slices_Clone_byte_byte l = some l:= by
 unfold m_slices_Clone_byte_byte
 rw [app_nil 1 (by omega) h]; rfl
theorem int_eq (n : Int) : m_der_Int n = some (intI n):= by
 have h8 : (be8 n).length = 8:= rfl
 have h:= trim_len (be8 n)
 unfold m_der_Int
 rw [be8_eq]
 show obind (obind (iter m_der_Int_b4 FUEL (be8 n)) _) _ = _
 rw [trim_eq FUEL (be8 n) (by rw [h8]; have:= FUEL_big; omega)]
 show obind (m_slices_Clone_byte_byte (trim (be8 n))) _ = _
 rw [clone_eq (by omega)]
 rfl
def bigI (x : UInt64) : g_api_Item:= intI (w64 (x.toNat : Int))
theorem big_eq (x : UInt64) : m_cert_big x = some (bigI x):= by unfold m_cert_big; rw [int_eq]; rfl
def textI (s : ByteArray) : g_api_Item:= ⟨12,s.data.toList,[]⟩
def boolI (v : Bool) : g_api_Item:= ⟨1,[if v = true then 255 else 0],[]⟩
def seqI (l : List g_api_Item) : g_api_Item:= ⟨48,[],l⟩
theorem textI_eq {s : ByteArray} (h : s.size ≤ 140737488355328) : m_der_Text s = some (textI s):= by
 unfold m_der_Text
 rw [app_nil 1 (by rw [size_list]; omega) (by rw [size_list]; exact h)]; rfl
theorem boolI_eq (v : Bool) : m_der_Bool v = some (boolI v):= by cases v <;> rfl
theorem seqI_eq {l : List g_api_Item} (h : l.length ≤ 1000000) : m_der_Seq l = some (seqI l):= by
 unfold m_der_Seq m_slices_Clone_api_Item_api_Item
 rw [app_nil 56 (by omega) (by omega)]; rfl
theorem texts_go : ∀ (l : List ByteArray) (i : Int) (a : List g_api_Item),(∀ s ∈ l,s.size ≤ 64) → a.length + l.length ≤ 1000000 → each0 m_cert_seq_string_81x_b2 l i a = some (a ++ l.map textI)
 | [],i,a,_,_=> by simp [each0]
 | s :: l,i,a,h,hn=> by
  rw [List.length_cons] at hn
  have ih:= texts_go l (i + 1) (a ++ [textI s]) (fun x hx=> h x (List.mem_cons_of_mem _ hx)) (by rw [List.length_append]; show a.length + 1 + _ ≤ _; omega)
  have e : m_cert_seq_string_81x_b2 i s a = some (a ++ [textI s]):= by
   unfold m_cert_seq_string_81x_b2
   rw [textI_eq (by have:= h s List.mem_cons_self; omega),oZ0,app_ok 56 (by show (a.length + 1) * 56 ≤ _; omega) (by show a.length + 1 ≤ _; omega)]
   rfl
  show obind (m_cert_seq_string_81x_b2 i s a) _ = _
  rw [e]
  show each0 _ l (i + 1) (a ++ [textI s]) = _
  rw [ih]
  simp
def textsI (l : List ByteArray) : g_api_Item:= seqI (l.map textI)
theorem texts_eq {l : List ByteArray} (h : ∀ s ∈ l,s.size ≤ 64) (hn : l.length ≤ 1000000) : m_cert_seq_string_81x l = some (textsI l):= by
 unfold m_cert_seq_string_81x
 rw [texts_go l 0 [] h (by simpa using hn)]
 simp only [oZ0,List.nil_append]
 rw [seqI_eq (by rw [List.length_map]; exact hn)]; rfl
def promI (p : g_api_Promise) : g_api_Item:= seqI [intI p.Log,intI p.At,bigI p.Leaf.1,bigI p.Leaf.2,bigI p.Sig.E,bigI p.Sig.S]
theorem promI_eq (p : g_api_Promise) : m_cert_body_1 p = some (promI p):= by
 unfold m_cert_body_1
 simp only [int_eq,big_eq,oZ0]
 rw [seqI_eq (by simp)]; rfl
theorem proms_go : ∀ (l : List g_api_Promise) (i : Int) (a : List g_api_Item),a.length + l.length ≤ 1000000 → each0 m_cert_seq_api_Promise_89x_b2 l i a = some (a ++ l.map promI)
 | [],i,a,_=> by simp [each0]
 | s :: l,i,a,hn=> by
  rw [List.length_cons] at hn
  have ih:= proms_go l (i + 1) (a ++ [promI s]) (by rw [List.length_append]; show a.length + 1 + _ ≤ _; omega)
  have e : m_cert_seq_api_Promise_89x_b2 i s a = some (a ++ [promI s]):= by
   unfold m_cert_seq_api_Promise_89x_b2
   rw [promI_eq,oZ0,app_ok 56 (by show (a.length + 1) * 56 ≤ _; omega) (by show a.length + 1 ≤ _; omega)]
   rfl
  show obind (m_cert_seq_api_Promise_89x_b2 i s a) _ = _
  rw [e]
  show each0 _ l (i + 1) (a ++ [promI s]) = _
  rw [ih]
  simp
def promsI (l : List g_api_Promise) : g_api_Item:= seqI (l.map promI)
theorem promsI_eq {l : List g_api_Promise} (hn : l.length ≤ 1000000) : m_cert_seq_api_Promise_89x l = some (promsI l):= by
 unfold m_cert_seq_api_Promise_89x
 rw [proms_go l 0 [] (by simpa using hn)]
 simp only [oZ0,List.nil_append]
 rw [seqI_eq (by rw [List.length_map]; exact hn)]; rfl
structure Sized (c : g_api_Cert) : Prop where
 issuer : c.Issuer.size ≤ 64
 subject : c.Subject.size ≤ 64
 names : ∀ s ∈ c.Names,s.size ≤ 64
 few : c.Names.length ≤ 8
 permit : ∀ s ∈ c.Permit,s.size ≤ 64
 fewP : c.Permit.length ≤ 8
 proms : c.Proms.length ≤ 4
def preI (c : g_api_Cert) : g_api_Item:= seqI [intI c.Serial,textI c.Issuer,textI c.Subject,bigI c.Key,textsI c.Names,intI c.From,intI c.Until,boolI c.Ca,intI c.Depth,textsI c.Permit]
def bodyI (c : g_api_Cert) : g_api_Item:= seqI [preI c,promsI c.Proms]
def wholeI (c : g_api_Cert) : g_api_Item:= seqI [bodyI c,seqI [bigI c.Sig.E,bigI c.Sig.S]]
theorem preI_eq {c : g_api_Cert} (h : Sized c) : m_cert_pre c = some (preI c):= by
 unfold m_cert_pre
 have h1:= h.issuer; have h2:= h.subject; have h3:= h.few; have h4:= h.fewP
 simp only [int_eq,big_eq,boolI_eq,textI_eq (s:= c.Issuer) (by omega),textI_eq (s:= c.Subject) (by omega),texts_eq h.names (by omega),texts_eq h.permit (by omega),oZ0]
 rw [seqI_eq (by simp)]; rfl
theorem bodyI_eq {c : g_api_Cert} (h : Sized c) : m_cert_body c = some (bodyI c):= by
 unfold m_cert_body
 have h1:= h.proms
 rw [preI_eq h,promsI_eq (by omega)]
 simp only [oZ0]
 rw [seqI_eq (by simp)]; rfl
theorem wholeI_eq {c : g_api_Cert} (h : Sized c) : m_cert_whole c = some (wholeI c):= by
 unfold m_cert_whole
 rw [bodyI_eq h,big_eq,big_eq]
 simp only [oZ0]
 rw [seqI_eq (by simp)]
 simp only [oZ0]
 rw [seqI_eq (by simp)]; rfl
structure Form (c : g_api_Cert) : Prop where
 proms : promsB (-1) c.Proms = true
 serial : numB c.Serial = true
 frm : numB c.From = true
 til : numB c.Until = true
 lt : c.From < c.Until
 issuer : textV c.Issuer = true
 key0 : (c.Key.toNat : Int) ≠ 0
 keyQ : (c.Key.toNat : Int) < 2305843009213691579
 nproms : (c.Proms.length : Int) ≤ 4
 sig : sigB c.Sig = true
 ca : c.Ca = true → textV c.Subject = true ∧ c.Names = [] ∧ 0 ≤ c.Depth ∧ c.Depth ≤ 4 ∧ listV patV c.Permit 0 8 = true
 leaf : c.Ca = false → c.Subject = (⟨#[]⟩ : ByteArray) ∧ listV nameV c.Names 1 8 = true ∧ c.Depth = 0 ∧ c.Permit = []
theorem form_of {c : g_api_Cert} (h : formB c = true) : Form c:= by
 unfold formB at h
 simp only [Bool.and_eq_true,decide_eq_true_eq,Bool.not_eq_true',beq_eq_false_iff_ne] at h
 obtain ⟨⟨⟨h1,⟨⟨h2,h3⟩,h4⟩,h5⟩,⟨⟨⟨h6,h7⟩,h8⟩,h9⟩,h10⟩,h11⟩:= h
 refine ⟨h1,h2,h3,h4,h5,h6,h7,h8,h9,h10,fun e=> ?_,fun e=> ?_⟩
 ·rw [if_pos e] at h11
  simp only [Bool.and_eq_true,decide_eq_true_eq,beq_iff_eq] at h11
  obtain ⟨⟨⟨⟨a,b⟩,d⟩,f⟩,g⟩:= h11
  exact ⟨a,List.eq_nil_of_length_eq_zero (by omega),by omega,f,g⟩
 ·rw [e] at h11
  simp only [Bool.false_eq_true,if_false,Bool.and_eq_true,decide_eq_true_eq,beq_iff_eq] at h11
  obtain ⟨⟨⟨a,b⟩,d⟩,f⟩:= h11
  exact ⟨eqS_iff.1 a,b,d,List.eq_nil_of_length_eq_zero (by omega)⟩
theorem listV_len {right : ByteArray → Int} {l : List ByteArray} {a b : Int} (h : listV right l a b = true) : a ≤ l.length ∧ (l.length : Int) ≤ b ∧ ∀ s ∈ l,right s = 0:= by
 unfold listV at h
 simp only [Bool.and_eq_true,decide_eq_true_eq] at h
 exact ⟨by omega,h.2,listB_all h.1.1⟩
theorem Form.sized {c : g_api_Cert} (h : Form c) : Sized c:= by
 have hi:= (textV_ok h.issuer).2
 have hp:= h.nproms
 cases hc : c.Ca with
 | true =>
  obtain ⟨h1,h2,h3,h4,h5⟩:= h.ca hc
  obtain ⟨l1,l2,l3⟩:= listV_len h5
  exact ⟨hi,(textV_ok h1).2,(by rw [h2]; intro s hs; cases hs),by rw [h2]; decide,fun s hs=> patV_size (l3 s hs),by omega,by omega⟩
 | false =>
  obtain ⟨h1,h2,h3,h4⟩:= h.leaf hc
  obtain ⟨l1,l2,l3⟩:= listV_len h2
  exact ⟨hi,by rw [h1]; decide,fun s hs=> nameV_size (l3 s hs),by omega,(by rw [h4]; intro s hs; cases hs),by rw [h4]; decide,by omega⟩
end Go.Proofs.YtlnbckkkapbdmaaGreatDoor
end
section
namespace Go.Proofs.YtlnbckkkapbdmaaGreatDoor
open Go Go.Gw Go.Ax
theorem find_eq (t : Int) : m_der_find t = some (if t = 1 then (⟨1,228⟩,true) else if t = 2 then (⟨2,128⟩,true) else if t = 4 then (⟨4,229⟩,true) else if t = 12 then (⟨12,230⟩,true) else if t = 48 then (⟨48,233⟩,true) else (⟨0,-1⟩,false)):= by
 by_cases h1 : t = 1
 ·subst h1; rfl
 by_cases h2 : t = 2
 ·subst h2; rfl
 by_cases h3 : t = 4
 ·subst h3; rfl
 by_cases h4 : t = 12
 ·subst h4; rfl
 by_cases h5 : t = 48
 ·subst h5; rfl
 rw [if_neg h1,if_neg h2,if_neg h3,if_neg h4,if_neg h5]
 have b : ∀ (k : Int),t ≠ k → ((k == t) = true) = False:= fun k h=> by simp only [beq_iff_eq,eq_iff_iff,iff_false]; exact fun e=> h e.symm
 have g : eachN (m_slices_IndexFunc_der_kind_der_kind_156x_b1 tab_0) tab_0.length 0 t = some (.inl t):= by
  have i : ∀ (j : Nat) (k : g_der_kind),idx tab_0 (j : Int) = some k → t ≠ k.tag_ → m_slices_IndexFunc_der_kind_der_kind_156x_b1 tab_0 (j : Int) t = some (.inl t):= fun j k e hk=> by
   have hb : (k.tag_ == t) = false:= by simp only [beq_eq_false_iff_ne]; exact fun e=> hk e.symm
   unfold m_slices_IndexFunc_der_kind_der_kind_156x_b1 m_der_find_1
   rw [e]
   simp only [oZ0,hb,Bool.false_eq_true,if_false]
  show obind (m_slices_IndexFunc_der_kind_der_kind_156x_b1 tab_0 ((0 : Nat) : Int) t) _ = _
  rw [i 0 ⟨1,228⟩ rfl h1]
  show obind (m_slices_IndexFunc_der_kind_der_kind_156x_b1 tab_0 ((1 : Nat) : Int) t) _ = _
  rw [i 1 ⟨2,128⟩ rfl h2]
  show obind (m_slices_IndexFunc_der_kind_der_kind_156x_b1 tab_0 ((2 : Nat) : Int) t) _ = _
  rw [i 2 ⟨4,229⟩ rfl h3]
  show obind (m_slices_IndexFunc_der_kind_der_kind_156x_b1 tab_0 ((3 : Nat) : Int) t) _ = _
  rw [i 3 ⟨12,230⟩ rfl h4]
  show obind (m_slices_IndexFunc_der_kind_der_kind_156x_b1 tab_0 ((4 : Nat) : Int) t) _ = _
  rw [i 4 ⟨48,233⟩ rfl h5]
  rfl
 unfold m_der_find m_slices_IndexFunc_der_kind_der_kind_156x
 rw [g]
 rfl
def knownB (t : Int) : Bool:= t == 1 || t == 2 || t == 4 || t == 12 || t == 48
def boolB (b : List UInt8) : Bool:= match b with | [x]=> x == 0 || x == 255 | _=> false
def printB (b : List UInt8) : Bool:= b.all fun c=> decide (32 ≤ c.toNat) && decide (c.toNat ≤ 126)
def kindB (t : Int) (b : List UInt8) : Bool :=
 if t = 1 then boolB b else if t = 2 then leastB b else if t = 4 then true else if t = 12 then printB b else if t = 48 then b.isEmpty else false
theorem kinds1_eq (b : List UInt8) : m_der_kinds_1 b = some (boolB b):= by
 match b with
 | []=> rfl
 | [x] =>
  unfold m_der_kinds_1
  have e1 : ((([x] : List UInt8).length : Int) == 1) = true:= rfl
  have e2 : idx [x] 0 = some x:= rfl
  rw [e1,e2]
  have e3 : ∀ n : UInt8,((x.toNat : Int) == n.toNat) = (x == n):= fun n=> by
   rw [Bool.eq_iff_iff,beq_iff_eq,beq_iff_eq,← UInt8.toNat_inj]
   omega
  have z0 : ((x.toNat : Int) == 0) = (x == 0):= e3 0
  have z1 : ((x.toNat : Int) == 255) = (x == 255):= e3 255
  simp only [gu_tt,oZ0,bnd_eq',z0,z1,Bool.true_and]
  show _ = some (x == 0 || x == 255)
  cases h : x == 0 with
  | true=> rfl
  | false=> simp only [Bool.not_false,gu_tt,oZ0,bnd_eq',z1,Bool.false_or]
 | x :: y :: l =>
  unfold m_der_kinds_1
  have e1 : (((x :: y :: l).length : Int) == 1) = false:= by simp only [beq_eq_false_iff_ne,List.length_cons]; omega
  rw [e1]
  rfl
theorem indexP : ∀ (a b : List UInt8),∃ r,eachN (m_slices_IndexFunc_byte_byte_232x_b1 (a ++ b)) b.length (a.length : Int) () = some r ∧ (r = .inl () ↔ printB b = true) ∧ ∀ i,r = .inr i → 0 ≤ i
 | a,[]=> ⟨.inl (),rfl,by simp [printB],fun i h=> by cases h⟩
 | a,c :: b=> by
  have hi : idx (a ++ c :: b) (a.length : Int) = some c:= by
   unfold idx
   rw [if_pos (by omega)]
   simp
  obtain ⟨r,h1,h2,h3⟩:= indexP (a ++ [c]) b
  have ec : (decide ((c.toNat : Int) < 32) || decide ((c.toNat : Int) > 126)) = !(decide (32 ≤ c.toNat) && decide (c.toNat ≤ 126)):= by
   rw [Bool.eq_iff_iff]
   simp only [Bool.or_eq_true,Bool.not_eq_true',Bool.and_eq_false_iff,decide_eq_true_eq,decide_eq_false_iff_not]
   omega
  have st : m_slices_IndexFunc_byte_byte_232x_b1 (a ++ c :: b) (a.length : Int) () = some (if (decide (32 ≤ c.toNat) && decide (c.toNat ≤ 126)) = true then .inl () else .inr (a.length : Int)):= by
   unfold m_slices_IndexFunc_byte_byte_232x_b1 m_der_kinds_3_1
   rw [hi]
   simp only [oZ0,bnd_eq',ec]
   cases decide (32 ≤ c.toNat) && decide (c.toNat ≤ 126) <;> rfl
  show ∃ r,obind (m_slices_IndexFunc_byte_byte_232x_b1 (a ++ c :: b) (a.length : Int) ()) _ = some r ∧ _
  rw [st]
  cases hc : decide (32 ≤ c.toNat) && decide (c.toNat ≤ 126) with
  | false=> exact ⟨.inr (a.length : Int),rfl,by simp [printB,hc],fun i h=> (by cases h; omega)⟩
  | true =>
   refine ⟨r,?_,?_,h3⟩
   ·show eachN (m_slices_IndexFunc_byte_byte_232x_b1 (a ++ c :: b)) b.length ((a.length : Int) + 1) () = some r
    rw [← h1]
    simp
   ·rw [h2]
    simp only [printB,List.all_cons,hc,Bool.true_and]
theorem kinds3_eq (b : List UInt8) : m_der_kinds_3 b = some (printB b):= by
 obtain ⟨r,h1,h2,h3⟩:= indexP [] b
 unfold m_der_kinds_3 m_slices_ContainsFunc_byte_byte_232x m_slices_IndexFunc_byte_byte_232x
 have h1 : eachN (m_slices_IndexFunc_byte_byte_232x_b1 b) b.length 0 () = some r:= h1
 rw [h1]
 cases r with
 | inl u=> rw [h2.1 rfl]; rfl
 | inr i =>
  have hp : printB b = false:= by
   cases h : printB b with
   | false=> rfl
   | true=> exact absurd (h2.2 h) (by simp)
  have hi:= h3 i rfl
  rw [hp]
  show some (!(decide (i ≥ 0))) = _
  rw [decide_eq_true hi]; rfl
theorem kinds4_eq (b : List UInt8) : m_der_kinds_4 b = some b.isEmpty:= by
 cases b with
 | nil=> rfl
 | cons a l =>
  unfold m_der_kinds_4
  have : (((a :: l).length : Int) == 0) = false:= by simp only [beq_eq_false_iff_ne,List.length_cons]; omega
  rw [this]; rfl
theorem known_cases {t : Int} (h : knownB t = true) : t = 1 ∨ t = 2 ∨ t = 4 ∨ t = 12 ∨ t = 48:= by
 unfold knownB at h
 simp only [Bool.or_eq_true,beq_iff_eq] at h
 omega
theorem find_known {t : Int} (h : knownB t = true) : ∃ k,m_der_find t = some (k,true) ∧ k.tag_ = t ∧ ∀ b,m_dyn_34 k.may_ b = some (kindB t b):= by
 rcases known_cases h with e | e | e | e | e
 ·subst e; exact ⟨_,rfl,rfl,kinds1_eq⟩
 ·subst e; exact ⟨_,rfl,rfl,least_eq⟩
 ·subst e; exact ⟨_,rfl,rfl,fun b=> rfl⟩
 ·subst e; exact ⟨_,rfl,rfl,kinds3_eq⟩
 ·subst e; exact ⟨_,rfl,rfl,kinds4_eq⟩
theorem find_unknown {t : Int} (h : knownB t = false) : m_der_find t = some (⟨0,-1⟩,false) ∧ ∀ b,kindB t b = false:= by
 unfold knownB at h
 simp only [Bool.or_eq_false_iff,beq_eq_false_iff_ne] at h
 obtain ⟨⟨⟨⟨h1,h2⟩,h3⟩,h4⟩,h5⟩:= h
 refine ⟨?_,fun b=> ?_⟩
 ·rw [find_eq,if_neg h1,if_neg h2,if_neg h3,if_neg h4,if_neg h5]
 ·unfold kindB
  rw [if_neg h1,if_neg h2,if_neg h3,if_neg h4,if_neg h5]
def mayB : Nat → g_api_Item → Bool
 | 0,_=> false
 | d + 1,x=> kindB x.Tag x.B && (x.Tag == 48 || x.L.isEmpty) && x.L.all (mayB d)
theorem indexM (rF : g_api_Item → Int → Option Bool) (p : g_api_Item → Bool) (d : Int) : ∀ (a b : List g_api_Item),(∀ y ∈ b,rF y (w64 (d - 1)) = some (p y)) →
  ∃ r,eachN (m_slices_IndexFunc_api_Item_api_Item_119x_b1 rF (a ++ b)) b.length (a.length : Int) d = some r ∧ (r = .inl d ↔ b.all p = true) ∧ (∀ e,r = .inl e → e = d) ∧ ∀ i,r = .inr i → 0 ≤ i.1
 | a,[],_=> ⟨.inl d,rfl,by simp,fun e h=> by cases h; rfl,fun i h=> by cases h⟩
 | a,c :: b,h=> by
  have hi : idx (a ++ c :: b) (a.length : Int) = some c:= by
   unfold idx
   rw [if_pos (by omega)]
   simp
  obtain ⟨r,h1,h2,h4,h3⟩:= indexM rF p d (a ++ [c]) b fun y hy=> h y (List.mem_cons_of_mem _ hy)
  have st : m_slices_IndexFunc_api_Item_api_Item_119x_b1 rF (a ++ c :: b) (a.length : Int) d = some (if p c = true then .inl d else .inr ((a.length : Int),d)):= by
   unfold m_slices_IndexFunc_api_Item_api_Item_119x_b1 m_der_may_1_r
   rw [hi]
   simp only [oZ0,h c List.mem_cons_self]
   cases p c <;> rfl
  show ∃ r,obind (m_slices_IndexFunc_api_Item_api_Item_119x_b1 rF (a ++ c :: b) (a.length : Int) d) _ = some r ∧ _
  rw [st]
  cases hc : p c with
  | false=> exact ⟨.inr ((a.length : Int),d),rfl,by simp [hc],fun e h=> (by cases h),fun i h=> (by cases h; exact Int.natCast_nonneg _)⟩
  | true =>
   refine ⟨r,?_,?_,h4,h3⟩
   ·show eachN (m_slices_IndexFunc_api_Item_api_Item_119x_b1 rF (a ++ c :: b)) b.length ((a.length : Int) + 1) d = some r
    rw [← h1]
    simp
   ·rw [h2]
    simp only [List.all_cons,hc,Bool.true_and]
theorem contains_eq (rF : g_api_Item → Int → Option Bool) (p : g_api_Item → Bool) (d : Int) (l : List g_api_Item) (h : ∀ y ∈ l,rF y (w64 (d - 1)) = some (p y)) :
  ∃ z,m_slices_ContainsFunc_api_Item_api_Item_119x_r rF l d = some (!(l.all p),z):= by
 obtain ⟨r,h1,h2,h4,h3⟩:= indexM rF p d [] l h
 have h1 : eachN (m_slices_IndexFunc_api_Item_api_Item_119x_b1 rF l) l.length 0 d = some r:= h1
 unfold m_slices_ContainsFunc_api_Item_api_Item_119x_r m_slices_IndexFunc_api_Item_api_Item_119x_r
 rw [h1]
 cases r with
 | inl u =>
  have:= h4 u rfl
  subst this
  rw [h2.1 rfl]
  exact ⟨_,rfl⟩
 | inr i =>
  have hp : l.all p = false:= by
   cases h : l.all p with
   | false=> rfl
   | true=> exact absurd (h2.2 h) (by simp)
  have hi:= h3 i rfl
  rw [hp]
  refine ⟨i.2,?_⟩
  show some (decide (i.1 ≥ 0),i.2) = _
  rw [decide_eq_true hi]; rfl
theorem may_eq : ∀ (d n : Nat) (x : g_api_Item),d < n → d ≤ 100 → r_der_may n x (d : Int) = some (mayB d x)
 | d,0,x,h,_=> by omega
 | 0,n + 1,x,_,_=> by
  show m_der_may_r (r_der_may n) x 0 = some false
  unfold m_der_may_r
  cases hk : knownB x.Tag with
  | false=> rw [(find_unknown hk).1]; rfl
  | true =>
   obtain ⟨k,e,_,_⟩:= find_known hk
   rw [e]; rfl
 | d + 1,n + 1,x,h,hd=> by
  have ih : ∀ y ∈ x.L,r_der_may n y (w64 (((d + 1 : Nat) : Int) - 1)) = some (mayB d y):= fun y _=> by
   rw [show w64 (((d + 1 : Nat) : Int) - 1) = (d : Int) from by rw [w64_id (by omega) (by omega)]; omega]
   exact may_eq d n y (by omega) (by omega)
  obtain ⟨z,hz⟩:= contains_eq (r_der_may n) (mayB d) ((d + 1 : Nat) : Int) x.L ih
  show m_der_may_r (r_der_may n) x ((d + 1 : Nat) : Int) = some (mayB (d + 1) x)
  unfold m_der_may_r mayB
  have e1 : decide (((d + 1 : Nat) : Int) < 1) = false:= by rw [decide_eq_false_iff_not]; omega
  have e2 : decide ((x.L.length : Int) > 0) = !x.L.isEmpty:= by
   cases x.L with
   | nil=> rfl
   | cons a l=> show decide _ = true; rw [decide_eq_true_eq,List.length_cons]; omega
  have e3 : (x.Tag != 48) = !(x.Tag == 48):= rfl
  rw [e1,e2,e3]
  cases hk : knownB x.Tag with
  | false =>
   rw [(find_unknown hk).1,(find_unknown hk).2]; rfl
  | true =>
   obtain ⟨k,e,_,hm⟩:= find_known hk
   rw [e]
   simp only [oZ0,Bool.not_true,Bool.or_false,Bool.not_false,gu_tt,hm,hz,Bool.not_not]
   cases kindB x.Tag x.B <;> cases x.Tag == 48 <;> cases x.L.isEmpty <;> rfl
theorem may8_eq (x : g_api_Item) : m_der_may x 8 = some (mayB 8 x):= may_eq 8 FUEL x (by have:= FUEL_big; omega) (by decide)
end Go.Proofs.YtlnbckkkapbdmaaGreatDoor
end
section
namespace Go.Proofs.YtlnbckkkapbdmaaGreatDoor
open Go Go.Gw Go.Ax
def lenB (n : Nat) : List UInt8:= if n < 128 then [toB (n : Int)] else if n < 256 then [129,toB (n : Int)] else [130,toB (shr64 (n : Int) 8),toB (n : Int)]
def putB : Nat → g_api_Item → List UInt8
 | 0,_=> []
 | d + 1,x=> toB x.Tag :: (lenB (x.B ++ x.L.flatMap (putB d)).length ++ (x.B ++ x.L.flatMap (putB d)))
def depB : Nat → g_api_Item → Prop
 | 0,_=> False
 | d + 1,x=> ∀ y ∈ x.L,depB d y
theorem dep_may : ∀ {d : Nat} {x : g_api_Item},mayB d x = true → depB d x
 | 0,x,h=> by cases h
 | d + 1,x,h=> by
  simp only [mayB,Bool.and_eq_true,List.all_eq_true] at h
  exact fun y hy=> dep_may (h.2 y hy)
theorem lenB_len (n : Nat) : 1 ≤ (lenB n).length ∧ (lenB n).length ≤ 3:= by
 unfold lenB
 split
 ·exact ⟨by simp,by simp⟩
 ·split
  ·exact ⟨by simp,by simp⟩
  ·exact ⟨by simp,by simp⟩
theorem putE : ∀ (d n : Nat) (x : g_api_Item) (b : List UInt8),d ≤ n → depB d x → b.length + (putB d x).length ≤ 100000000000000 → r_der_put n b x = some (b ++ putB d x)
 | 0,n,x,b,_,h,_=> h.elim
 | d + 1,0,x,b,h,_,_=> by omega
 | d + 1,n + 1,x,b,hn,hd,hb=> by
  have eP : putB (d + 1) x = toB x.Tag :: (lenB (x.B ++ x.L.flatMap (putB d)).length ++ (x.B ++ x.L.flatMap (putB d))):= rfl
  have go : ∀ (l : List g_api_Item) (i : Int) (s : List UInt8),(∀ y ∈ l,depB d y) → s.length + (l.flatMap (putB d)).length ≤ 100000000000000 → each0 (m_der_content_b2 (r_der_put n)) l i s = some (s ++ l.flatMap (putB d)):= by
   intro l
   induction l with
   | nil=> intro i s _ _; simp [each0]
   | cons y l ih =>
    intro i s h hs
    rw [List.flatMap_cons,List.length_append] at hs
    have e : m_der_content_b2 (r_der_put n) i y s = some (s ++ putB d y):= by
     unfold m_der_content_b2
     rw [putE d n y s (by omega) (h y List.mem_cons_self) (by omega)]
     rfl
    show obind (m_der_content_b2 (r_der_put n) i y s) _ = _
    rw [e]
    show each0 _ l (i + 1) (s ++ putB d y) = _
    rw [ih (i + 1) (s ++ putB d y) (fun z hz=> h z (List.mem_cons_of_mem _ hz)) (by rw [List.length_append]; omega),List.flatMap_cons,List.append_assoc]
  rw [eP] at hb ⊢
  simp only [List.length_cons,List.length_append] at hb
  have hc : m_der_content_r (r_der_put n) x = some (x.B ++ x.L.flatMap (putB d)):= by
   unfold m_der_content_r
   rw [clone_eq (by omega),oZ0,go x.L 0 x.B hd (by omega)]
   rfl
  show m_der_put_r (r_der_put n) b x = _
  unfold m_der_put_r
  rw [hc,oZ0,app_ok 1 (by simp only [List.length_cons,List.length_nil]; omega) (by simp only [List.length_cons,List.length_nil]; omega),oZ0]
  rw [← List.length_append] at hb
  have hL : (x.B ++ x.L.flatMap (putB d)).length = (x.B ++ x.L.flatMap (putB d)).length:= rfl
  generalize (x.B ++ x.L.flatMap (putB d)) = c at hb hL ⊢
  have hl:= lenB_len c.length
  have hm : ∀ z : List UInt8,z.length ≤ 3 → app 1 (b ++ [toB x.Tag]) z = some (b ++ [toB x.Tag] ++ z):= fun z hz=> app_ok 1 (by simp only [List.length_append,List.length_cons,List.length_nil]; omega) (by simp only [List.length_append,List.length_cons,List.length_nil]; omega)
  have fin : app 1 (b ++ [toB x.Tag] ++ lenB c.length) c = some (b ++ toB x.Tag :: (lenB c.length ++ c)):= by
   rw [app_ok 1 (by simp only [List.length_append,List.length_cons,List.length_nil]; omega) (by simp only [List.length_append,List.length_cons,List.length_nil]; omega)]
   simp
  have mid : (bnd (decide ((c.length : Int) < 128)) fun x4 =>
    if x4 = true then
     obind (app 1 (b ++ [toB x.Tag]) ([(toB (c.length : Int))] : List UInt8)) fun x5 =>
     some x5
    else
    bnd ((decide ((c.length : Int) < 256))) fun x6 =>
    if x6 = true then
     obind (app 1 (b ++ [toB x.Tag]) ([129,(toB (c.length : Int))] : List UInt8)) fun x7 =>
     some x7
    else
    obind (app 1 (b ++ [toB x.Tag]) ([130,(toB (shr64 (c.length : Int) 8)),(toB (c.length : Int))] : List UInt8)) fun x8 =>
    some x8) = some (b ++ [toB x.Tag] ++ lenB c.length):= by
   rw [hm [toB (c.length : Int)] (by simp),hm [129,toB (c.length : Int)] (by simp),hm [130,toB (shr64 (c.length : Int) 8),toB (c.length : Int)] (by simp)]
   simp only [bnd_eq',oZ0,decide_eq_true_eq]
   unfold lenB
   by_cases h1 : c.length < 128
   ·rw [if_pos h1,if_pos (by omega)]
   ·rw [if_neg h1,if_neg (by omega)]
    by_cases h2 : c.length < 256
    ·rw [if_pos h2,if_pos (by omega)]
    ·rw [if_neg h2,if_neg (by omega)]
  rw [mid]
  simp only [oZ0]
  rw [fin]
  rfl
theorem put8_eq {x : g_api_Item} (h : depB 8 x) (hs : (putB 8 x).length ≤ 100000000000000) : m_der_put [] x = some (putB 8 x):= by
 have:= putE 8 FUEL x [] (by have:= FUEL_big; omega) h (by simpa using hs)
 exact this
theorem Put_eq {x : g_api_Item} (hs : (putB 8 x).length ≤ 100000000000000) :
  m_der_Put x = some (if mayB 8 x = true then (if (putB 8 x).length ≤ 8192 then (putB 8 x,0) else ([],2)) else ([],1)):= by
 unfold m_der_Put
 rw [may8_eq]
 cases hm : mayB 8 x with
 | false=> rfl
 | true =>
  simp only [oZ0,Bool.not_true,Bool.false_eq_true,if_false,if_true]
  rw [put8_eq (dep_may hm) hs]
  simp only [oZ0,decide_eq_true_eq]
  by_cases h : (putB 8 x).length ≤ 8192
  ·rw [if_neg (by omega),if_pos h]
  ·rw [if_pos (by omega),if_neg h]
theorem flat_len {α : Type} (f : α → List UInt8) (k : Nat) : ∀ (l : List α),(∀ y ∈ l,(f y).length ≤ k) → (l.flatMap f).length ≤ l.length * k
 | [],_=> by simp
 | y :: l,h=> by
  have h1:= h y List.mem_cons_self
  have h2:= flat_len f k l fun z hz=> h z (List.mem_cons_of_mem _ hz)
  rw [List.flatMap_cons,List.length_append,List.length_cons,Nat.succ_mul]
  omega
theorem put_len (d : Nat) (x : g_api_Item) : (putB (d + 1) x).length ≤ 4 + x.B.length + (x.L.flatMap (putB d)).length:= by
 have:= lenB_len (x.B ++ x.L.flatMap (putB d)).length
 show (toB x.Tag :: (lenB (x.B ++ x.L.flatMap (putB d)).length ++ (x.B ++ x.L.flatMap (putB d)))).length ≤ _
 rw [List.length_cons,List.length_append,List.length_append] at *
 omega
theorem int_len (d : Nat) (n : Int) : (putB d (intI n)).length ≤ 12:= by
 cases d with
 | zero=> simp [putB]
 | succ d =>
  have h:= put_len d (intI n)
  have h1 : (intI n).B.length ≤ 8:= trim_len (be8 n)
  have h2 : (intI n).L = []:= rfl
  rw [h2] at h
  simp only [List.flatMap_nil,List.length_nil] at h
  omega
theorem textI_len (d : Nat) {s : ByteArray} (hs : s.size ≤ 64) : (putB d (textI s)).length ≤ 68:= by
 cases d with
 | zero=> simp [putB]
 | succ d =>
  have h:= put_len d (textI s)
  have h1 : (textI s).B.length = s.size:= size_list s
  have h2 : (textI s).L = []:= rfl
  rw [h2] at h
  simp only [List.flatMap_nil,List.length_nil] at h
  omega
theorem boolI_len (d : Nat) (v : Bool) : (putB d (boolI v)).length ≤ 5:= by
 cases d with
 | zero=> simp [putB]
 | succ d =>
  have h:= put_len d (boolI v)
  have h1 : (boolI v).B.length = 1:= rfl
  have h2 : (boolI v).L = []:= rfl
  rw [h2] at h
  simp only [List.flatMap_nil,List.length_nil] at h
  omega
theorem seqI_len (d : Nat) (l : List g_api_Item) (k : Nat) (hk : ∀ e y,y ∈ l → (putB e y).length ≤ k) : (putB d (seqI l)).length ≤ 4 + l.length * k:= by
 cases d with
 | zero=> simp [putB]
 | succ d =>
  have h:= put_len d (seqI l)
  have h1 : (seqI l).B.length = 0:= rfl
  have h3:= flat_len (putB d) k l fun y hy=> hk d y hy
  have h2 : (seqI l).L = l:= rfl
  rw [h2] at h
  omega
theorem textsI_len (d : Nat) {l : List ByteArray} (h : ∀ s ∈ l,s.size ≤ 64) (hn : l.length ≤ 8) : (putB d (textsI l)).length ≤ 1000:= by
 have:= seqI_len d (l.map textI) 68 fun e y hy=> by
  obtain ⟨s,hs,e2⟩:= List.mem_map.1 hy
  rw [← e2]
  exact textI_len e (h s hs)
 rw [List.length_map] at this
 unfold textsI
 omega
theorem mem2 {α : Type} {p : α → Prop} {a b : α} (ha : p a) (hb : p b) : ∀ y ∈ [a,b],p y:= by
 intro y hy
 simp only [List.mem_cons,List.not_mem_nil,or_false] at hy
 rcases hy with e | e <;> rw [e] <;> assumption
theorem preI_len (d : Nat) {c : g_api_Cert} (h : Sized c) : (putB d (preI c)).length ≤ 20000:= by
 have:= seqI_len d [intI c.Serial,textI c.Issuer,textI c.Subject,bigI c.Key,textsI c.Names,intI c.From,intI c.Until,boolI c.Ca,intI c.Depth,textsI c.Permit] 1000 fun e y hy=> by
  simp only [List.mem_cons,List.not_mem_nil,or_false] at hy
  rcases hy with q | q | q | q | q | q | q | q | q | q <;> rw [q]
  ·have:= int_len e c.Serial; omega
  ·have:= textI_len e h.issuer; omega
  ·have:= textI_len e h.subject; omega
  ·have:= int_len e (w64 (c.Key.toNat : Int)); unfold bigI; omega
  ·exact textsI_len e h.names h.few
  ·have:= int_len e c.From; omega
  ·have:= int_len e c.Until; omega
  ·have:= boolI_len e c.Ca; omega
  ·have:= int_len e c.Depth; omega
  ·exact textsI_len e h.permit h.fewP
 simp only [List.length_cons,List.length_nil] at this
 unfold preI
 omega
theorem promI_len (d : Nat) (p : g_api_Promise) : (putB d (promI p)).length ≤ 100:= by
 have:= seqI_len d [intI p.Log,intI p.At,bigI p.Leaf.1,bigI p.Leaf.2,bigI p.Sig.E,bigI p.Sig.S] 12 fun e y hy=> by
  simp only [List.mem_cons,List.not_mem_nil,or_false] at hy
  rcases hy with q | q | q | q | q | q <;> rw [q] <;> exact int_len e _
 simp only [List.length_cons,List.length_nil] at this
 unfold promI
 omega
theorem bodyI_len (d : Nat) {c : g_api_Cert} (h : Sized c) : (putB d (bodyI c)).length ≤ 50000:= by
 have:= seqI_len d [preI c,promsI c.Proms] 20000 fun e=> mem2 (p:= fun y=> (putB e y).length ≤ 20000) (preI_len e h) (by
  have:= seqI_len e (c.Proms.map promI) 100 fun f y hy=> by
   obtain ⟨p,hp,e2⟩:= List.mem_map.1 hy
   rw [← e2]
   exact promI_len f p
  rw [List.length_map] at this
  have:= h.proms
  unfold promsI
  omega)
 simp only [List.length_cons,List.length_nil] at this
 unfold bodyI
 omega
theorem wholeI_len (d : Nat) {c : g_api_Cert} (h : Sized c) : (putB d (wholeI c)).length ≤ 200000:= by
 have:= seqI_len d [bodyI c,seqI [bigI c.Sig.E,bigI c.Sig.S]] 50000 fun e=> mem2 (p:= fun y=> (putB e y).length ≤ 50000) (bodyI_len e h) (by
  have:= seqI_len e [bigI c.Sig.E,bigI c.Sig.S] 12 fun f=> mem2 (p:= fun y=> (putB f y).length ≤ 12) (int_len f _) (int_len f _)
  simp only [List.length_cons,List.length_nil] at this
  omega)
 simp only [List.length_cons,List.length_nil] at this
 unfold wholeI
 omega
def checkV (c : g_api_Cert) : Int:= if formB c = true then (if mayB 8 (wholeI c) = true ∧ (putB 8 (wholeI c)).length ≤ 2048 then 0 else 2) else 1
theorem chk_fin (b : List UInt8) (m : Bool) : (obind (some (if m = true then (if b.length ≤ 8192 then (b,(0 : Int)) else ([],2)) else ([],1))) fun x3=> if ((x3.2 != 0) || (decide ((x3.1.length : Int) > 2048))) = true then some (2 : Int) else some 0) = some (if m = true ∧ b.length ≤ 2048 then 0 else 2):= by
 cases m with
 | false=> rfl
 | true =>
  simp only [if_true,oZ0,true_and]
  by_cases h1 : b.length ≤ 8192
  ·rw [if_pos h1]
   by_cases h2 : b.length ≤ 2048
   ·rw [if_pos h2,if_neg]
    simp only [bne_self_eq_false,Bool.false_or,decide_eq_true_eq]
    omega
   ·rw [if_neg h2,if_pos]
    simp only [bne_self_eq_false,Bool.false_or,decide_eq_true_eq]
    omega
  ·rw [if_neg h1]
   have h2 : ¬ b.length ≤ 2048:= by omega
   rw [if_neg h2]
   rfl
theorem check_eq (c : g_api_Cert) : m_cert_Check c = some (checkV c):= by
 unfold m_cert_Check checkV
 rw [formed_eq]
 cases hf : formB c with
 | false=> rfl
 | true =>
  have hs:= (form_of hf).sized
  simp only [oZ0,Bool.not_true,Bool.false_eq_true,if_false,if_true]
  have hl:= wholeI_len 8 hs
  rw [wholeI_eq hs,oZ0,Put_eq (by omega),chk_fin]
end Go.Proofs.YtlnbckkkapbdmaaGreatDoor
end
section
namespace Go.Proofs.YtlnbckkkapbdmaaGreatDoor
open Go Go.Gw Go.Ax
theorem toB_nat (n : Int) : ((toB n).toNat : Int) = n % 256:= by
 have h : 0 ≤ n % 256:= Int.emod_nonneg _ (by decide)
 have h2 : n % 256 < 256:= Int.emod_lt_of_pos _ (by decide)
 unfold toB
 rw [UInt8.toNat_ofNat']
 omega
theorem shr64_8 (n : Int) : shr64 n 8 = n / 256:= by
 unfold shr64
 rw [Int.fdiv_eq_ediv_of_nonneg _ (by decide)]
 rfl
theorem flat_mem (p : g_api_Item → List UInt8) {y : g_api_Item} : ∀ {l : List g_api_Item},y ∈ l → (p y).length ≤ (l.flatMap p).length
 | z :: l,h=> by
  rw [List.flatMap_cons,List.length_append]
  rcases List.mem_cons.1 h with e | h
  ·rw [e]; omega
  ·have:= flat_mem p h; omega
end Go.Proofs.YtlnbckkkapbdmaaGreatDoor
end
section
namespace Go.Proofs.YtlnbckkkapbdmaaGreatDoor
open Go Go.Gw Go.Ax
def s8 (a : UInt8) : Int:= if a.toNat < 128 then (a.toNat : Int) else (a.toNat : Int) - 256
def vfold (s : Int) (l : List UInt8) : Int:= l.foldl (fun s b=> s * 256 + (b.toNat : Int)) s
def wfold (s : Int) (l : List UInt8) : Int:= l.foldl (fun s b=> w64 (s * 256 + (b.toNat : Int))) s
def sval : List UInt8 → Int
 | []=> 0
 | a :: l=> vfold (s8 a) l
def asintV : List UInt8 → Int
 | []=> 0
 | a :: l=> wfold (s8 a) l
theorem sign_byte (b : UInt8) : ((toB (-((shrB b 7).toNat : Int))).toNat : Int) = if b.toNat < 128 then 0 else 255:= by
 have h:= b.toNat_lt
 rw [toB_nat]
 have e : (shrB b 7).toNat = b.toNat / 128:= by
  unfold shrB
  rw [UInt8.toNat_ofNat']
  show b.toNat / 128 % 256 = _
  omega
 rw [e]
 split <;> omega
theorem least_not {a b : UInt8} {l : List UInt8} (hl : l.length ≤ 6) : leastB (a :: b :: l) = false ↔ (a.toNat : Int) = if b.toNat < 128 then 0 else 255:= by
 show (decide (((a :: b :: l).length : Int) ≤ 8) && ((a.toNat : Int) != ((toB (-((shrB b 7).toNat : Int))).toNat : Int))) = false ↔ _
 rw [sign_byte,decide_eq_true (by simp only [List.length_cons]; omega),Bool.true_and]
 simp only [bne_eq_false_iff_eq]
theorem sval_step {a b : UInt8} {l : List UInt8} (h : (a.toNat : Int) = if b.toNat < 128 then 0 else 255) : sval (a :: b :: l) = sval (b :: l):= by
 show vfold (s8 a * 256 + (b.toNat : Int)) l = vfold (s8 b) l
 have hb:= b.toNat_lt
 congr 1
 unfold s8
 by_cases h1 : b.toNat < 128
 ·rw [if_pos h1] at h ⊢
  rw [if_pos (by omega)]
  omega
 ·rw [if_neg h1] at h ⊢
  rw [if_neg (by omega)]
  omega
theorem shr_k (n : Int) (k : Nat) (hk : k ≤ 64) (hp : (0 : Int) ≤ 2 ^ k) : ((toB (shr64 n k)).toNat : Int) = n / 2 ^ k % 256:= by
 rw [toB_nat]
 unfold shr64
 rw [Nat.min_eq_left hk,Int.fdiv_eq_ediv_of_nonneg _ hp]
end Go.Proofs.YtlnbckkkapbdmaaGreatDoor
end
section
namespace Go.Proofs.YtlnbckkkapbdmaaGreatDoor
open Go Go.Gw Go.Ax
def sgn8 (a : UInt8) : UInt8:= if a.toNat < 128 then 0 else 255
theorem sgn8_nat (a : UInt8) : ((sgn8 a).toNat : Int) = if a.toNat < 128 then 0 else 255:= by
 unfold sgn8
 split <;> rfl
theorem trim_id : ∀ (l : List UInt8),leastB l = true → trim l = l
 | [],h=> by cases h
 | [a],_=> rfl
 | a :: b :: l,h=> by
  unfold trim
  rw [if_pos h]
theorem trim_sgn {a : UInt8} {l : List UInt8} (h : l.length ≤ 6) : trim (sgn8 a :: a :: l) = trim (a :: l):= by
 have e : leastB (sgn8 a :: a :: l) = false:= (least_not h).2 (sgn8_nat a)
 show (if leastB (sgn8 a :: a :: l) = true then _ else _) = _
 rw [e]
 rfl
theorem sval_sgn (a : UInt8) (l : List UInt8) : sval (sgn8 a :: a :: l) = sval (a :: l):= sval_step (sgn8_nat a)
theorem be8_eight (a7 a6 a5 a4 a3 a2 a1 a0 : UInt8) : be8 (sval [a7,a6,a5,a4,a3,a2,a1,a0]) = [a7,a6,a5,a4,a3,a2,a1,a0]:= by
 have h6:= a6.toNat_lt; have h5:= a5.toNat_lt; have h4:= a4.toNat_lt; have h3:= a3.toNat_lt; have h2:= a2.toNat_lt; have h1:= a1.toNat_lt; have h0:= a0.toNat_lt
 have h7:= a7.toNat_lt
 have hs : sval [a7,a6,a5,a4,a3,a2,a1,a0] = ((((((s8 a7 * 256 + (a6.toNat : Int)) * 256 + (a5.toNat : Int)) * 256 + (a4.toNat : Int)) * 256 + (a3.toNat : Int)) * 256 + (a2.toNat : Int)) * 256 + (a1.toNat : Int)) * 256 + (a0.toNat : Int):= rfl
 have hS : s8 a7 % 256 = (a7.toNat : Int):= by unfold s8; split <;> omega
 generalize s8 a7 = S at hs hS
 generalize sval [a7,a6,a5,a4,a3,a2,a1,a0] = n at hs
 have d1 : n / 256 = (((((S * 256 + (a6.toNat : Int)) * 256 + (a5.toNat : Int)) * 256 + (a4.toNat : Int)) * 256 + (a3.toNat : Int)) * 256 + (a2.toNat : Int)) * 256 + (a1.toNat : Int):= by omega
 have d2 : n / 256 / 256 = ((((S * 256 + (a6.toNat : Int)) * 256 + (a5.toNat : Int)) * 256 + (a4.toNat : Int)) * 256 + (a3.toNat : Int)) * 256 + (a2.toNat : Int):= by rw [d1]; omega
 have d3 : n / 256 / 256 / 256 = (((S * 256 + (a6.toNat : Int)) * 256 + (a5.toNat : Int)) * 256 + (a4.toNat : Int)) * 256 + (a3.toNat : Int):= by rw [d2]; omega
 have d4 : n / 256 / 256 / 256 / 256 = ((S * 256 + (a6.toNat : Int)) * 256 + (a5.toNat : Int)) * 256 + (a4.toNat : Int):= by rw [d3]; omega
 have d5 : n / 256 / 256 / 256 / 256 / 256 = (S * 256 + (a6.toNat : Int)) * 256 + (a5.toNat : Int):= by rw [d4]; omega
 have d6 : n / 256 / 256 / 256 / 256 / 256 / 256 = S * 256 + (a6.toNat : Int):= by rw [d5]; omega
 have d7 : n / 256 / 256 / 256 / 256 / 256 / 256 / 256 = S:= by rw [d6]; omega
 have q : ∀ (k : Nat) (x : UInt8),k ≤ 64 → n / 2 ^ k % 256 = (x.toNat : Int) → toB (shr64 n k) = x:= fun k x hk h=> by
  apply UInt8.toNat_inj.1
  have:= shr_k n k hk (by exact Int.le_of_lt (Int.pow_pos (by decide)))
  omega
 have p1 : n / 2 ^ 8 = n / 256:= rfl
 have p2 : n / 2 ^ 16 = n / 256 / 256:= by
  show n / 65536 = _
  omega
 have p3 : n / 2 ^ 24 = n / 256 / 256 / 256:= by
  show n / 16777216 = _
  omega
 have p4 : n / 2 ^ 32 = n / 256 / 256 / 256 / 256:= by
  show n / 4294967296 = _
  omega
 have p5 : n / 2 ^ 40 = n / 256 / 256 / 256 / 256 / 256:= by
  show n / 1099511627776 = _
  omega
 have p6 : n / 2 ^ 48 = n / 256 / 256 / 256 / 256 / 256 / 256:= by
  show n / 281474976710656 = _
  omega
 have p7 : n / 2 ^ 56 = n / 256 / 256 / 256 / 256 / 256 / 256 / 256:= by
  show n / 72057594037927936 = _
  omega
 unfold be8
 rw [q 56 a7 (by decide) (by rw [p7,d7]; exact hS),q 48 a6 (by decide) (by rw [p6,d6]; omega),q 40 a5 (by decide) (by rw [p5,d5]; omega),q 32 a4 (by decide) (by rw [p4,d4]; omega),q 24 a3 (by decide) (by rw [p3,d3]; omega),
  q 16 a2 (by decide) (by rw [p2,d2]; omega),q 8 a1 (by decide) (by rw [p1,d1]; omega),q 0 a0 (by decide) (by rw [Int.pow_zero,Int.ediv_one]; omega)]
theorem trim_be8 : ∀ (k : Nat) (a : UInt8) (l : List UInt8),(a :: l).length + k = 8 → trim (be8 (sval (a :: l))) = trim (a :: l)
 | 0,a,l,h=> by
  match l,h with
  | [a6,a5,a4,a3,a2,a1,a0],_=> rw [be8_eight]
 | k + 1,a,l,h=> by
  have h : l.length + 1 + (k + 1) = 8:= by simpa using h
  have ih:= trim_be8 k (sgn8 a) (a :: l) (by simp only [List.length_cons]; omega)
  rw [sval_sgn,trim_sgn (by omega)] at ih
  exact ih
theorem least_len {l : List UInt8} (h : leastB l = true) : 1 ≤ l.length ∧ l.length ≤ 8:= by
 match l,h with
 | [a],_=> exact ⟨by simp,by simp⟩
 | a :: b :: l,h =>
  have h : (decide (((a :: b :: l).length : Int) ≤ 8) && ((a.toNat : Int) != ((toB (-((shrB b 7).toNat : Int))).toNat : Int))) = true:= h
  simp only [Bool.and_eq_true,decide_eq_true_eq] at h
  exact ⟨by simp,by omega⟩
theorem least_of {l : List UInt8} (h : leastB l = true) : trim (be8 (sval l)) = l:= by
 have hl:= least_len h
 cases l with
 | nil=> cases h
 | cons a l =>
  rw [trim_be8 (8 - (a :: l).length) a l (by omega)]
  exact trim_id _ h
end Go.Proofs.YtlnbckkkapbdmaaGreatDoor
end
section
namespace Go.Proofs.YtlnbckkkapbdmaaGreatDoor
open Go Go.Gw Go.Ax
theorem get_at {s : ByteArray} {i : Nat} {b : UInt8} (h : s.data.toList[i]? = some b) : s.get! i = b:= by
 have h2 : s.data[i]? = some b:= by rw [← Array.getElem?_toList]; exact h
 show s.data[i]! = b
 rw [getElem!_def,h2]
theorem dec_lo {s : ByteArray} {i : Nat} {b : UInt8} (h : s.data.toList[i]? = some b) (hb : b.toNat < 128) : Utf8.decode s i = (b.toNat,1):= by
 unfold Utf8.decode
 simp only [Nat.add_zero,get_at h]
 rw [if_pos hb]
theorem dec_hi {s : ByteArray} {i : Nat} {b : UInt8} (h : s.data.toList[i]? = some b) (hb : ¬ b.toNat < 128) : 128 ≤ (Utf8.decode s i).1:= by
 unfold Utf8.decode
 simp only [Nat.add_zero,get_at h]
 rw [if_neg hb]
 have he : Utf8.runeError = 65533:= rfl
 split
 ·split
  ·assumption
  ·simp [he]
 ·split
  ·split
   ·rename_i h1
    simp only [Bool.and_eq_true,decide_eq_true_eq] at h1
    show 128 ≤ _
    omega
   ·simp [he]
  ·split
   ·split
    ·rename_i h1
     simp only [Bool.and_eq_true,decide_eq_true_eq] at h1
     show 128 ≤ _
     omega
    ·simp [he]
   ·simp [he]
def edgeB (c : UInt8) : Bool:= (decide (97 ≤ c.toNat) && decide (c.toNat ≤ 122)) || (decide (48 ≤ c.toNat) && decide (c.toNat ≤ 57))
def innB (c : UInt8) : Bool:= c.toNat == 45 || edgeB c
def tailB : List UInt8 → Bool
 | []=> true
 | [c]=> edgeB c
 | c :: d :: r=> innB c && tailB (d :: r)
def labB : List UInt8 → Bool
 | []=> false
 | [c]=> edgeB c
 | c :: d :: r=> (edgeB c || c.toNat == 95) && tailB (d :: r) && decide ((c :: d :: r).length ≤ 16)
theorem edge_rune (n : Nat) (c : UInt8) (h : n = c.toNat) : m_names_edge (n : Int) = some (edgeB c):= by
 subst h
 unfold m_names_edge edgeB
 rw [bnd_eq']
 congr 1
 have e : ∀ k : Nat,decide ((k : Int) ≤ (c.toNat : Int)) = decide (k ≤ c.toNat):= fun k=> by rw [decide_eq_decide]; omega
 have e2 : ∀ k : Nat,decide ((c.toNat : Int) ≤ (k : Int)) = decide (c.toNat ≤ k):= fun k=> by rw [decide_eq_decide]; omega
 rw [← e 97,← e2 122,← e 48,← e2 57]
 rfl
theorem edge_hi (n : Nat) (h : 128 ≤ n) : m_names_edge (n : Int) = some false:= by
 unfold m_names_edge
 rw [bnd_eq',decide_eq_false (show ¬ (n : Int) ≤ 122 from by omega),decide_eq_false (show ¬ (n : Int) ≤ 57 from by omega),Bool.and_false,Bool.and_false]
 rfl
theorem inner_rune (n : Nat) (c : UInt8) (h : n = c.toNat) : m_names_inner (n : Int) = some (innB c):= by
 unfold m_names_inner innB
 rw [edge_rune n c h,gu_b,oZ0]
 subst h
 have e : ((c.toNat : Int) == 45) = (c.toNat == 45):= by rw [Bool.eq_iff_iff,beq_iff_eq,beq_iff_eq]; omega
 rw [e]
 cases c.toNat == 45 <;> simp
theorem inner_hi (n : Nat) (h : 128 ≤ n) : m_names_inner (n : Int) = some false:= by
 unfold m_names_inner
 rw [edge_hi n h,gu_b,oZ0]
 have e : ((n : Int) == 45) = false:= by rw [beq_eq_false_iff_ne]; omega
 rw [e]; rfl
theorem hi_byte (c : UInt8) (h : ¬ c.toNat < 128) : edgeB c = false ∧ innB c = false ∧ (c.toNat == 95) = false:= by
 have e1 : edgeB c = false:= by
  unfold edgeB
  rw [decide_eq_false (show ¬ c.toNat ≤ 122 from by omega),decide_eq_false (show ¬ c.toNat ≤ 57 from by omega),Bool.and_false,Bool.and_false]; rfl
 have e2 : (c.toNat == 45) = false:= by rw [beq_eq_false_iff_ne]; omega
 refine ⟨e1,?_,by rw [beq_eq_false_iff_ne]; omega⟩
 unfold innB
 rw [e1,e2]; rfl
theorem label_step {s : ByteArray} {i : Nat} {c : UInt8} (hs : s.size ≤ 16) (h : s.data.toList[i]? = some c) :
  m_names_label_b2 s i = some (if (if i + 1 = s.size then edgeB c else if i = 0 then edgeB c || c.toNat == 95 else innB c) = true then .inl (i + 1) else .inr (.inr false)):= by
 have hi : i < s.size:= by
  have:= (List.getElem?_eq_some_iff.1 h).1
  rw [size_list] at this
  exact this
 have hw : w64 ((s.size : Int) - 1) = (s.size : Int) - 1:= w64_id (by omega) (by omega)
 unfold m_names_label_b2
 rw [if_pos hi,bnd_eq',hw]
 by_cases hb : c.toNat < 128
 ·rw [dec_lo h hb,edge_rune c.toNat c rfl,inner_rune c.toNat c rfl,gu_b,oZ0,bnd_eq',bnd_eq',gu_b,oZ0,bnd_eq',gu_b,oZ0]
  have e95 : ((c.toNat : Int) == 95) = (c.toNat == 95):= by rw [Bool.eq_iff_iff,beq_iff_eq,beq_iff_eq]; omega
  by_cases hl : i + 1 = s.size
  ·have el : ((i : Int) == (s.size : Int) - 1) = true:= by rw [beq_iff_eq]; omega
   rw [if_pos hl,el]
   cases edgeB c <;> rfl
  ·have el : ((i : Int) == (s.size : Int) - 1) = false:= by rw [beq_eq_false_iff_ne]; omega
   rw [if_neg hl,el]
   by_cases h0 : i = 0
   ·have e0 : ((i : Int) == 0) = true:= by rw [beq_iff_eq]; omega
    rw [if_pos h0,e0]
    show (if (true && ((true && edgeB c) || ((c.toNat : Int) == 95))) = true then _ else _) = _
    rw [e95]
    cases edgeB c <;> cases c.toNat == 95 <;> rfl
   ·have e0 : ((i : Int) == 0) = false:= by rw [beq_eq_false_iff_ne]; omega
    rw [if_neg h0,e0]
    cases innB c <;> rfl
 ·have hd:= dec_hi h hb
  generalize Utf8.decode s i = q at hd
  obtain ⟨n,k⟩:= q
  have hn : 128 ≤ n:= hd
  obtain ⟨b1,b2,b3⟩:= hi_byte c hb
  show (obind (gu _ (m_names_edge (n : Int))) _) = _
  rw [edge_hi n hn,gu_b,oZ0,bnd_eq',Bool.and_false,Bool.and_false,if_neg (by decide),bnd_eq']
  have e95 : ((n : Int) == 95) = false:= by rw [beq_eq_false_iff_ne]; omega
  by_cases hl : i + 1 = s.size
  ·have el : ((i : Int) == (s.size : Int) - 1) = true:= by rw [beq_iff_eq]; omega
   rw [if_pos hl,el,b1]
   rfl
  ·have el : ((i : Int) == (s.size : Int) - 1) = false:= by rw [beq_eq_false_iff_ne]; omega
   rw [if_neg hl,el,if_neg (by decide)]
   rw [gu_b,oZ0,bnd_eq']
   show (if (((i : Int) == 0) && ((((i : Int) == 0) && false) || ((n : Int) == 95))) = true then _ else obind (gu _ (m_names_inner (n : Int))) _) = _
   rw [inner_hi n hn,gu_b,oZ0,e95,Bool.and_false,Bool.or_false,Bool.and_false,if_neg (by decide)]
   by_cases h0 : i = 0
   ·have e0 : ((i : Int) == 0) = true:= by rw [beq_iff_eq]; omega
    rw [if_pos h0,e0,b1,b3]
    rfl
   ·have e0 : ((i : Int) == 0) = false:= by rw [beq_eq_false_iff_ne]; omega
    rw [if_neg h0,e0,b2]
    rfl
theorem label_end {s : ByteArray} {i : Nat} (h : ¬ i < s.size) : m_names_label_b2 s i = some (.inr (.inl i)):= by
 unfold m_names_label_b2
 rw [if_neg h]
theorem label_tail {s : ByteArray} (hs : s.size ≤ 16) : ∀ (r : List UInt8) (i n : Nat),1 ≤ i → s.data.toList.drop i = r → i ≤ s.size → r.length < n → ∃ z,iter (m_names_label_b2 s) n i = some (if tailB r = true then .inl z else .inr false)
 | r,i,0,_,_,_,h=> by omega
 | [],i,n + 1,_,h,hi,_=> by
  have hl : s.data.toList.length ≤ i:= List.drop_eq_nil_iff.1 h
  rw [size_list] at hl
  refine ⟨i,?_⟩
  show obind (m_names_label_b2 s i) _ = _
  rw [label_end (by omega)]
  rfl
 | c :: r,i,n + 1,h1,h,hi,hn=> by
  have hc : s.data.toList[i]? = some c:= by
   have : (s.data.toList.drop i)[0]? = some c:= by rw [h]; rfl
   simpa using this
  have hlt : i < s.size:= by
   have:= (List.getElem?_eq_some_iff.1 hc).1
   rw [size_list] at this; exact this
  have hr : s.data.toList.drop (i + 1) = r:= by rw [← List.drop_drop,h]; rfl
  have hlen : r.length = s.size - (i + 1):= by rw [← hr,List.length_drop,size_list]
  obtain ⟨z,ih⟩:= label_tail hs r (i + 1) n (by omega) hr (by omega) (by rw [List.length_cons] at hn; omega)
  refine ⟨z,?_⟩
  show obind (m_names_label_b2 s i) _ = _
  rw [label_step hs hc,if_neg (show ¬ i = 0 from by omega)]
  cases r with
  | nil =>
   rw [if_pos (show i + 1 = s.size from by rw [List.length_nil] at hlen; omega)]
   show _ = some (if edgeB c = true then _ else _)
   cases edgeB c with
   | false=> rfl
   | true=> rw [if_pos rfl,if_pos rfl]; exact ih
  | cons d r =>
   rw [if_neg (show ¬ i + 1 = s.size from by rw [List.length_cons] at hlen; omega)]
   show _ = some (if (innB c && tailB (d :: r)) = true then _ else _)
   cases innB c with
   | false=> rfl
   | true =>
    rw [if_pos rfl,Bool.true_and]
    exact ih
theorem label_eq (s : ByteArray) : m_names_label s = some (labB s.data.toList):= by
 unfold m_names_label
 cases hl : s.data.toList with
 | nil =>
  have : eqS s (⟨#[]⟩ : ByteArray) = true:= by unfold eqS; rw [hl]; rfl
  rw [this,Bool.true_or,if_pos rfl]
  rfl
 | cons c r =>
  have h0 : eqS s (⟨#[]⟩ : ByteArray) = false:= by unfold eqS; rw [hl]; rfl
  have hz : s.size = r.length + 1:= by rw [← size_list,hl]; rfl
  rw [h0,Bool.false_or]
  by_cases hs : s.size ≤ 16
  ·rw [decide_eq_false (show ¬ (s.size : Int) > 16 from by omega),if_neg (by decide)]
   have hc : s.data.toList[0]? = some c:= by rw [hl]; rfl
   have hd : s.data.toList.drop 1 = r:= by rw [hl]; rfl
   have e' : ∀ n,r.length < n → ∃ z,iter (m_names_label_b2 s) (n + 1) 0 = some (if labB (c :: r) = true then .inl z else .inr false):= by
    intro n hn
    obtain ⟨z,ht⟩:= label_tail hs r 1 n (by decide) hd (by omega) hn
    refine ⟨z,?_⟩
    show obind (m_names_label_b2 s 0) _ = _
    rw [label_step hs hc,if_pos rfl]
    cases r with
    | nil =>
     rw [if_pos (show 0 + 1 = s.size from by rw [hz]; rfl)]
     show _ = some (if edgeB c = true then _ else _)
     cases edgeB c with
     | false=> rfl
     | true=> rw [if_pos rfl,if_pos rfl]; exact ht
    | cons d r =>
     rw [if_neg (show ¬ 0 + 1 = s.size from by rw [hz,List.length_cons]; omega)]
     show _ = some (if ((edgeB c || c.toNat == 95) && tailB (d :: r) && decide ((c :: d :: r).length ≤ 16)) = true then _ else _)
     rw [decide_eq_true (show (c :: d :: r).length ≤ 16 from by rw [List.length_cons,← hz]; exact hs),Bool.and_true]
     cases edgeB c || c.toNat == 95 with
     | false=> rfl
     | true =>
      rw [if_pos rfl,Bool.true_and]
      exact ht
   obtain ⟨z,e⟩ : ∃ z,iter (m_names_label_b2 s) FUEL 0 = some (if labB (c :: r) = true then .inl z else .inr false):= e' 18446744073709551615 (by omega)
   rw [e,oZ0]
   cases labB (c :: r) <;> rfl
  ·rw [decide_eq_true (show (s.size : Int) > 16 from by omega),if_pos rfl]
   cases r with
   | nil=> rw [hz] at hs; simp at hs
   | cons d r =>
    show _ = some ((edgeB c || c.toNat == 95) && tailB (d :: r) && decide ((c :: d :: r).length ≤ 16))
    rw [decide_eq_false (show ¬ (c :: d :: r).length ≤ 16 from by rw [List.length_cons,← hz]; exact hs),Bool.and_false]
end Go.Proofs.YtlnbckkkapbdmaaGreatDoor
end
section
namespace Go.Proofs.YtlnbckkkapbdmaaGreatDoor
open Go Go.Gw Go.Ax
def splitD : List UInt8 → List (List UInt8)
 | []=> [[]]
 | c :: l=> if c = 46 then [] :: splitD l else match splitD l with | h :: t=> (c :: h) :: t | []=> [[c]]
theorem splitD_cons (c : UInt8) (l : List UInt8) : splitD (c :: l) = if c = 46 then [] :: splitD l else match splitD l with | h :: t=> (c :: h) :: t | []=> [[c]]:= rfl
theorem split_ne : ∀ l : List UInt8,splitD l ≠ []
 | []=> by simp [splitD]
 | c :: l=> by
  unfold splitD
  split
  ·simp
  ·split <;> simp
theorem split_cut : ∀ (p r : List UInt8),(46 : UInt8) ∉ p → splitD (p ++ 46 :: r) = p :: splitD r
 | [],r,_=> by simp [splitD]
 | c :: p,r,h=> by
  have hc : c ≠ 46:= fun e=> h (by rw [e]; exact List.mem_cons_self)
  have ih:= split_cut p r fun q=> h (List.mem_cons_of_mem _ q)
  show splitD (c :: (p ++ 46 :: r)) = _
  rw [splitD_cons,if_neg hc,ih]
theorem split_one : ∀ (p : List UInt8),(46 : UInt8) ∉ p → splitD p = [p]
 | [],_=> rfl
 | c :: p,h=> by
  have hc : c ≠ 46:= fun e=> h (by rw [e]; exact List.mem_cons_self)
  have ih:= split_one p fun q=> h (List.mem_cons_of_mem _ q)
  unfold splitD
  rw [if_neg hc,ih]
theorem split_count : ∀ (l : List UInt8),(splitD l).length = l.count 46 + 1
 | []=> rfl
 | c :: l=> by
  have ih:= split_count l
  unfold splitD
  by_cases hc : c = 46
  ·rw [if_pos hc,hc,List.count_cons_self,List.length_cons,ih]
  ·rw [if_neg hc,List.count_cons_of_ne hc]
   cases h : splitD l with
   | nil=> exact absurd h (split_ne l)
   | cons a t=> rw [h] at ih; simpa using ih
theorem ixb_cases : ∀ (l : List UInt8) (c : UInt8),(Lib.indexByte l c = -1 ∧ c ∉ l) ∨ ∃ p r,l = p ++ c :: r ∧ c ∉ p ∧ Lib.indexByte l c = (p.length : Int)
 | [],c=> .inl ⟨rfl,by simp⟩
 | b :: l,c=> by
  unfold Lib.indexByte
  cases hb : b == c with
  | true =>
   have e : b = c:= by simpa using hb
   exact .inr ⟨[],l,by rw [e]; rfl,by simp,rfl⟩
  | false =>
   have e : b ≠ c:= by simpa using hb
   rcases ixb_cases l c with ⟨h1,h2⟩ | ⟨p,r,h1,h2,h3⟩
   ·refine .inl ⟨by rw [h1]; rfl,?_⟩
    intro h
    rcases List.mem_cons.1 h with q | q
    ·exact e q.symm
    ·exact h2 q
   ·refine .inr ⟨b :: p,r,by rw [h1]; rfl,?_,?_⟩
    ·intro h
     rcases List.mem_cons.1 h with q | q
     ·exact e q.symm
     ·exact h2 q
    ·rw [h3]
     have : ((p.length : Int) == -1) = false:= by rw [beq_eq_false_iff_ne]; omega
     rw [if_neg (by decide),if_neg (by rw [this]; decide),List.length_cons]
     omega
theorem ext_list (s : ByteArray) (a b : Nat) : (s.extract a b).data.toList = (s.data.toList.take b).drop a:= by
 rw [ByteArray.data_extract,Array.toList_extract,List.extract_eq_take_drop,List.take_drop]
 by_cases h : a ≤ b
 ·rw [Nat.add_sub_cancel' h]
 ·rw [Nat.sub_eq_zero_of_le (by omega),Nat.add_zero]
  rw [List.drop_eq_nil_of_le (by rw [List.length_take]; omega),List.drop_eq_nil_of_le (by rw [List.length_take]; omega)]
def allB (l : List UInt8) : Bool:= (splitD l).all labB
theorem b5_eq (b : ByteArray) (s : Unit × Nat) : m_names_name_b5 b s = some ((),if labB b.data.toList = true then 0 else 1):= by
 unfold m_names_name_b5
 rw [label_eq,oZ0]
 cases labB b.data.toList <;> rfl
def cbk : (Unit × Nat) → ByteArray → Option (Bool × (Unit × Nat)):= fun (s : (Unit) × Nat) (b0 : ByteArray)=> if s.2 = 0 then obind (m_names_name_b5 b0 s) fun y=> some (y.2 == 0,y) else none
theorem cbk_eq (b : ByteArray) : cbk ((),0) b = some (labB b.data.toList,((),if labB b.data.toList = true then 0 else 1)):= by
 unfold cbk
 rw [if_pos rfl,b5_eq,oZ0]
 cases labB b.data.toList <;> rfl
theorem index_eq (s : ByteArray) (h : s.size ≤ 1000) : m_strings_Index s (⟨#[46]⟩ : ByteArray) = some (ixbS s 46):= by
 obtain ⟨x,hx,h1,h2⟩:= index_dot s
 unfold m_strings_Index m_internal_stringslite_Index m_internal_stringslite_IndexByte
 rw [bnd_eq']
 cases he : eqS (⟨#[46]⟩ : ByteArray) s with
 | true =>
  have e:= (eqS_iff.1 he)
  subst e
  rfl
 | false=> rfl
theorem split_loop : ∀ (m : Nat) (s : ByteArray) (n : Nat),s.size ≤ m → m < n → m ≤ 100 →
  ∃ z : ByteArray,iter (m_strings_splitSeq_1_b2 cbk (⟨#[46]⟩ : ByteArray) 0) n (s,((),0)) = some (if (splitD s.data.toList).dropLast.all labB = true then .inl (z,((),0)) else .inr ((⟨#[46]⟩ : ByteArray),z,0,((),1))) ∧
   ((splitD s.data.toList).dropLast.all labB = true → some z.data.toList = (splitD s.data.toList).getLast?)
 | m,s,0,_,h,_=> by omega
 | m,s,n + 1,hs,hn,hm=> by
  have hx : m_strings_Index s (⟨#[46]⟩ : ByteArray) = some (ixbS s 46):= index_eq s (by omega)
  show ∃ z,obind (m_strings_splitSeq_1_b2 cbk (⟨#[46]⟩ : ByteArray) 0 (s,((),0))) _ = _ ∧ _
  rcases ixb_cases s.data.toList 46 with ⟨h1,h2⟩ | ⟨p,r,h1,h2,h3⟩
  ·have e : m_strings_splitSeq_1_b2 cbk (⟨#[46]⟩ : ByteArray) 0 (s,((),0)) = some (.inr (.inl (s,((),0)))):= by
    unfold m_strings_splitSeq_1_b2
    show obind (m_strings_Index s (⟨#[46]⟩ : ByteArray)) _ = _
    rw [hx,oZ0,show ixbS s 46 = -1 from h1]
    rfl
   rw [e,split_one _ h2]
   exact ⟨s,rfl,fun _=> rfl⟩
  ·have hz : s.size = p.length + 1 + r.length:= by rw [← size_list,h1,List.length_append,List.length_cons]; omega
   have e1 : cutS s 0 (w64 ((p.length : Int) + 0)) = some (s.extract 0 p.length):= by
    rw [Int.add_zero,w64_id (by omega) (by omega),cutS_tot (by omega) (by omega) (by omega)]
    rfl
   have e2 : cutS s (w64 ((p.length : Int) + ((⟨#[46]⟩ : ByteArray).size : Int))) (s.size : Int) = some (s.extract (p.length + 1) s.size):= by
    have : ((⟨#[46]⟩ : ByteArray).size : Int) = 1:= rfl
    rw [this,w64_id (by omega) (by omega),cutS_tot (by omega) (by omega) (by omega)]
    rfl
   have l1 : (s.extract 0 p.length).data.toList = p:= by
    rw [ext_list,h1,List.take_left]; rfl
   have l2 : (s.extract (p.length + 1) s.size).data.toList = r:= by
    rw [ext_list,← size_list,List.take_length,h1]
    rw [← List.drop_drop,List.drop_left]; rfl
   have e : m_strings_splitSeq_1_b2 cbk (⟨#[46]⟩ : ByteArray) 0 (s,((),0)) = some (if labB p = true then .inl (s.extract (p.length + 1) s.size,((),0)) else .inr (.inr ((⟨#[46]⟩ : ByteArray),s,0,((),1)))):= by
    unfold m_strings_splitSeq_1_b2
    show obind (m_strings_Index s (⟨#[46]⟩ : ByteArray)) _ = _
    rw [hx,oZ0,show ixbS s 46 = (p.length : Int) from h3,if_neg (by rw [decide_eq_true_eq]; omega),e1,oZ0,cbk_eq,oZ0,l1]
    cases hlab : labB p with
    | false=> rfl
    | true =>
     rw [if_neg (by simp)]
     dsimp only
     rw [e2,oZ0]
     rfl
   rw [e,h1,split_cut p r h2]
   have hsz : (s.extract (p.length + 1) s.size).size = r.length:= by rw [← size_list,l2]
   obtain ⟨z,ih1,ih2⟩:= split_loop (m - 1) (s.extract (p.length + 1) s.size) n (by omega) (by omega) (by omega)
   rw [l2] at ih1 ih2
   have hd : (p :: splitD r).dropLast = p :: (splitD r).dropLast:= by
    cases hq : splitD r with
    | nil=> exact absurd hq (split_ne r)
    | cons a t=> rfl
   have hg : (p :: splitD r).getLast? = (splitD r).getLast?:= by
    cases hq : splitD r with
    | nil=> exact absurd hq (split_ne r)
    | cons a t=> rfl
   rw [hd,hg,List.all_cons]
   cases labB p with
   | false=> exact ⟨s,rfl,fun h=> by cases h⟩
   | true=> exact ⟨z,ih1,ih2⟩
theorem all_last {α : Type} (f : α → Bool) : ∀ (l : List α) (x : α),l.getLast? = some x → l.all f = (l.dropLast.all f && f x)
 | [],x,h=> by cases h
 | [a],x,h=> by cases h; simp
 | a :: b :: l,x,h=> by
  have ih:= all_last f (b :: l) x (by simpa using h)
  show (f a && (b :: l).all f) = ((f a && (b :: l).dropLast.all f) && f x)
  rw [ih,Bool.and_assoc]
def isB (l : List UInt8) (n k : Nat) : Bool:= decide (l.length ≤ k) && decide ((splitD l).length ≤ n) && allB l
theorem name_eq (s : ByteArray) (n k : Nat) (hk : k ≤ 100) : m_names_name s (n : Int) (k : Int) = some (isB s.data.toList n k):= by
 unfold m_names_name isB
 have hz:= size_list s
 by_cases h1 : s.size ≤ k
 ·rw [decide_eq_false (show ¬ (s.size : Int) > k from by omega),if_neg (by decide),decide_eq_true (show s.data.toList.length ≤ k from by omega)]
  have ec : m_strings_Count s (⟨#[46]⟩ : ByteArray) = some ((s.data.toList.count 46 : Nat) : Int):= rfl
  rw [ec,oZ0,oZ0,split_count]
  by_cases h2 : s.data.toList.count 46 + 1 ≤ n
  ·rw [decide_eq_false (show ¬ ((s.data.toList.count 46 : Nat) : Int) ≥ (n : Int) from by omega),if_neg (by decide),decide_eq_true h2]
   obtain ⟨z,e1,e2⟩:= split_loop 100 s FUEL (by omega) (by have:= FUEL_big; omega) (by decide)
   have es : m_strings_splitSeq_1 cbk (⟨#[46]⟩ : ByteArray) s 0 ((),0) = some ((⟨#[46]⟩ : ByteArray),z,0,((),if allB s.data.toList = true then 0 else 1)):= by
    unfold m_strings_splitSeq_1
    rw [if_neg (by decide),e1,oZ0]
    unfold allB
    cases hd : (splitD s.data.toList).dropLast.all labB with
    | true =>
     have hlast:= (e2 hd).symm
     rw [all_last labB _ _ hlast,hd,if_pos rfl]
     show obind (cbk ((),0) z) _ = _
     rw [cbk_eq,oZ0,Bool.true_and]
    | false =>
     have : (splitD s.data.toList).all labB = false:= by
      cases hl : (splitD s.data.toList).getLast? with
      | none=> exact absurd (List.getLast?_eq_none_iff.1 hl) (split_ne _)
      | some x=> rw [all_last labB _ x hl,hd]; rfl
     rw [this]
     rfl
   show obind (m_strings_splitSeq_1 cbk (⟨#[46]⟩ : ByteArray) s 0 ((),0)) _ = _
   rw [es,oZ0]
   cases allB s.data.toList <;> rfl
  ·rw [decide_eq_true (show ((s.data.toList.count 46 : Nat) : Int) ≥ (n : Int) from by omega),if_pos rfl,decide_eq_false h2]
   rfl
 ·rw [decide_eq_true (show (s.size : Int) > k from by omega),if_pos rfl,oZ0,if_pos rfl,decide_eq_false (show ¬ s.data.toList.length ≤ k from by omega)]
  rfl
theorem nameV_is (s : ByteArray) : nameV s = if isB s.data.toList 8 64 = true then 0 else 110:= by
 have e:= nameV_eq s
 have e2 : m_names_is s = some (isB s.data.toList 8 64):= by
  unfold m_names_is
  rw [show m_names_name s 8 64 = some (isB s.data.toList 8 64) from name_eq s 8 64 (by decide)]
  rfl
 unfold m_names_Check at e
 rw [e2,oZ0] at e
 cases h : isB s.data.toList 8 64 with
 | true=> rw [h] at e; exact (sI0 e).symm
 | false=> rw [h] at e; exact (sI0 e).symm
end Go.Proofs.YtlnbckkkapbdmaaGreatDoor
end
section
namespace Go.Proofs.YtlnbckkkapbdmaaGreatDoor
open Go Go.Gw Go.Ax
theorem word_eq (c : UInt8) : m_ref11_word c = some (edgeB c):= by
 unfold m_ref11_word edgeB
 rw [bnd_eq']
 congr 1
 have e : ∀ k : Nat,decide ((c.toNat : Int) ≥ (k : Int)) = decide (k ≤ c.toNat):= fun k=> by rw [decide_eq_decide]; omega
 have e2 : ∀ k : Nat,decide ((c.toNat : Int) ≤ (k : Int)) = decide (c.toNat ≤ k):= fun k=> by rw [decide_eq_decide]; omega
 rw [← e 97,← e2 122,← e 48,← e2 57]
 rfl
theorem tail_all : ∀ (r : List UInt8) (x : UInt8),r.getLast? = some x → tailB r = (edgeB x && r.all innB)
 | [],x,h=> by cases h
 | [a],x,h=> by
  cases h
  show edgeB a = (edgeB a && (innB a && true))
  unfold innB
  cases edgeB a <;> simp
 | a :: b :: r,x,h=> by
  have ih:= tail_all (b :: r) x (by simpa using h)
  show (innB a && tailB (b :: r)) = (edgeB x && (innB a && (b :: r).all innB))
  rw [ih]
  cases innB a <;> cases edgeB x <;> rfl
theorem idx_list {α : Type} {l : List α} {i : Nat} {x : α} (h : l[i]? = some x) : idx l (i : Int) = some x:= by
 unfold idx
 rw [if_pos (by omega)]
 exact h
theorem rlab_step {s : ByteArray} {i : Nat} {c : UInt8} (h : s.data.toList[i]? = some c) (hs : s.size ≤ 1000) : m_ref11_label_b1 s (i : Int) = some (if innB c = true then .inl ((i + 1 : Nat) : Int) else .inr (.inr false)):= by
 have hi : i < s.size:= by
  have:= (List.getElem?_eq_some_iff.1 h).1
  rw [size_list] at this
  exact this
 unfold m_ref11_label_b1
 rw [decide_eq_true (show (i : Int) < (s.size : Int) from by omega),if_pos rfl,idx_list h,oZ0,word_eq,oZ0]
 have hw : w64 ((i : Int) + 1) = ((i + 1 : Nat) : Int):= by rw [w64_id (by omega) (by omega)]; omega
 have e45 : ((c.toNat : Int) != 45) = !(c.toNat == 45):= by
  show (!((c.toNat : Int) == 45)) = _
  have : ((c.toNat : Int) == 45) = (c.toNat == 45):= by rw [Bool.eq_iff_iff,beq_iff_eq,beq_iff_eq]; omega
  rw [this]
 unfold innB
 cases he : edgeB c with
 | true =>
  rw [show gu (!true) (some c) = some default from rfl,oZ0,hw,Bool.or_true]
  rfl
 | false =>
  rw [show gu (!false) (some c) = some c from rfl,oZ0,e45,hw,Bool.or_false]
  cases c.toNat == 45 <;> rfl
theorem rlab_loop {s : ByteArray} (hs : s.size ≤ 1000) : ∀ (r : List UInt8) (i n : Nat),s.data.toList.drop i = r → r.length < n → iter (m_ref11_label_b1 s) n (i : Int) = some (if r.all innB = true then .inl () else .inr false)
 | r,i,0,_,h=> by omega
 | [],i,n + 1,h,_=> by
  have hl : s.data.toList.length ≤ i:= List.drop_eq_nil_iff.1 h
  rw [size_list] at hl
  have e : m_ref11_label_b1 s (i : Int) = some (.inr (.inl ())):= by
   unfold m_ref11_label_b1
   rw [decide_eq_false (show ¬ (i : Int) < (s.size : Int) from by omega)]
   rfl
  show obind (m_ref11_label_b1 s (i : Int)) _ = _
  rw [e]
  rfl
 | c :: r,i,n + 1,h,hn=> by
  have hc : s.data.toList[i]? = some c:= by
   have : (s.data.toList.drop i)[0]? = some c:= by rw [h]; rfl
   simpa using this
  have hr : s.data.toList.drop (i + 1) = r:= by rw [← List.drop_drop,h]; rfl
  have ih:= rlab_loop hs r (i + 1) n hr (by rw [List.length_cons] at hn; omega)
  show obind (m_ref11_label_b1 s (i : Int)) _ = _
  rw [rlab_step hc hs,List.all_cons]
  cases innB c with
  | false=> rfl
  | true=> rw [if_pos rfl,Bool.true_and]; exact ih
theorem rlabel_eq (s : ByteArray) (hs : s.size ≤ 1000) : m_ref11_label s = some (labB s.data.toList):= by
 have hz:= size_list s
 unfold m_ref11_label
 by_cases h1 : s.size < 1 ∨ s.size > 16
 ·have eb : (decide ((s.size : Int) < 1) || decide ((s.size : Int) > 16)) = true:= by
   rw [Bool.or_eq_true,decide_eq_true_eq,decide_eq_true_eq]; omega
  rw [eb]
  show some false = _
  cases hl : s.data.toList with
  | nil=> rfl
  | cons c r =>
   rw [hl,List.length_cons] at hz
   cases r with
   | nil=> rw [List.length_nil] at hz; omega
   | cons d r =>
    show some false = some ((edgeB c || c.toNat == 95) && tailB (d :: r) && decide ((c :: d :: r).length ≤ 16))
    rw [decide_eq_false (show ¬ (c :: d :: r).length ≤ 16 from by rw [List.length_cons]; omega),Bool.and_false]
 ·have eb : (decide ((s.size : Int) < 1) || decide ((s.size : Int) > 16)) = false:= by
   rw [Bool.or_eq_false_iff,decide_eq_false_iff_not,decide_eq_false_iff_not]; omega
  cases hl : s.data.toList with
  | nil=> rw [hl,List.length_nil] at hz; omega
  | cons c r =>
   obtain ⟨x,hx⟩ : ∃ x,(c :: r).getLast? = some x:= ⟨_,List.getLast?_cons⟩
   have hx2 : (c :: r)[s.size - 1]? = some x:= by
    rw [← hx,List.getLast?_eq_getElem?,← hl,hz]
   have hw : w64 ((s.size : Int) - 1) = ((s.size - 1 : Nat) : Int):= by rw [w64_id (by omega) (by omega)]; omega
   have ex : idx (c :: r) (w64 ((s.size : Int) - 1)) = some x:= by rw [hw]; exact idx_list hx2
   have hloop:= rlab_loop hs r 1 FUEL (by rw [hl]; rfl) (by
    have:= FUEL_big
    rw [hl,List.length_cons] at hz
    omega)
   have hloop : iter (m_ref11_label_b1 s) FUEL 1 = some (if r.all innB = true then .inl () else .inr false):= hloop
   rw [eb,ex,show idx (c :: r) 0 = some c from rfl,hloop]
   rw [show gu (!false) (some x) = some x from rfl,oZ0,show gu (!false) (m_ref11_word x) = m_ref11_word x from rfl,word_eq,oZ0]
   have e95 : ((c.toNat : Int) != 95) = !(c.toNat == 95):= by
    show (!((c.toNat : Int) == 95)) = _
    have : ((c.toNat : Int) == 95) = (c.toNat == 95):= by rw [Bool.eq_iff_iff,beq_iff_eq,beq_iff_eq]; omega
    rw [this]
   have hlab : labB (c :: r) = (edgeB x && (edgeB c || c.toNat == 95) && r.all innB):= by
    cases r with
    | nil =>
     have hxc : x = c:= by simpa using hx.symm
     rw [hxc]
     show edgeB c = _
     cases edgeB c <;> simp
    | cons d r =>
     have ht:= tail_all (d :: r) x (by simpa using hx)
     show ((edgeB c || c.toNat == 95) && tailB (d :: r) && decide ((c :: d :: r).length ≤ 16)) = _
     rw [hl,List.length_cons] at hz
     rw [ht,decide_eq_true (show (c :: d :: r).length ≤ 16 from by rw [List.length_cons]; omega),Bool.and_true]
     cases edgeB c || c.toNat == 95 <;> cases edgeB x <;> rfl
   rw [hlab]
   cases edgeB x with
   | false=> rfl
   | true =>
    rw [show gu (!((false || (!true)))) (some c) = some c from rfl,oZ0,word_eq,show gu (!((false || (!true)))) (some (edgeB c)) = some (edgeB c) from rfl,oZ0]
    cases edgeB c with
    | true =>
     show obind (gu false (some c)) _ = _
     rw [gu_ff,oZ0]
     cases r.all innB <;> rfl
    | false =>
     show obind (some c) (fun x5=> if ((false || !true) || (!false && ((x5.toNat : Int) != 95))) = true then some false else obind (some (if r.all innB = true then (.inl () : Unit ⊕ Bool) else .inr false)) _) = _
     rw [oZ0,e95]
     cases c.toNat == 95 with
     | false=> rfl
     | true=> cases r.all innB <;> rfl
end Go.Proofs.YtlnbckkkapbdmaaGreatDoor
end
section
namespace Go.Proofs.YtlnbckkkapbdmaaGreatDoor
open Go Go.Gw Go.Ax
def toL (s : ByteArray) : List UInt8:= s.data.toList
theorem app_okN {α : Type} (b : Nat) {xs ys : List α} (h : (xs.length + ys.length) * b ≤ 140737488355328) (h1 : xs.length + ys.length ≤ 140737488355328) : app b xs ys = some (xs ++ ys):= by unfold app; rw [if_pos ⟨h,h1⟩]
theorem drop_two {α : Type} (l : List α) {f i : Nat} (h : f ≤ i) : l.drop f = (l.take i).drop f ++ l.drop i:= by
 have h0 : l = l.take i ++ l.drop i:= (List.take_append_drop i l).symm
 by_cases hi : i ≤ l.length
 ·conv=> lhs; rw [h0]
  rw [List.drop_append_of_le_length (by rw [List.length_take]; omega)]
 ·rw [List.take_of_length_le (by omega),List.drop_eq_nil_of_le (show l.length ≤ i by omega),List.append_nil]
theorem take_more {α : Type} {l : List α} {i f : Nat} {c : α} (h : l[i]? = some c) (hf : f ≤ i) : (l.take (i + 1)).drop f = (l.take i).drop f ++ [c]:= by
 rw [List.take_add_one,h]
 have hl : i < l.length:= (List.getElem?_eq_some_iff.1 h).1
 rw [List.drop_append_of_le_length (by rw [List.length_take]; omega)]
 rfl
theorem cut_loop {s : ByteArray} (hs : s.size ≤ 1000) : ∀ (r : List UInt8) (i f n : Nat) (out : List ByteArray),(toL s).drop i = r → r.length < n → f ≤ i → i ≤ s.size → out.length ≤ i → (46 : UInt8) ∉ ((toL s).take i).drop f →
  ∃ (o : List ByteArray) (g : Nat),iter (m_ref11_cut_b1 s) n (out,(f : Int),(i : Int)) = some (o,(g : Int)) ∧ g ≤ s.size ∧ o.length ≤ s.size ∧ o.map toL ++ [(toL s).drop g] = out.map toL ++ splitD ((toL s).drop f)
 | r,i,f,0,_,_,h,_,_,_,_=> by omega
 | [],i,f,n + 1,out,h,_,hf,hi,ho,hp=> by
  have hl : (toL s).length ≤ i:= List.drop_eq_nil_iff.1 h
  have hz : (toL s).length = s.size:= size_list s
  have e : m_ref11_cut_b1 s (out,(f : Int),(i : Int)) = some (.inr (out,(f : Int))):= by
   unfold m_ref11_cut_b1
   show (if decide ((i : Int) < (s.size : Int)) = true then _ else _) = _
   rw [decide_eq_false (show ¬ (i : Int) < (s.size : Int) from by omega)]
   rfl
  refine ⟨out,f,?_,by omega,by omega,?_⟩
  ·show obind (m_ref11_cut_b1 s (out,(f : Int),(i : Int))) _ = _
   rw [e]
   rfl
  ·rw [List.take_of_length_le (by omega)] at hp
   rw [split_one _ hp]
 | c :: r,i,f,n + 1,out,h,hn,hf,hi,ho,hp=> by
  have hc : (toL s)[i]? = some c:= by
   have : ((toL s).drop i)[0]? = some c:= by rw [h]; rfl
   simpa using this
  have hz : (toL s).length = s.size:= size_list s
  have hlt : i < s.size:= by
   have:= (List.getElem?_eq_some_iff.1 hc).1
   omega
  have hr : (toL s).drop (i + 1) = r:= by rw [← List.drop_drop,h]; rfl
  have hw : w64 ((i : Int) + 1) = ((i + 1 : Nat) : Int):= by rw [w64_id (by omega) (by omega)]; omega
  have hi2 : idx s.data.toList (i : Int) = some c:= idx_list hc
  by_cases h46 : c = 46
  ·have e46 : ((c.toNat : Int) == 46) = true:= by rw [h46]; rfl
   have ep : cutS s (f : Int) (i : Int) = some (s.extract f i):= by
    rw [cutS_tot (by omega) (by omega) (by omega)]; rfl
   have e : m_ref11_cut_b1 s (out,(f : Int),(i : Int)) = some (.inl (out ++ [s.extract f i],((i + 1 : Nat) : Int),((i + 1 : Nat) : Int))):= by
    unfold m_ref11_cut_b1
    show (if decide ((i : Int) < (s.size : Int)) = true then _ else _) = _
    rw [decide_eq_true (show (i : Int) < (s.size : Int) from by omega),if_pos rfl]
    show obind (obind (idx s.data.toList (i : Int)) _) _ = _
    rw [hi2,oZ0,e46,if_pos rfl]
    show obind (obind (cutS s (f : Int) (i : Int)) _) _ = _
    rw [ep,oZ0]
    show obind (obind (app 16 out [s.extract f i]) _) _ = _
    rw [app_okN 16 (by show (out.length + 1) * 16 ≤ _; omega) (by show out.length + 1 ≤ _; omega),oZ0,oZ0,hw]
   obtain ⟨o,g,q1,q2,q3,q4⟩:= cut_loop hs r (i + 1) (i + 1) n (out ++ [s.extract f i]) hr (by rw [List.length_cons] at hn; omega) (Nat.le_refl _) (by omega) (by rw [List.length_append]; show out.length + 1 ≤ _; omega) (by
    rw [List.drop_eq_nil_of_le (by rw [List.length_take]; omega)]; simp)
   refine ⟨o,g,?_,q2,q3,?_⟩
   ·show obind (m_ref11_cut_b1 s (out,(f : Int),(i : Int))) _ = _
    rw [e]
    exact q1
   ·rw [q4,drop_two (toL s) hf,h,h46,split_cut _ _ hp,hr,List.map_append,List.append_assoc]
    show _ ++ ([toL (s.extract f i)] ++ _) = _
    rw [show toL (s.extract f i) = ((toL s).take i).drop f from ext_list s f i]
    rfl
  ·have e46 : ((c.toNat : Int) == 46) = false:= by
    rw [beq_eq_false_iff_ne]
    intro q
    exact h46 (UInt8.toNat_inj.1 (by show c.toNat = 46; omega))
   have e : m_ref11_cut_b1 s (out,(f : Int),(i : Int)) = some (.inl (out,(f : Int),((i + 1 : Nat) : Int))):= by
    unfold m_ref11_cut_b1
    show (if decide ((i : Int) < (s.size : Int)) = true then _ else _) = _
    rw [decide_eq_true (show (i : Int) < (s.size : Int) from by omega),if_pos rfl]
    show obind (obind (idx s.data.toList (i : Int)) _) _ = _
    rw [hi2,oZ0,e46,if_neg (by decide),oZ0,hw]
   obtain ⟨o,g,q1,q2,q3,q4⟩:= cut_loop hs r (i + 1) f n out hr (by rw [List.length_cons] at hn; omega) (by omega) (by omega) (by omega) (by
    rw [take_more hc hf]
    intro q
    rcases List.mem_append.1 q with q | q
    ·exact hp q
    ·exact h46 (List.mem_singleton.1 q).symm)
   refine ⟨o,g,?_,q2,q3,q4⟩
   show obind (m_ref11_cut_b1 s (out,(f : Int),(i : Int))) _ = _
   rw [e]
   exact q1
theorem cut11_eq {s : ByteArray} (hs : s.size ≤ 1000) : ∃ l,m_ref11_cut s = some l ∧ l.map toL = splitD (toL s):= by
 have hz : (toL s).length = s.size:= size_list s
 obtain ⟨o,g,h1,h2,h3,h4⟩:= cut_loop hs (toL s) 0 0 FUEL [] rfl (by have:= FUEL_big; omega) (Nat.le_refl _) (Nat.zero_le _) (Nat.zero_le _) (by simp)
 have h1 : iter (m_ref11_cut_b1 s) FUEL ([],0,0) = some (o,(g : Int)):= h1
 unfold m_ref11_cut
 rw [h1,oZ0,oZ0,cutS_tot (by omega) (by show (g : Int) ≤ _; omega) (by omega),oZ0,app_okN 16 (by show (o.length + 1) * 16 ≤ _; omega) (by show o.length + 1 ≤ _; omega),oZ0]
 refine ⟨_,rfl,?_⟩
 rw [List.map_append]
 show o.map toL ++ [toL (s.extract g s.size)] = _
 rw [show toL (s.extract g s.size) = (toL s).drop g from by rw [show toL (s.extract g s.size) = ((toL s).take s.size).drop g from ext_list s g s.size,← hz,List.take_length],h4]
 rfl
theorem name_loop : ∀ (r p : List ByteArray) (n : Nat),r.length < n → p.length + r.length ≤ 10000 → (∀ x ∈ r,x.size ≤ 1000) → iter (m_ref11_Name_b1 (p ++ r)) n (p.length : Int) = some (if r.all (fun x=> labB (toL x)) = true then .inl () else .inr false)
 | r,p,0,h,_,_=> by omega
 | [],p,n + 1,_,_,_=> by
  have e : m_ref11_Name_b1 (p ++ []) (p.length : Int) = some (.inr (.inl ())):= by
   unfold m_ref11_Name_b1
   rw [decide_eq_false (by rw [List.append_nil]; omega)]
   rfl
  show obind (m_ref11_Name_b1 (p ++ []) (p.length : Int)) _ = _
  rw [e]; rfl
 | x :: r,p,n + 1,h,hp,hx=> by
  rw [List.length_cons] at h hp
  have ih:= name_loop r (p ++ [x]) n (by omega) (by rw [List.length_append]; show p.length + 1 + _ ≤ _; omega) fun y hy=> hx y (List.mem_cons_of_mem _ hy)
  have ei : idx (p ++ x :: r) (p.length : Int) = some x:= idx_list (by simp)
  have e : m_ref11_Name_b1 (p ++ x :: r) (p.length : Int) = some (if labB (toL x) = true then .inl ((p.length + 1 : Nat) : Int) else .inr (.inr false)):= by
   unfold m_ref11_Name_b1
   rw [decide_eq_true (show (p.length : Int) < ((p ++ x :: r).length : Int) from by rw [List.length_append,List.length_cons]; omega),if_pos rfl,ei,oZ0,rlabel_eq x (hx x List.mem_cons_self),oZ0]
   have hw : w64 ((p.length : Int) + 1) = ((p.length + 1 : Nat) : Int):= by rw [w64_id (by omega) (by omega)]; omega
   rw [hw]
   show (if (!labB (toL x)) = true then _ else _) = _
   cases labB (toL x) <;> rfl
  show obind (m_ref11_Name_b1 (p ++ x :: r) (p.length : Int)) _ = _
  rw [e,List.all_cons]
  cases labB (toL x) with
  | false=> rfl
  | true =>
   rw [if_pos rfl,Bool.true_and]
   show iter (m_ref11_Name_b1 (p ++ x :: r)) n ((p.length + 1 : Nat) : Int) = _
   rw [← ih]
   simp
theorem split_size : ∀ (l x : List UInt8),x ∈ splitD l → x.length ≤ l.length
 | [],x,h=> by simp [splitD] at h; rw [h]; simp
 | c :: l,x,h=> by
  rw [splitD_cons] at h
  by_cases hc : c = 46
  ·rw [if_pos hc] at h
   rcases List.mem_cons.1 h with q | q
   ·rw [q]; simp
   ·have:= split_size l x q; rw [List.length_cons]; omega
  ·rw [if_neg hc] at h
   cases hs : splitD l with
   | nil=> exact absurd hs (split_ne l)
   | cons a t =>
    rw [hs] at h
    rcases List.mem_cons.1 h with q | q
    ·have:= split_size l a (by rw [hs]; exact List.mem_cons_self)
     rw [q,List.length_cons,List.length_cons]; omega
    ·have:= split_size l x (by rw [hs]; exact List.mem_cons_of_mem _ q)
     rw [List.length_cons]; omega
theorem Name11_eq {s : ByteArray} (hs : s.size ≤ 1000) : m_ref11_Name s = some (isB (toL s) 8 64):= by
 have hz : (toL s).length = s.size:= size_list s
 unfold m_ref11_Name isB
 by_cases h1 : s.size ≤ 64
 ·rw [decide_eq_false (show ¬ (s.size : Int) > 64 from by omega),if_neg (by decide),decide_eq_true (show (toL s).length ≤ 64 from by omega)]
  obtain ⟨l,e,hl⟩:= cut11_eq hs
  have hsz : ∀ x ∈ l,x.size ≤ 1000:= fun x hx=> by
   have h2:= split_size (toL s) (toL x) (by rw [← hl]; exact List.mem_map_of_mem hx)
   have h3 : (toL x).length = x.size:= size_list x
   omega
  have hlen : l.length = (splitD (toL s)).length:= by rw [← hl,List.length_map]
  have hcnt:= split_count (toL s)
  have hc2 : (toL s).count 46 ≤ (toL s).length:= List.count_le_length
  have hloop:= name_loop l [] FUEL (by have:= FUEL_big; omega) (by simp only [List.length_nil]; omega) hsz
  have hloop : iter (m_ref11_Name_b1 l) FUEL 0 = some (if l.all (fun x=> labB (toL x)) = true then .inl () else .inr false):= hloop
  rw [e,oZ0,hloop]
  have ha : l.all (fun x=> labB (toL x)) = allB (toL s):= by
   unfold allB
   rw [← hl,List.all_map]
   rfl
  rw [ha]
  have hd : decide ((l.length : Int) ≤ 8) = decide ((splitD (toL s)).length ≤ 8):= by rw [decide_eq_decide,hlen]; omega
  cases allB (toL s) with
  | false=> rw [Bool.and_false]; rfl
  | true =>
   show some (decide ((l.length : Int) ≤ 8)) = _
   rw [hd,Bool.and_true,Bool.true_and]
 ·rw [decide_eq_true (show (s.size : Int) > 64 from by omega),if_pos rfl,decide_eq_false (show ¬ (toL s).length ≤ 64 from by omega)]
  rfl
end Go.Proofs.YtlnbckkkapbdmaaGreatDoor
end
section
namespace Go.Proofs.YtlnbckkkapbdmaaGreatDoor
open Go Go.Gw Go.Ax
def starB : List UInt8 → Bool
 | a :: b :: r=> a == 42 && b == 46 && isB r 7 62
 | _=> false
theorem isB_nil (n k : Nat) : isB [] n k = false:= by
 unfold isB allB
 simp [splitD,labB]
theorem pat_eq (s : ByteArray) : m_names_Pattern s = some (if (isB (toL s) 8 64 || starB (toL s)) = true then 0 else 110):= by
 have hz : (toL s).length = s.size:= size_list s
 unfold m_names_Pattern m_names_pattern
 have e1 : m_names_is s = some (isB (toL s) 8 64):= by
  unfold m_names_is
  rw [show m_names_name s 8 64 = some (isB (toL s) 8 64) from name_eq s 8 64 (by decide)]
  rfl
 rw [e1,oZ0]
 cases h1 : isB (toL s) 8 64 with
 | true=> rfl
 | false =>
  rw [if_neg (by decide),Bool.false_or]
  unfold m_strings_CutPrefix m_internal_stringslite_CutPrefix m_internal_stringslite_HasPrefix
  have e2 : (((⟨#[42,46]⟩ : ByteArray).size : Nat) : Int) = 2:= rfl
  rw [e2]
  match hl : toL s with
  | [] =>
   rw [hl,List.length_nil] at hz
   rw [decide_eq_false (show ¬ (s.size : Int) ≥ 2 from by omega)]
   rfl
  | [a] =>
   rw [hl,List.length_cons,List.length_nil] at hz
   rw [decide_eq_false (show ¬ (s.size : Int) ≥ 2 from by omega)]
   rfl
  | a :: b :: r =>
   rw [hl,List.length_cons,List.length_cons] at hz
   have ec : cutS s 0 2 = some (s.extract 0 2):= cutS_tot (by omega) (by omega) (by omega)
   have el : (s.extract 0 2).data.toList = [a,b]:= by
    rw [ext_list]
    show ((toL s).take 2).drop 0 = _
    rw [hl]; rfl
   have ee : eqS (s.extract 0 2) (⟨#[42,46]⟩ : ByteArray) = (a == 42 && b == 46):= by
    unfold eqS
    rw [el,Bool.eq_iff_iff]
    simp
   rw [decide_eq_true (show (s.size : Int) ≥ 2 from by omega),gu_tt,ec,oZ0,bnd_eq',ee,oZ0]
   show _ = some (if (a == 42 && b == 46 && isB r 7 62) = true then 0 else 110)
   cases a == 42 && b == 46 with
   | false=> rfl
   | true =>
    have ec2 : cutS s 2 (s.size : Int) = some (s.extract 2 s.size):= by
     rw [cutS_tot (by omega) (by omega) (by omega)]; rfl
    have el2 : (s.extract 2 s.size).data.toList = r:= by
     rw [ext_list]
     show ((toL s).take s.size).drop 2 = _
     rw [List.take_of_length_le (by rw [hl,List.length_cons,List.length_cons]; omega),hl]; rfl
    rw [show (true && true) = true from rfl,if_neg (by decide),ec2,oZ0,oZ0,oZ0]
    have en:= name_eq (s.extract 2 s.size) 7 62 (by decide)
    rw [el2] at en
    have en : m_names_name (s.extract 2 s.size) 7 62 = some (isB r 7 62):= en
    show obind (obind (gu true (m_names_name (s.extract 2 s.size) 7 62)) _) _ = _
    rw [gu_tt,en,oZ0,oZ0]
    show obind (m_names_told (true && isB r 7 62)) _ = _
    cases isB r 7 62 <;> rfl
theorem patV_is (s : ByteArray) : patV s = if (isB (toL s) 8 64 || starB (toL s)) = true then 0 else 110:= by
 have e:= patV_eq s
 rw [pat_eq s] at e
 exact (sI0 e).symm
theorem Star_eq {s : ByteArray} (hs : s.size ≤ 1000) : ∃ t,m_ref11_Star s = some (t,starB (toL s)):= by
 have hz : (toL s).length = s.size:= size_list s
 unfold m_ref11_Star
 by_cases h1 : s.size < 3 ∨ s.size > 64
 ·have eb : (decide ((s.size : Int) < 3) || decide ((s.size : Int) > 64)) = true:= by
   rw [Bool.or_eq_true,decide_eq_true_eq,decide_eq_true_eq]; omega
  rw [eb]
  have e : starB (toL s) = false:= by
   match hl : toL s with
   | []=> rfl
   | [a]=> rfl
   | [a,b]=> show (a == 42 && b == 46 && isB [] 7 62) = false; rw [isB_nil,Bool.and_false]
   | a :: b :: c :: r =>
    rw [hl] at hz
    simp only [List.length_cons] at hz
    show (a == 42 && b == 46 && isB (c :: r) 7 62) = false
    unfold isB
    rw [decide_eq_false (show ¬ (c :: r).length ≤ 62 from by rw [List.length_cons]; omega),Bool.false_and,Bool.false_and,Bool.and_false]
  rw [e]
  exact ⟨(⟨#[]⟩ : ByteArray),rfl⟩
 ·have eb : (decide ((s.size : Int) < 3) || decide ((s.size : Int) > 64)) = false:= by
   rw [Bool.or_eq_false_iff,decide_eq_false_iff_not,decide_eq_false_iff_not]; omega
  rw [eb]
  match hl : toL s with
  | []=> rw [hl,List.length_nil] at hz; omega
  | [a]=> rw [hl,List.length_cons,List.length_nil] at hz; omega
  | a :: b :: r =>
   rw [hl,List.length_cons,List.length_cons] at hz
   have ha : idx s.data.toList 0 = some a:= by rw [show s.data.toList = a :: b :: r from hl]; rfl
   have hb : idx s.data.toList 1 = some b:= by rw [show s.data.toList = a :: b :: r from hl]; rfl
   have ec2 : cutS s 2 (s.size : Int) = some (s.extract 2 s.size):= by
    rw [cutS_tot (by omega) (by omega) (by omega)]; rfl
   have el2 : toL (s.extract 2 s.size) = r:= by
    rw [show toL (s.extract 2 s.size) = ((toL s).take s.size).drop 2 from ext_list s 2 s.size,List.take_of_length_le (by rw [hl,List.length_cons,List.length_cons]; omega),hl]; rfl
   have hz2 : (s.extract 2 s.size).size = r.length:= by rw [← size_list,← el2]; rfl
   have en:= Name11_eq (s:= s.extract 2 s.size) (by omega)
   rw [el2] at en
   obtain ⟨l,e5,h5⟩:= cut11_eq (s:= s.extract 2 s.size) (by omega)
   rw [el2] at h5
   have hlen : l.length = (splitD r).length:= by rw [← h5,List.length_map]
   have e42 : ((a.toNat : Int) != 42) = !(a == 42):= by
    show (!((a.toNat : Int) == 42)) = _
    have : ((a.toNat : Int) == 42) = (a == 42):= by
     rw [Bool.eq_iff_iff,beq_iff_eq,beq_iff_eq,← UInt8.toNat_inj]
     show _ ↔ a.toNat = 42
     omega
    rw [this]
   have e46 : ((b.toNat : Int) != 46) = !(b == 46):= by
    show (!((b.toNat : Int) == 46)) = _
    have : ((b.toNat : Int) == 46) = (b == 46):= by
     rw [Bool.eq_iff_iff,beq_iff_eq,beq_iff_eq,← UInt8.toNat_inj]
     show _ ↔ b.toNat = 46
     omega
    rw [this]
   rw [ha,hb,ec2]
   rw [show gu (!false) (some a) = some a from rfl,oZ0,e42]
   have hst : starB (a :: b :: r) = (a == 42 && b == 46 && isB r 7 62):= rfl
   rw [hst]
   cases a == 42 with
   | false=> exact ⟨_,rfl⟩
   | true =>
    rw [show gu (!(false || !true)) (some b) = some b from rfl,oZ0,e46]
    cases b == 46 with
    | false=> exact ⟨_,rfl⟩
    | true =>
     rw [show gu (!((false || !true) || !true)) (some (s.extract 2 s.size)) = some (s.extract 2 s.size) from rfl,oZ0,en,show gu (!((false || !true) || !true)) (some (isB r 8 64)) = some (isB r 8 64) from rfl,oZ0]
     have hr : r.length ≤ 62:= by omega
     unfold isB
     rw [decide_eq_true (show r.length ≤ 64 from by omega),decide_eq_true (show r.length ≤ 62 from hr),Bool.true_and,Bool.true_and,Bool.true_and]
     cases hal : allB r with
     | false=> rw [Bool.and_false,Bool.and_false]; exact ⟨_,rfl⟩
     | true =>
      rw [Bool.and_true,Bool.and_true]
      by_cases h8 : (splitD r).length ≤ 8
      ·rw [decide_eq_true h8,if_neg (by decide),oZ0,e5,oZ0]
       by_cases h7 : (splitD r).length ≤ 7
       ·rw [decide_eq_false (show ¬ (l.length : Int) > 7 from by omega),if_neg (by decide),oZ0,decide_eq_true h7]
        exact ⟨_,rfl⟩
       ·rw [decide_eq_true (show (l.length : Int) > 7 from by omega),if_pos rfl,decide_eq_false h7]
        exact ⟨_,rfl⟩
      ·rw [decide_eq_false h8,if_pos (by decide),decide_eq_false (show ¬ (splitD r).length ≤ 7 from by omega)]
       exact ⟨_,rfl⟩
theorem Pattern11_eq {s : ByteArray} (hs : s.size ≤ 1000) : m_ref11_Pattern s = some (patV s):= by
 obtain ⟨t,e⟩:= Star_eq hs
 unfold m_ref11_Pattern
 rw [e,oZ0,Name11_eq hs,patV_is]
 cases starB (toL s) with
 | true=> rw [Bool.or_true]; rfl
 | false =>
  rw [Bool.or_false]
  show obind (gu true (some (isB (toL s) 8 64))) _ = _
  rw [gu_tt,oZ0]
  cases isB (toL s) 8 64 <;> rfl
theorem Name11_V {s : ByteArray} (hs : s.size ≤ 1000) : m_ref11_Name s = some (nameV s == 0):= by
 rw [Name11_eq hs,nameV_is]
 show _ = some ((if isB (toL s) 8 64 = true then (0 : Int) else 110) == 0)
 cases isB (toL s) 8 64 <;> rfl
end Go.Proofs.YtlnbckkkapbdmaaGreatDoor
end
section
namespace Go.Proofs.YtlnbckkkapbdmaaGreatDoor
open Go Go.Gw Go.Ax
theorem at_drop {α : Type} {l : List α} {i : Nat} {c : α} {r : List α} (h : l.drop i = c :: r) : l[i]? = some c ∧ l.drop (i + 1) = r ∧ i < l.length:= by
 have h1 : l[i]? = some c:= by
  have : (l.drop i)[0]? = some c:= by rw [h]; rfl
  simpa using this
 exact ⟨h1,by rw [← List.drop_drop,h]; rfl,(List.getElem?_eq_some_iff.1 h1).1⟩
theorem w64_suc {i : Nat} (h : i ≤ 1000000) : w64 ((i : Int) + 1) = ((i + 1 : Nat) : Int):= by rw [w64_id (by omega) (by omega)]; omega
def plainB (c : UInt8) : Bool:= decide (33 ≤ c.toNat) && decide (c.toNat ≤ 126)
def textB (l : List UInt8) : Bool:= decide (1 ≤ l.length) && decide (l.length ≤ 64) && l.all plainB
theorem odd_loop {s : ByteArray} (hs : s.size ≤ 1000) : ∀ (r : List UInt8) (i n : Nat),(toL s).drop i = r → r.length < n → ∃ (z : Nat),iter (m_strings_indexFunc_112x_b2 s true) n i = some (if r.all plainB = true then .inl z else .inr (z : Int))
 | r,i,0,_,h=> by omega
 | [],i,n + 1,h,_=> by
  have hl : (toL s).length ≤ i:= List.drop_eq_nil_iff.1 h
  have hz : (toL s).length = s.size:= size_list s
  have e : m_strings_indexFunc_112x_b2 s true i = some (.inr (.inl i)):= by
   unfold m_strings_indexFunc_112x_b2
   rw [if_neg (by omega)]
  refine ⟨i,?_⟩
  show obind (m_strings_indexFunc_112x_b2 s true i) _ = _
  rw [e]; rfl
 | c :: r,i,n + 1,h,hn=> by
  obtain ⟨hc,hr,hlt⟩:= at_drop h
  have hz : (toL s).length = s.size:= size_list s
  obtain ⟨z,ih⟩:= odd_loop hs r (i + 1) n hr (by rw [List.length_cons] at hn; omega)
  have e : m_strings_indexFunc_112x_b2 s true i = some (if plainB c = true then .inl (i + 1) else .inr (.inr (i : Int))):= by
   unfold m_strings_indexFunc_112x_b2 m_cert_text_1
   rw [if_pos (show i < s.size from by omega),bnd_eq',bnd_eq',oZ0]
   unfold plainB
   by_cases hb : c.toNat < 128
   ·rw [dec_lo hc hb]
    have ec : (decide (((c.toNat : Nat) : Int) ≤ 32) || decide (((c.toNat : Nat) : Int) > 126)) = !(decide (33 ≤ c.toNat) && decide (c.toNat ≤ 126)):= by
     rw [Bool.eq_iff_iff]
     simp only [Bool.or_eq_true,Bool.not_eq_true',Bool.and_eq_false_iff,decide_eq_true_eq,decide_eq_false_iff_not]
     omega
    rw [ec]
    cases decide (33 ≤ c.toNat) && decide (c.toNat ≤ 126) <;> rfl
   ·have hd:= dec_hi hc hb
    generalize Utf8.decode s i = q at hd
    rw [decide_eq_true (show ((q.1 : Nat) : Int) > 126 from by omega),Bool.or_true,decide_eq_false (show ¬ c.toNat ≤ 126 from by omega),Bool.and_false]
    rfl
  rw [List.all_cons]
  cases hp : plainB c with
  | false =>
   refine ⟨i,?_⟩
   show obind (m_strings_indexFunc_112x_b2 s true i) _ = _
   rw [e,hp]; rfl
  | true =>
   refine ⟨z,?_⟩
   show obind (m_strings_indexFunc_112x_b2 s true i) _ = _
   rw [e,hp,if_pos rfl,Bool.true_and]
   exact ih
theorem textV_is (s : ByteArray) : textV s = textB (toL s):= by
 have e:= text_eq s
 have hz : (toL s).length = s.size:= size_list s
 unfold m_cert_text at e
 have e0 : (!eqS s (⟨#[]⟩ : ByteArray)) = decide (1 ≤ (toL s).length):= by
  show (!((toL s) == [])) = _
  cases toL s with
  | nil=> rfl
  | cons a l=> rw [decide_eq_true (by rw [List.length_cons]; omega)]; rfl
 have e1 : decide ((s.size : Int) ≤ 64) = decide ((toL s).length ≤ 64):= by rw [decide_eq_decide]; omega
 rw [e0,e1] at e
 unfold textB
 by_cases h : (toL s).length ≤ 64
 ·obtain ⟨z,hl⟩:= odd_loop (s:= s) (by omega) (toL s) 0 FUEL rfl (by have:= FUEL_big; omega)
  have ec : m_strings_ContainsFunc_112x s = some (!((toL s).all plainB)):= by
   unfold m_strings_ContainsFunc_112x m_strings_IndexFunc_112x m_strings_indexFunc_112x
   rw [hl]
   cases (toL s).all plainB with
   | true=> rfl
   | false =>
    show some (decide ((z : Int) ≥ 0)) = _
    rw [decide_eq_true (by omega)]; rfl
  rw [ec] at e
  cases hd : decide (1 ≤ (toL s).length) && decide ((toL s).length ≤ 64) with
  | false=> rw [hd] at e; exact (sI0 e).symm
  | true =>
   rw [hd,gu_tt,oZ0,bnd_eq',Bool.not_not] at e
   exact (sI0 e).symm
 ·rw [decide_eq_false h,Bool.and_false] at e ⊢
  exact (sI0 e).symm
theorem text18_loop {s : ByteArray} (hs : s.size ≤ 1000) : ∀ (r : List UInt8) (i n : Nat),(toL s).drop i = r → r.length < n → iter (m_ref18_Text_b1 s) n (i : Int) = some (if r.all plainB = true then .inl () else .inr false)
 | r,i,0,_,h=> by omega
 | [],i,n + 1,h,_=> by
  have hl : (toL s).length ≤ i:= List.drop_eq_nil_iff.1 h
  have hz : (toL s).length = s.size:= size_list s
  have e : m_ref18_Text_b1 s (i : Int) = some (.inr (.inl ())):= by
   unfold m_ref18_Text_b1
   rw [decide_eq_false (by omega)]
   rfl
  show obind (m_ref18_Text_b1 s (i : Int)) _ = _
  rw [e]; rfl
 | c :: r,i,n + 1,h,hn=> by
  obtain ⟨hc,hr,hlt⟩:= at_drop h
  have hz : (toL s).length = s.size:= size_list s
  have ih:= text18_loop hs r (i + 1) n hr (by rw [List.length_cons] at hn; omega)
  have e : m_ref18_Text_b1 s (i : Int) = some (if plainB c = true then .inl ((i + 1 : Nat) : Int) else .inr (.inr false)):= by
   unfold m_ref18_Text_b1
   rw [decide_eq_true (by omega),if_pos rfl,show idx s.data.toList (i : Int) = some c from idx_list hc,oZ0,w64_suc (by omega)]
   unfold plainB
   have e33 : decide ((c.toNat : Int) < 33) = !decide (33 ≤ c.toNat):= by rw [← decide_not,decide_eq_decide]; omega
   have e126 : decide ((c.toNat : Int) > 126) = !decide (c.toNat ≤ 126):= by rw [← decide_not,decide_eq_decide]; omega
   rw [e33]
   cases decide (33 ≤ c.toNat) with
   | false=> rfl
   | true =>
    rw [show gu (!(!true)) (some c) = some c from rfl,oZ0,e126]
    cases decide (c.toNat ≤ 126) <;> rfl
  show obind (m_ref18_Text_b1 s (i : Int)) _ = _
  rw [e,List.all_cons]
  cases plainB c with
  | false=> rfl
  | true=> rw [if_pos rfl,Bool.true_and]; exact ih
theorem text18_eq {s : ByteArray} (hs : s.size ≤ 1000) : m_ref18_Text s = some (textV s):= by
 have hz : (toL s).length = s.size:= size_list s
 have hl:= text18_loop hs (toL s) 0 FUEL rfl (by have:= FUEL_big; omega)
 have hl : iter (m_ref18_Text_b1 s) FUEL 0 = some (if (toL s).all plainB = true then .inl () else .inr false):= hl
 rw [textV_is]
 unfold m_ref18_Text textB
 rw [hl]
 have e1 : decide ((s.size : Int) ≥ 1) = decide (1 ≤ (toL s).length):= by rw [decide_eq_decide]; omega
 have e2 : decide ((s.size : Int) ≤ 64) = decide ((toL s).length ≤ 64):= by rw [decide_eq_decide]; omega
 cases (toL s).all plainB with
 | true =>
  show some (decide ((s.size : Int) ≥ 1) && decide ((s.size : Int) ≤ 64)) = _
  rw [e1,e2,Bool.and_true]
 | false=> rw [Bool.and_false]; rfl
def nodB : List ByteArray → List ByteArray → Bool
 | _,[]=> true
 | met,s :: l=> !(met.any (eqS s)) && nodB (met ++ [s]) l
theorem listB_two (right : ByteArray → Int) : ∀ (l met : List ByteArray),listB right met l = (l.all (fun s=> right s == 0) && nodB met l)
 | [],_=> rfl
 | s :: l,met=> by
  show (!(met.any (eqS s)) && right s == 0 && listB right (met ++ [s]) l) = ((right s == 0 && l.all (fun s=> right s == 0)) && (!(met.any (eqS s)) && nodB (met ++ [s]) l))
  rw [listB_two right l]
  cases met.any (eqS s) <;> cases right s == 0 <;> cases l.all (fun s=> right s == 0) <;> rfl
theorem eqS_comm (a b : ByteArray) : eqS a b = eqS b a:= by
 rw [Bool.eq_iff_iff,eqS_iff,eqS_iff]
 exact eq_comm
theorem unl_in {l : List ByteArray} {i : Nat} {x : ByteArray} (hx : l[i]? = some x) (hi : i ≤ 1000) : ∀ (r : List ByteArray) (k n : Nat),(l.take i).drop k = r → k ≤ i → r.length < n → iter (m_ref18_unlike_b2 l (i : Int)) n (k : Int) = some (if r.any (eqS x) = true then .inr false else .inl ())
 | r,k,0,_,_,h=> by omega
 | [],k,n + 1,h,hk,_=> by
  have hl : i < l.length:= (List.getElem?_eq_some_iff.1 hx).1
  have h2:= List.drop_eq_nil_iff.1 h
  rw [List.length_take] at h2
  have e : m_ref18_unlike_b2 l (i : Int) (k : Int) = some (.inr (.inl ())):= by
   unfold m_ref18_unlike_b2
   rw [decide_eq_false (by omega)]
   rfl
  show obind (m_ref18_unlike_b2 l (i : Int) (k : Int)) _ = _
  rw [e]; rfl
 | c :: r,k,n + 1,h,hk,hn=> by
  have hl : i < l.length:= (List.getElem?_eq_some_iff.1 hx).1
  obtain ⟨hc,hr,hlt⟩:= at_drop h
  rw [List.length_take] at hlt
  have hc' : l[k]? = some c:= by
   rw [List.getElem?_take] at hc
   rw [if_pos (by omega)] at hc
   exact hc
  have ih:= unl_in hx hi r (k + 1) n hr (by omega) (by rw [List.length_cons] at hn; omega)
  have e : m_ref18_unlike_b2 l (i : Int) (k : Int) = some (if eqS x c = true then .inr (.inr false) else .inl ((k + 1 : Nat) : Int)):= by
   unfold m_ref18_unlike_b2
   rw [decide_eq_true (by omega),if_pos rfl,idx_list hc',oZ0,idx_list hx,oZ0,w64_suc (by omega),eqS_comm c x]
   cases eqS x c <;> rfl
  show obind (m_ref18_unlike_b2 l (i : Int) (k : Int)) _ = _
  rw [e,List.any_cons]
  cases eqS x c with
  | true=> rfl
  | false=> rw [if_neg (by decide),Bool.false_or]; exact ih
theorem unl_out {l : List ByteArray} (hz : l.length ≤ 1000) : ∀ (r : List ByteArray) (i n : Nat),l.drop i = r → r.length < n → iter (m_ref18_unlike_b1 l) n (i : Int) = some (if nodB (l.take i) r = true then .inl () else .inr false)
 | r,i,0,_,h=> by omega
 | [],i,n + 1,h,_=> by
  have hl : l.length ≤ i:= List.drop_eq_nil_iff.1 h
  have e : m_ref18_unlike_b1 l (i : Int) = some (.inr (.inl ())):= by
   unfold m_ref18_unlike_b1
   rw [decide_eq_false (by omega)]
   rfl
  show obind (m_ref18_unlike_b1 l (i : Int)) _ = _
  rw [e]; rfl
 | c :: r,i,n + 1,h,hn=> by
  obtain ⟨hc,hr,hlt⟩:= at_drop h
  have ih:= unl_out hz r (i + 1) n hr (by rw [List.length_cons] at hn; omega)
  have hin:= unl_in hc (by omega) (l.take i) 0 FUEL rfl (by omega) (by have:= FUEL_big; rw [List.length_take]; omega)
  have hin : iter (m_ref18_unlike_b2 l (i : Int)) FUEL 0 = some (if (l.take i).any (eqS c) = true then .inr false else .inl ()):= hin
  have e : m_ref18_unlike_b1 l (i : Int) = some (if (l.take i).any (eqS c) = true then .inr (.inr false) else .inl ((i + 1 : Nat) : Int)):= by
   unfold m_ref18_unlike_b1
   rw [decide_eq_true (by omega),if_pos rfl,hin,oZ0,w64_suc (by omega)]
   cases (l.take i).any (eqS c) <;> rfl
  have ht : l.take (i + 1) = l.take i ++ [c]:= by rw [List.take_add_one,hc]; rfl
  show obind (m_ref18_unlike_b1 l (i : Int)) _ = _
  rw [e]
  show _ = some (if (!((l.take i).any (eqS c)) && nodB (l.take i ++ [c]) r) = true then _ else _)
  cases (l.take i).any (eqS c) with
  | true=> rfl
  | false =>
   rw [if_neg (by decide),← ht]
   exact ih
theorem unlike_eq {l : List ByteArray} (hz : l.length ≤ 1000) : m_ref18_unlike l = some (nodB [] l):= by
 have h:= unl_out hz l 0 FUEL rfl (by have:= FUEL_big; omega)
 have h : iter (m_ref18_unlike_b1 l) FUEL 0 = some (if nodB [] l = true then .inl () else .inr false):= h
 unfold m_ref18_unlike
 rw [h]
 cases nodB [] l <;> rfl
structure FewP (c : g_api_Cert) : Prop where
 issuer : c.Issuer.size ≤ 300
 subject : c.Subject.size ≤ 300
 names : ∀ s ∈ c.Names,s.size ≤ 200
 nnames : c.Names.length ≤ 16
 permit : ∀ s ∈ c.Permit,s.size ≤ 200
 npermit : c.Permit.length ≤ 16
 nproms : c.Proms.length ≤ 8
theorem little_loop {l : List ByteArray} : ∀ (r : List ByteArray) (i n : Nat),l.drop i = r → i ≤ 20 → 20 - i < n → ∀ t,iter (m_ref18_little_b1 l) n (i : Int) = some t → t = .inl () → ∀ s ∈ r.take (20 - i),s.size ≤ 200
 | r,i,0,_,_,h,_,_,_=> by omega
 | [],i,n + 1,h,_,_,t,_,_=> by intro s hs; simp at hs
 | c :: r,i,n + 1,h,hi,hn,t,ht,ht2=> by
  obtain ⟨hc,hr,hlt⟩:= at_drop h
  by_cases h20 : i = 20
  ·intro s hs; rw [h20] at hs; simp at hs
  have e : m_ref18_little_b1 l (i : Int) = some (if decide ((c.size : Int) > 200) = true then .inr (.inr false) else .inl ((i + 1 : Nat) : Int)):= by
   unfold m_ref18_little_b1
   rw [decide_eq_true (show (i : Int) < (l.length : Int) from by omega),decide_eq_true (show (i : Int) < 20 from by omega),show (true && true) = true from rfl,if_pos rfl,idx_list hc,oZ0,w64_suc (by omega)]
   cases decide ((c.size : Int) > 200) <;> rfl
  obtain ⟨y,hy,hq⟩:= iter_succ ht
  rw [e] at hy
  have hy:= sI0 hy
  cases hd : decide ((c.size : Int) > 200) with
  | true =>
   rw [hd,if_pos rfl] at hy
   subst hy
   rcases hq with ⟨s',e',_⟩ | e'
   ·cases e'
   ·rw [ht2] at e'; cases e'
  | false =>
   rw [hd,if_neg (by decide)] at hy
   subst hy
   rcases hq with ⟨s',e',ht'⟩ | e'
   ·have e':= Sum.inl.inj e'
    subst e'
    have ih:= little_loop r (i + 1) n hr (by omega) (by omega) t ht' ht2
    intro s hs
    rw [show 20 - i = (20 - (i + 1)) + 1 from by omega,List.take_succ_cons] at hs
    rcases List.mem_cons.1 hs with q | q
    ·rw [q]
     have:= of_decide_eq_false hd
     omega
    ·exact ih s q
   ·cases e'
theorem little_ok {l : List ByteArray} (h : m_ref18_little l = some true) : l.length ≤ 16 ∧ ∀ s ∈ l,s.size ≤ 200:= by
 unfold m_ref18_little at h
 obtain ⟨t,ht,h⟩:= oY0 h
 cases t with
 | inr b =>
  have hb : b = true:= sI0 h
  subst hb
  exfalso
  have key : ∀ (n : Nat) (i : Int) (t : Unit ⊕ Bool),iter (m_ref18_little_b1 l) n i = some t → t ≠ .inr true:= by
   intro n
   induction n with
   | zero=> intro i t h; cases h
   | succ n ih =>
    intro i t h
    obtain ⟨y,hy,hq⟩:= iter_succ h
    unfold m_ref18_little_b1 at hy
    split at hy
    ·obtain ⟨x,hx,hy⟩:= oY0 hy
     split at hy
     ·cases hy
      rcases hq with ⟨s',e',_⟩ | e'
      ·cases e'
      ·cases e'
       intro q
       cases q
     ·cases hy
      rcases hq with ⟨s',e',h'⟩ | e'
      ·exact ih _ t h'
      ·cases e'
    ·cases hy
     rcases hq with ⟨s',e',_⟩ | e'
     ·cases e'
     ·cases e'
      intro q
      cases q
  exact key FUEL 0 _ ht rfl
 | inl u =>
  have hl:= of_decide_eq_true (sI0 (bnd_is h))
  have h20:= little_loop l 0 FUEL rfl (by decide) (by have:= FUEL_big; omega) _ ht rfl
  refine ⟨by omega,fun s hs=> h20 s ?_⟩
  rw [List.take_of_length_le (by omega)]
  exact hs
theorem few_ok {c : g_api_Cert} (h : m_ref18_Few c = some true) : FewP c:= by
 unfold m_ref18_Few at h
 obtain ⟨x1,h1,h⟩:= oY0 h
 obtain ⟨x2,h2,h⟩:= oY0 h
 have h:= sI0 (bnd_is h)
 simp only [Bool.and_eq_true,decide_eq_true_eq] at h
 obtain ⟨⟨⟨⟨q1,q2⟩,q3⟩,q4⟩,q5⟩:= h
 subst q3 q4
 rw [decide_eq_true q1,decide_eq_true q2] at h1 h2
 obtain ⟨a1,a2⟩:= little_ok h1
 obtain ⟨b1,b2⟩:= little_ok h2
 exact ⟨by omega,by omega,a2,a1,b2,b1,by omega⟩
end Go.Proofs.YtlnbckkkapbdmaaGreatDoor
end
section
namespace Go.Proofs.YtlnbckkkapbdmaaGreatDoor
open Go Go.Gw Go.Ax
def stopB (a : UInt8) (rest : Int) : Bool:= (rest == 0 && decide (a.toNat < 128)) || (rest == -1 && decide (128 ≤ a.toNat))
theorem int_step (a : UInt8) (l : List UInt8) (rest : Int) (hl : l.length ≤ 100) : m_ref07_Int_b2 (a :: l,rest) = some (if stopB a rest = true then .inr (a :: l) else .inl (toB rest :: a :: l,rest / 256)):= by
 unfold m_ref07_Int_b2 stopB
 show obind (gu (rest == 0) (idx (a :: l) 0)) _ = _
 rw [show idx (a :: l) 0 = some a from rfl]
 have e1 : decide ((a.toNat : Int) < 128) = decide (a.toNat < 128):= by rw [decide_eq_decide]; omega
 have e2 : decide ((a.toNat : Int) ≥ 128) = decide (128 ≤ a.toNat):= by rw [decide_eq_decide]; omega
 have ea : app 1 ([toB rest] : List UInt8) (a :: l) = some (toB rest :: a :: l):= by
  rw [app_ok 1 (by simp only [List.length_cons,List.length_nil]; omega) (by simp only [List.length_cons,List.length_nil]; omega)]; rfl
 cases h0 : rest == 0 with
 | true =>
  have hr : rest = 0:= by simpa using h0
  have h1 : (rest == -1) = false:= by rw [hr]; rfl
  rw [gu_tt,oZ0,h1]
  show obind (gu ((!(true && decide ((a.toNat : Int) < 128))) && false) (some a)) _ = _
  rw [Bool.and_false,gu_ff,oZ0,e1]
  cases decide (a.toNat < 128) with
  | true=> rfl
  | false =>
   show obind (app 1 ([toB rest] : List UInt8) (a :: l)) _ = _
   rw [ea,oZ0,shr64_8]
   rfl
 | false =>
  rw [gu_ff,oZ0]
  show obind (gu ((!(false && _)) && (rest == -1)) (some a)) _ = _
  cases h1 : rest == -1 with
  | true =>
   show obind (some a) _ = _
   rw [oZ0,e2]
   cases decide (128 ≤ a.toNat) with
   | true=> rfl
   | false =>
    show obind (app 1 ([toB rest] : List UInt8) (a :: l)) _ = _
    rw [ea,oZ0,shr64_8]
    rfl
  | false =>
   show obind (some default) _ = _
   rw [oZ0]
   show obind (app 1 ([toB rest] : List UInt8) (a :: l)) _ = _
   rw [ea,oZ0,shr64_8]
   rfl
theorem stop_sval {a : UInt8} {l : List UInt8} {rest : Int} (h : stopB a rest = true) : sval (a :: l) = vfold rest (a :: l):= by
 show vfold (s8 a) l = vfold (rest * 256 + (a.toNat : Int)) l
 congr 1
 have ha:= a.toNat_lt
 unfold stopB at h
 simp only [Bool.or_eq_true,Bool.and_eq_true,beq_iff_eq,decide_eq_true_eq] at h
 unfold s8
 rcases h with ⟨h1,h2⟩ | ⟨h1,h2⟩
 ·rw [if_pos h2,h1]; omega
 ·rw [if_neg (by omega),h1]; omega
theorem stop_least {a c : UInt8} {l : List UInt8} {rest : Int} (hl : l.length ≤ 6) (h : stopB a rest = true) (hp : stopB c (rest * 256 + (a.toNat : Int)) = false) : leastB (a :: c :: l) = true:= by
 cases hq : leastB (a :: c :: l) with
 | true=> rfl
 | false =>
  have hs:= (least_not hl).1 hq
  have ha:= a.toNat_lt
  exfalso
  unfold stopB at h hp
  simp only [Bool.or_eq_true,Bool.and_eq_true,beq_iff_eq,decide_eq_true_eq] at h
  simp only [Bool.or_eq_false_iff,Bool.and_eq_false_iff,beq_eq_false_iff_ne,decide_eq_false_iff_not] at hp
  by_cases hc : c.toNat < 128
  ·rw [if_pos hc] at hs
   omega
  ·rw [if_neg hc] at hs
   omega
theorem int_loop : ∀ (k : Nat) (a : UInt8) (l : List UInt8) (rest n : Int) (f : Nat),(a :: l).length + k = 8 → k < f → -(128 * 256 ^ k) ≤ rest * 256 + (a.toNat : Int) → rest * 256 + (a.toNat : Int) < 128 * 256 ^ k →
  vfold rest (a :: l) = n → (∀ c r,l = c :: r → stopB c (rest * 256 + (a.toNat : Int)) = false) → iter m_ref07_Int_b2 f (a :: l,rest) = some (trim (be8 n))
 | k,a,l,rest,n,0,_,h,_,_,_,_=> by omega
 | k,a,l,rest,n,f + 1,hk,hf,h0,h1,hv,hp=> by
  have hlen : l.length + 1 + k = 8:= by simpa using hk
  show obind (m_ref07_Int_b2 (a :: l,rest)) _ = _
  rw [int_step a l rest (by omega)]
  cases hs : stopB a rest with
  | true =>
   have hl : leastB (a :: l) = true:= by
    cases l with
    | nil=> rfl
    | cons c r=> exact stop_least (by rw [List.length_cons] at hlen; omega) hs (hp c r rfl)
   have:= least_of hl
   rw [stop_sval hs,hv] at this
   rw [this]
   rfl
  | false =>
   rw [if_neg (by decide)]
   cases k with
   | zero =>
    exfalso
    have ha:= a.toNat_lt
    rw [Int.pow_zero] at h0 h1
    unfold stopB at hs
    simp only [Bool.or_eq_false_iff,Bool.and_eq_false_iff,beq_eq_false_iff_ne,decide_eq_false_iff_not] at hs
    omega
   | succ k =>
    have hb:= toB_nat rest
    have hq : rest / 256 * 256 + ((toB rest).toNat : Int) = rest:= by omega
    have ha:= a.toNat_lt
    rw [Int.pow_succ] at h0 h1
    refine int_loop k (toB rest) (a :: l) (rest / 256) n f (by simp only [List.length_cons]; omega) (by omega) ?_ ?_ ?_ ?_
    ·rw [hq]; omega
    ·rw [hq]; omega
    ·show vfold (rest / 256 * 256 + ((toB rest).toNat : Int)) (a :: l) = n
     rw [hq]; exact hv
    ·intro c r e
     cases e
     rw [hq]; exact hs
theorem int07_eq {n : Int} (h0 : -9223372036854775808 ≤ n) (h1 : n ≤ 9223372036854775807) : m_ref07_Int n = some (intI n):= by
 have hb:= toB_nat n
 have hq : n / 256 * 256 + ((toB n).toNat : Int) = n:= by omega
 have e:= int_loop 7 (toB n) [] (n / 256) n FUEL (by simp) (by have:= FUEL_big; omega) (by rw [hq]; show -(128 * 72057594037927936) ≤ n; omega) (by rw [hq]; show n < 128 * 72057594037927936; omega) (by show n / 256 * 256 + ((toB n).toNat : Int) = n; exact hq) (fun c r e=> by cases e)
 unfold m_ref07_Int
 rw [shr64_8,e]
 rfl
theorem big07_eq (x : UInt64) : m_ref07_Int (w64 (x.toNat : Int)) = some (bigI x):= by
 have:= w64_le (x.toNat : Int)
 have h2 : -9223372036854775808 ≤ w64 (x.toNat : Int):= by unfold w64; omega
 exact int07_eq h2 (by omega)
theorem seq07_eq {l : List g_api_Item} (h : l.length ≤ 1000000) : m_ref07_Seq l = some (seqI l):= by
 unfold m_ref07_Seq
 rw [app_nil 56 (by omega) (by omega)]; rfl
theorem seqo_eq {l : List g_api_Item} (h : l.length ≤ 1000000) : m_ref07_Seq_o l = some (seqI l):= by
 unfold m_ref07_Seq_o
 rw [app_nil 56 (by omega) (by omega)]; rfl
theorem text07_eq {s : ByteArray} (h : s.size ≤ 1000000) : m_ref07_Text s = some (textI s):= by
 unfold m_ref07_Text
 rw [app_nil 1 (by rw [size_list]; omega) (by rw [size_list]; omega)]; rfl
theorem bool07_eq (v : Bool) : m_ref07_Bool v = some (boolI v):= by cases v <;> rfl
theorem texts18_loop {l : List ByteArray} (hz : ∀ s ∈ l,s.size ≤ 1000) (hn : l.length ≤ 1000) : ∀ (r : List ByteArray) (i f : Nat) (o : List g_api_Item),l.drop i = r → r.length < f → o.length ≤ i → iter (m_ref18_texts_b3 l) f ((i : Int),o) = some (o ++ r.map textI)
 | r,i,0,o,_,h,_=> by omega
 | [],i,f + 1,o,h,_,_=> by
  have hl : l.length ≤ i:= List.drop_eq_nil_iff.1 h
  have e : m_ref18_texts_b3 l ((i : Int),o) = some (.inr o):= by
   unfold m_ref18_texts_b3
   show (if decide ((i : Int) < (l.length : Int)) = true then _ else _) = _
   rw [decide_eq_false (by omega)]
   rfl
  show obind (m_ref18_texts_b3 l ((i : Int),o)) _ = _
  rw [e]
  simp
 | s :: r,i,f + 1,o,h,hf,ho=> by
  obtain ⟨hc,hr,hlt⟩:= at_drop h
  have e : m_ref18_texts_b3 l ((i : Int),o) = some (.inl (((i + 1 : Nat) : Int),o ++ [textI s])):= by
   unfold m_ref18_texts_b3
   show (if decide ((i : Int) < (l.length : Int)) = true then _ else _) = _
   rw [decide_eq_true (by omega),if_pos rfl]
   show obind (idx l (i : Int)) _ = _
   rw [idx_list hc,oZ0,text07_eq (by have:= hz s (List.mem_of_getElem? hc); omega),oZ0]
   show obind (app 56 o [textI s]) _ = _
   rw [app_ok 56 (by show (o.length + 1) * 56 ≤ _; omega) (by show o.length + 1 ≤ _; omega),oZ0,w64_suc (by omega)]
  show obind (m_ref18_texts_b3 l ((i : Int),o)) _ = _
  rw [e]
  show iter (m_ref18_texts_b3 l) f (((i + 1 : Nat) : Int),o ++ [textI s]) = _
  rw [texts18_loop hz hn r (i + 1) f (o ++ [textI s]) hr (by rw [List.length_cons] at hf; omega) (by rw [List.length_append]; show o.length + 1 ≤ _; omega)]
  simp
theorem texts18_eq {l : List ByteArray} (hz : ∀ s ∈ l,s.size ≤ 1000) (hn : l.length ≤ 1000) : m_ref18_texts l = some (textsI l):= by
 have h:= texts18_loop hz hn l 0 FUEL [] rfl (by have:= FUEL_big; omega) (by simp)
 have h : iter (m_ref18_texts_b3 l) FUEL (0,[]) = some (l.map textI):= h
 unfold m_ref18_texts
 rw [h]
 rfl
structure Fits (c : g_api_Cert) : Prop where
 few : FewP c
 serial : -9223372036854775808 ≤ c.Serial ∧ c.Serial ≤ 9223372036854775807
 frm : -9223372036854775808 ≤ c.From ∧ c.From ≤ 9223372036854775807
 til : -9223372036854775808 ≤ c.Until ∧ c.Until ≤ 9223372036854775807
 depth : -9223372036854775808 ≤ c.Depth ∧ c.Depth ≤ 9223372036854775807
 proms : ∀ p ∈ c.Proms,(-9223372036854775808 ≤ p.Log ∧ p.Log ≤ 9223372036854775807) ∧ (-9223372036854775808 ≤ p.At ∧ p.At ≤ 9223372036854775807)
theorem pre18_eq {c : g_api_Cert} (h : Fits c) : m_ref18_pre c = some (preI c):= by
 have k:= h.few
 have k1:= k.issuer; have k2:= k.subject; have k3:= k.nnames; have k4:= k.npermit
 unfold m_ref18_pre
 rw [int07_eq h.serial.1 h.serial.2,oZ0,text07_eq (s:= c.Issuer) (by omega),oZ0,text07_eq (s:= c.Subject) (by omega),oZ0,big07_eq,oZ0,texts18_eq (l:= c.Names) (fun s hs=> by have:= k.names s hs; omega) (by omega),oZ0,int07_eq h.frm.1 h.frm.2,oZ0,
  int07_eq h.til.1 h.til.2,oZ0,bool07_eq,oZ0,int07_eq h.depth.1 h.depth.2,oZ0,texts18_eq (l:= c.Permit) (fun s hs=> by have:= k.permit s hs; omega) (by omega),oZ0,seq07_eq (by simp),oZ0]
 rfl
theorem two_eq (a b : UInt64) : m_ref18_two a b = some [bigI a,bigI b]:= by
 unfold m_ref18_two
 rw [big07_eq,oZ0,big07_eq,oZ0]
theorem body18_loop {c : g_api_Cert} (h : Fits c) : ∀ (r : List g_api_Promise) (i f : Nat) (o : List g_api_Item),c.Proms.drop i = r → r.length < f → o.length ≤ i → iter (m_ref18_body_b4 c) f ((i : Int),o) = some (o ++ r.map promI)
 | r,i,0,o,_,h,_=> by omega
 | [],i,f + 1,o,h,_,_=> by
  have hl : c.Proms.length ≤ i:= List.drop_eq_nil_iff.1 h
  have e : m_ref18_body_b4 c ((i : Int),o) = some (.inr o):= by
   unfold m_ref18_body_b4
   show (if decide ((i : Int) < (c.Proms.length : Int)) = true then _ else _) = _
   rw [decide_eq_false (by omega)]
   rfl
  show obind (m_ref18_body_b4 c ((i : Int),o)) _ = _
  rw [e]
  simp
 | p :: r,i,f + 1,o,hd,hf,ho=> by
  obtain ⟨hc,hr,hlt⟩:= at_drop hd
  have hp:= h.proms p (List.mem_of_getElem? hc)
  have hn:= h.few.nproms
  have e : m_ref18_body_b4 c ((i : Int),o) = some (.inl (((i + 1 : Nat) : Int),o ++ [promI p])):= by
   unfold m_ref18_body_b4
   show (if decide ((i : Int) < (c.Proms.length : Int)) = true then _ else _) = _
   rw [decide_eq_true (by omega),if_pos rfl]
   show obind (idx c.Proms (i : Int)) _ = _
   rw [idx_list hc,oZ0,int07_eq hp.1.1 hp.1.2,oZ0,int07_eq hp.2.1 hp.2.2,oZ0,seqo_eq (by simp),oZ0,two_eq,oZ0]
   show obind (app 56 [intI p.Log,intI p.At] [bigI p.Leaf.1,bigI p.Leaf.2]) _ = _
   rw [app_ok 56 (by simp) (by simp),oZ0,two_eq,oZ0,app_ok 56 (by simp) (by simp),oZ0]
   show obind (app 56 o [promI p]) _ = _
   rw [app_ok 56 (by show (o.length + 1) * 56 ≤ _; omega) (by show o.length + 1 ≤ _; omega),oZ0,w64_suc (by omega)]
  show obind (m_ref18_body_b4 c ((i : Int),o)) _ = _
  rw [e]
  show iter (m_ref18_body_b4 c) f (((i + 1 : Nat) : Int),o ++ [promI p]) = _
  rw [body18_loop h r (i + 1) f (o ++ [promI p]) hr (by rw [List.length_cons] at hf; omega) (by rw [List.length_append]; show o.length + 1 ≤ _; omega)]
  simp
theorem body18_eq {c : g_api_Cert} (h : Fits c) : m_ref18_body c = some (bodyI c):= by
 have hn:= h.few.nproms
 have hl:= body18_loop h c.Proms 0 FUEL [] rfl (by have:= FUEL_big; omega) (by simp)
 have hl : iter (m_ref18_body_b4 c) FUEL (0,[]) = some (c.Proms.map promI):= hl
 unfold m_ref18_body
 rw [hl,oZ0,oZ0,pre18_eq h,oZ0,seq07_eq (by simp),oZ0]
 rfl
theorem whole18_eq {c : g_api_Cert} (h : Fits c) : m_ref18_whole c = some (wholeI c):= by
 unfold m_ref18_whole
 rw [body18_eq h,oZ0,two_eq,oZ0,seq07_eq (by simp),oZ0,seq07_eq (by simp),oZ0]
 rfl
end Go.Proofs.YtlnbckkkapbdmaaGreatDoor
end
section
namespace Go.Proofs.YtlnbckkkapbdmaaGreatDoor
open Go Go.Gw Go.Ax
theorem num18_eq (n : Int) : m_ref18_num n = some (numB n):= rfl
theorem maxU_and (a b : UInt64) (n : Nat) : decide ((maxU a b).toNat < n) = (decide (a.toNat < n) && decide (b.toNat < n)):= by
 rw [Bool.eq_iff_iff,Bool.and_eq_true,decide_eq_true_eq,decide_eq_true_eq,decide_eq_true_eq]
 unfold maxU
 by_cases hc : b > a
 ·rw [if_pos hc]
  have:= UInt64.lt_iff_toNat_lt.1 hc
  omega
 ·rw [if_neg hc]
  have : ¬ a.toNat < b.toNat:= fun x=> hc (UInt64.lt_iff_toNat_lt.2 x)
  omega
theorem lt_cast (x : UInt64) (n : Nat) : decide ((x.toNat : Int) < (n : Int)) = decide (x.toNat < n):= by rw [decide_eq_decide]; omega
theorem sig18_eq (s : g_api_Sig) : m_ref18_SigMay s = some (sigB s):= by
 have e1 : decide ((s.E.toNat : Int) < 1152921504606845789) = decide (s.E.toNat < 1152921504606845789):= lt_cast s.E 1152921504606845789
 have e2 : decide ((s.S.toNat : Int) < 1152921504606845789) = decide (s.S.toNat < 1152921504606845789):= lt_cast s.S 1152921504606845789
 unfold m_ref18_SigMay sigB
 rw [bnd_eq',maxU_and,e1,e2]
theorem prom18_eq (p : g_api_Promise) : m_ref18_PromMay p = some (promB p):= by
 have e1 : decide ((p.Leaf.1.toNat : Int) < 2305843009213693951) = decide (p.Leaf.1.toNat < 2305843009213693951):= lt_cast p.Leaf.1 2305843009213693951
 have e2 : decide ((p.Leaf.2.toNat : Int) < 2305843009213693951) = decide (p.Leaf.2.toNat < 2305843009213693951):= lt_cast p.Leaf.2 2305843009213693951
 unfold m_ref18_PromMay promB
 rw [num18_eq,oZ0,num18_eq,gu_b,oZ0,sig18_eq,gu_b,oZ0,bnd_eq',maxU_and,e1,e2]
 cases numB p.Log <;> cases numB p.At <;> cases decide (p.Leaf.1.toNat < 2305843009213693951) <;> cases decide (p.Leaf.2.toNat < 2305843009213693951) <;> cases sigB p.Sig <;> rfl
theorem names18_loop {c : g_api_Cert} (hz : ∀ s ∈ c.Names,s.size ≤ 1000) (hn : c.Names.length ≤ 1000) : ∀ (r : List ByteArray) (i f : Nat),c.Names.drop i = r → r.length < f → iter (m_ref18_kind_b2 c) f (i : Int) = some (if r.all (fun s=> nameV s == 0) = true then .inl () else .inr false)
 | r,i,0,_,h=> by omega
 | [],i,f + 1,h,_=> by
  have hl : c.Names.length ≤ i:= List.drop_eq_nil_iff.1 h
  have e : m_ref18_kind_b2 c (i : Int) = some (.inr (.inl ())):= by
   unfold m_ref18_kind_b2
   rw [decide_eq_false (by omega)]
   rfl
  show obind (m_ref18_kind_b2 c (i : Int)) _ = _
  rw [e]; rfl
 | s :: r,i,f + 1,h,hf=> by
  obtain ⟨hc,hr,hlt⟩:= at_drop h
  have ih:= names18_loop hz hn r (i + 1) f hr (by rw [List.length_cons] at hf; omega)
  have e : m_ref18_kind_b2 c (i : Int) = some (if (nameV s == 0) = true then .inl ((i + 1 : Nat) : Int) else .inr (.inr false)):= by
   unfold m_ref18_kind_b2
   rw [decide_eq_true (by omega),if_pos rfl,idx_list hc,oZ0,Name11_V (hz s (List.mem_of_getElem? hc)),oZ0,w64_suc (by omega)]
   cases nameV s == 0 <;> rfl
  show obind (m_ref18_kind_b2 c (i : Int)) _ = _
  rw [e,List.all_cons]
  cases nameV s == 0 with
  | false=> rfl
  | true=> rw [if_pos rfl,Bool.true_and]; exact ih
theorem permit18_loop {c : g_api_Cert} (hz : ∀ s ∈ c.Permit,s.size ≤ 1000) (hn : c.Permit.length ≤ 1000) : ∀ (r : List ByteArray) (i f : Nat),c.Permit.drop i = r → r.length < f → iter (m_ref18_kind_b3 c) f (i : Int) = some (if r.all (fun s=> patV s == 0) = true then .inl () else .inr false)
 | r,i,0,_,h=> by omega
 | [],i,f + 1,h,_=> by
  have hl : c.Permit.length ≤ i:= List.drop_eq_nil_iff.1 h
  have e : m_ref18_kind_b3 c (i : Int) = some (.inr (.inl ())):= by
   unfold m_ref18_kind_b3
   rw [decide_eq_false (by omega)]
   rfl
  show obind (m_ref18_kind_b3 c (i : Int)) _ = _
  rw [e]; rfl
 | s :: r,i,f + 1,h,hf=> by
  obtain ⟨hc,hr,hlt⟩:= at_drop h
  have ih:= permit18_loop hz hn r (i + 1) f hr (by rw [List.length_cons] at hf; omega)
  have e : m_ref18_kind_b3 c (i : Int) = some (if (patV s == 0) = true then .inl ((i + 1 : Nat) : Int) else .inr (.inr false)):= by
   unfold m_ref18_kind_b3
   rw [decide_eq_true (by omega),if_pos rfl,idx_list hc,oZ0,Pattern11_eq (hz s (List.mem_of_getElem? hc)),oZ0,w64_suc (by omega)]
   show (if (!(patV s == 0)) = true then _ else _) = _
   cases patV s == 0 <;> rfl
  show obind (m_ref18_kind_b3 c (i : Int)) _ = _
  rw [e,List.all_cons]
  cases patV s == 0 with
  | false=> rfl
  | true=> rw [if_pos rfl,Bool.true_and]; exact ih
def kindV (c : g_api_Cert) : Bool:= if c.Ca = true then textV c.Subject && ((c.Names.length : Int) == 0) && decide (c.Depth ≥ 0) && decide (c.Depth ≤ 4) && listV patV c.Permit 0 8
 else eqS c.Subject (⟨#[]⟩ : ByteArray) && listV nameV c.Names 1 8 && (c.Depth == 0) && ((c.Permit.length : Int) == 0)
theorem kind18_eq {c : g_api_Cert} (h : FewP c) : m_ref18_kind c = some (kindV c):= by
 have h1:= h.nnames; have h2:= h.npermit; have h3:= h.subject
 unfold m_ref18_kind kindV
 cases c.Ca with
 | false =>
  have hl:= names18_loop (c:= c) (fun s hs=> by have:= h.names s hs; omega) (by omega) c.Names 0 FUEL rfl (by have:= FUEL_big; omega)
  have hl : iter (m_ref18_kind_b2 c) FUEL 0 = some (if c.Names.all (fun s=> nameV s == 0) = true then .inl () else .inr false):= hl
  show (if (!false) = true then _ else _) = some (eqS c.Subject (⟨#[]⟩ : ByteArray) && (listB nameV [] c.Names && decide ((c.Names.length : Int) ≥ 1) && decide ((c.Names.length : Int) ≤ 8)) && (c.Depth == 0) && ((c.Permit.length : Int) == 0))
  rw [if_pos (show (!false) = true from rfl),hl,unlike_eq (by omega),listB_two]
  cases c.Names.all (fun s=> nameV s == 0) with
  | false =>
   show some false = _
   rw [Bool.false_and,Bool.false_and,Bool.false_and,Bool.and_false,Bool.false_and,Bool.false_and]
  | true =>
   rw [if_pos (show true = true from rfl),oZ0]
   show obind (gu _ (some (nodB [] c.Names))) _ = _
   rw [gu_b,oZ0,bnd_eq',Bool.true_and]
   cases eqS c.Subject (⟨#[]⟩ : ByteArray) <;> cases decide ((c.Names.length : Int) ≥ 1) <;> cases decide ((c.Names.length : Int) ≤ 8) <;> cases nodB [] c.Names <;> rfl
 | true =>
  have hl:= permit18_loop (c:= c) (fun s hs=> by have:= h.permit s hs; omega) (by omega) c.Permit 0 FUEL rfl (by have:= FUEL_big; omega)
  have hl : iter (m_ref18_kind_b3 c) FUEL 0 = some (if c.Permit.all (fun s=> patV s == 0) = true then .inl () else .inr false):= hl
  show (if (!true) = true then _ else _) = some (textV c.Subject && ((c.Names.length : Int) == 0) && decide (c.Depth ≥ 0) && decide (c.Depth ≤ 4) && (listB patV [] c.Permit && decide ((c.Permit.length : Int) ≥ 0) && decide ((c.Permit.length : Int) ≤ 8)))
  rw [if_neg (show ¬ (!true) = true from by decide),hl,unlike_eq (by omega),text18_eq (by omega),listB_two,decide_eq_true (show (c.Permit.length : Int) ≥ 0 from by omega)]
  cases c.Permit.all (fun s=> patV s == 0) with
  | false =>
   show some false = _
   rw [Bool.false_and,Bool.false_and,Bool.false_and,Bool.and_false]
  | true =>
   rw [if_pos (show true = true from rfl),oZ0]
   show obind (some (textV c.Subject)) _ = _
   rw [oZ0,gu_b,oZ0,bnd_eq',Bool.true_and]
   cases textV c.Subject <;> cases ((c.Names.length : Int) == 0) <;> cases decide (c.Depth ≥ 0) <;> cases decide (c.Depth ≤ 4) <;> cases decide ((c.Permit.length : Int) ≤ 8) <;> cases nodB [] c.Permit <;> rfl
theorem promB_log {p : g_api_Promise} (h : promB p = true) : 0 ≤ p.Log:= by
 unfold promB at h
 simp only [Bool.and_eq_true] at h
 have:= h.1.1.1
 unfold numB at this
 simp only [Bool.and_eq_true,decide_eq_true_eq] at this
 omega
theorem proms18_loop {c : g_api_Cert} (hn : c.Proms.length ≤ 1000) : ∀ (r : List g_api_Promise) (i f : Nat) (last : Int),c.Proms.drop i = r → r.length < f → (i = 0 → last = -1) → (1 ≤ i → ∃ q,c.Proms[i - 1]? = some q ∧ q.Log = last) →
  iter (m_ref18_form_b2 c) f (i : Int) = some (if promsB last r = true then .inl () else .inr false)
 | r,i,0,last,_,h,_,_=> by omega
 | [],i,f + 1,last,h,_,_,_=> by
  have hl : c.Proms.length ≤ i:= List.drop_eq_nil_iff.1 h
  have e : m_ref18_form_b2 c (i : Int) = some (.inr (.inl ())):= by
   unfold m_ref18_form_b2
   rw [decide_eq_false (by omega)]
   rfl
  show obind (m_ref18_form_b2 c (i : Int)) _ = _
  rw [e]; rfl
 | p :: r,i,f + 1,last,h,hf,l0,l1=> by
  obtain ⟨hc,hr,hlt⟩:= at_drop h
  have ih:= proms18_loop hn r (i + 1) f p.Log hr (by rw [List.length_cons] at hf; omega) (by omega) (fun _=> ⟨p,hc,rfl⟩)
  have e : m_ref18_form_b2 c (i : Int) = some (if (promB p && !(decide (p.Log ≤ last))) = true then .inl ((i + 1 : Nat) : Int) else .inr (.inr false)):= by
   unfold m_ref18_form_b2
   rw [decide_eq_true (show (i : Int) < (c.Proms.length : Int) from by omega),if_pos rfl,idx_list hc,oZ0,prom18_eq,oZ0,w64_suc (by omega)]
   cases hp : promB p with
   | false=> rfl
   | true =>
    by_cases h0 : i = 0
    ·have hl:= l0 h0
     have hpl:= (promB_log hp)
     rw [decide_eq_false (show ¬ (i : Int) > 0 from by omega),decide_eq_false (show ¬ p.Log ≤ last from by omega)]
     rfl
    ·obtain ⟨q,hq,hql⟩:= l1 (by omega)
     have hw : w64 ((i : Int) - 1) = ((i - 1 : Nat) : Int):= by rw [w64_id (by omega) (by omega)]; omega
     rw [decide_eq_true (show (i : Int) > 0 from by omega),hw,idx_list hq]
     show obind (some q) (fun x10=> obind (some p) fun x11=> if ((!true) || (true && decide (x10.Log ≥ x11.Log))) = true then some (.inr (.inr false) : Int ⊕ (Unit ⊕ Bool)) else some (.inl ((i + 1 : Nat) : Int))) = _
     rw [oZ0,oZ0,hql]
     have : decide (last ≥ p.Log) = decide (p.Log ≤ last):= rfl
     rw [this]
     cases decide (p.Log ≤ last) <;> rfl
  show obind (m_ref18_form_b2 c (i : Int)) _ = _
  rw [e]
  show _ = some (if (promB p && !(decide (p.Log ≤ last)) && promsB p.Log r) = true then _ else _)
  cases promB p && !(decide (p.Log ≤ last)) with
  | false=> rfl
  | true=> rw [if_pos rfl,Bool.true_and]; exact ih
theorem form18_eq {c : g_api_Cert} (h : FewP c) : m_ref18_form c = some (formB c):= by
 have h1:= h.issuer; have h2:= h.nproms
 have hl:= proms18_loop (c:= c) (by omega) c.Proms 0 FUEL (-1) rfl (by have:= FUEL_big; omega) (fun _=> rfl) (fun h=> by omega)
 have hl : iter (m_ref18_form_b2 c) FUEL 0 = some (if promsB (-1) c.Proms = true then .inl () else .inr false):= hl
 have eF : formB c = (promsB (-1) c.Proms && (numB c.Serial && numB c.From && numB c.Until && decide (c.From < c.Until)) &&
  (textV c.Issuer && (!((c.Key.toNat : Int) == 0)) && decide ((c.Key.toNat : Int) < 2305843009213691579) && decide ((c.Proms.length : Int) ≤ 4) && sigB c.Sig) && kindV c):= rfl
 have e1 : decide (c.From ≥ c.Until) = !decide (c.From < c.Until):= by rw [← decide_not,decide_eq_decide]; omega
 have e2 : decide ((c.Key.toNat : Int) ≥ 2305843009213691579) = !decide ((c.Key.toNat : Int) < 2305843009213691579):= by rw [← decide_not,decide_eq_decide]; omega
 have e3 : decide ((c.Proms.length : Int) > 4) = !decide ((c.Proms.length : Int) ≤ 4):= by rw [← decide_not,decide_eq_decide]; omega
 have e4 : decide ((c.Key.toNat : Int) < 1) = ((c.Key.toNat : Int) == 0):= by
  rw [Bool.eq_iff_iff,decide_eq_true_eq,beq_iff_eq]; omega
 rw [eF]
 unfold m_ref18_form
 rw [num18_eq,oZ0,num18_eq,gu_b,oZ0,num18_eq,gu_b,oZ0,text18_eq (by omega),gu_b,oZ0,sig18_eq,gu_b,oZ0,hl,kind18_eq h,e1,e2,e3,e4]
 generalize numB c.Serial = a1
 generalize numB c.From = a2
 generalize numB c.Until = a3
 generalize decide (c.From < c.Until) = a4
 generalize textV c.Issuer = b1
 generalize ((c.Key.toNat : Int) == 0) = b2
 generalize decide ((c.Key.toNat : Int) < 2305843009213691579) = b3
 generalize decide ((c.Proms.length : Int) ≤ 4) = b4
 generalize sigB c.Sig = b5
 generalize kindV c = k
 generalize promsB (-1) c.Proms = p
 cases a1 <;> cases a2 <;> cases a3 <;> cases a4 <;> try (cases p <;> rfl)
 all_goals cases b1 <;> cases b2 <;> cases b3 <;> cases b4 <;> cases b5 <;> cases p <;> try rfl
 all_goals cases k <;> rfl
end Go.Proofs.YtlnbckkkapbdmaaGreatDoor
end
section
namespace Go.Proofs.YtlnbckkkapbdmaaGreatDoor
open Go Go.Gw Go.Ax
theorem least07_eq (l : List UInt8) : m_ref07_least l = some (leastB l):= by
 match l with
 | []=> rfl
 | [a]=> rfl
 | a :: b :: l =>
  unfold m_ref07_least
  by_cases h8 : (a :: b :: l).length ≤ 8
  ·have e0 : (decide (((a :: b :: l).length : Int) < 1) || decide (((a :: b :: l).length : Int) > 8)) = false:= by
    rw [Bool.or_eq_false_iff,decide_eq_false_iff_not,decide_eq_false_iff_not]
    simp only [List.length_cons] at h8 ⊢
    omega
   have e1 : (((a :: b :: l).length : Int) == 1) = false:= by simp only [beq_eq_false_iff_ne,List.length_cons]; omega
   have i0 : idx (a :: b :: l) 0 = some a:= rfl
   have i1 : idx (a :: b :: l) 1 = some b:= rfl
   have el : leastB (a :: b :: l) = !((a.toNat : Int) == if b.toNat < 128 then 0 else 255):= by
    show (decide (((a :: b :: l).length : Int) ≤ 8) && !((a.toNat : Int) == ((toB (-((shrB b 7).toNat : Int))).toNat : Int))) = _
    rw [sign_byte,decide_eq_true (show ((a :: b :: l).length : Int) ≤ 8 from by omega),Bool.true_and]
   rw [e0,if_neg (by decide),e1,i0,i1,el]
   rw [show gu (!false) (some a) = some a from rfl,oZ0]
   have ha:= a.toNat_lt
   cases hz : ((a.toNat : Int) == 0) with
   | true =>
    have hz' : (a.toNat : Int) = 0:= by simpa using hz
    have h255 : ((a.toNat : Int) == 255) = false:= by rw [beq_eq_false_iff_ne]; omega
    rw [show gu ((!false) && true) (some b) = some b from rfl,oZ0]
    by_cases hb : b.toNat < 128
    ·rw [decide_eq_true (show (b.toNat : Int) < 128 from by omega),if_pos hb,hz]
     rfl
    ·rw [decide_eq_false (show ¬ (b.toNat : Int) < 128 from by omega),if_neg hb,h255]
     rw [show gu ((!false) && (!(true && false))) (some a) = some a from rfl,oZ0,h255]
     rfl
   | false =>
    rw [show gu ((!false) && false) (some b) = some default from rfl,oZ0]
    rw [show gu ((!false) && (!(false && decide (((default : UInt8).toNat : Int) < 128)))) (some a) = some a from rfl,oZ0]
    cases h255 : ((a.toNat : Int) == 255) with
    | true =>
     rw [show gu (((!false) && (!(false && decide (((default : UInt8).toNat : Int) < 128)))) && true) (some b) = some b from rfl,oZ0,bnd_eq']
     by_cases hb : b.toNat < 128
     ·rw [decide_eq_false (show ¬ (b.toNat : Int) ≥ 128 from by omega),if_pos hb,hz]
      rfl
     ·rw [decide_eq_true (show (b.toNat : Int) ≥ 128 from by omega),if_neg hb,h255]
      rfl
    | false =>
     rw [show gu (((!false) && (!(false && decide (((default : UInt8).toNat : Int) < 128)))) && false) (some b) = some default from rfl,oZ0,bnd_eq']
     by_cases hb : b.toNat < 128
     ·rw [if_pos hb,hz]; rfl
     ·rw [if_neg hb,h255]; rfl
  ·have e0 : (decide (((a :: b :: l).length : Int) < 1) || decide (((a :: b :: l).length : Int) > 8)) = true:= by
    rw [Bool.or_eq_true,decide_eq_true_eq,decide_eq_true_eq]; omega
   rw [e0,if_pos rfl]
   show some false = some (decide (((a :: b :: l).length : Int) ≤ 8) && _)
   rw [decide_eq_false (by omega),Bool.false_and]
theorem text07_loop {l : List UInt8} (hn : l.length ≤ 1000000) : ∀ (r : List UInt8) (i f : Nat),l.drop i = r → r.length < f → iter (m_ref07_text_b1 l) f (i : Int) = some (if printB r = true then .inl () else .inr false)
 | r,i,0,_,h=> by omega
 | [],i,f + 1,h,_=> by
  have hl : l.length ≤ i:= List.drop_eq_nil_iff.1 h
  have e : m_ref07_text_b1 l (i : Int) = some (.inr (.inl ())):= by
   unfold m_ref07_text_b1
   rw [decide_eq_false (by omega)]
   rfl
  show obind (m_ref07_text_b1 l (i : Int)) _ = _
  rw [e]; rfl
 | c :: r,i,f + 1,h,hf=> by
  obtain ⟨hc,hr,hlt⟩:= at_drop h
  have ih:= text07_loop hn r (i + 1) f hr (by rw [List.length_cons] at hf; omega)
  have e : m_ref07_text_b1 l (i : Int) = some (if (decide (32 ≤ c.toNat) && decide (c.toNat ≤ 126)) = true then .inl ((i + 1 : Nat) : Int) else .inr (.inr false)):= by
   unfold m_ref07_text_b1
   rw [decide_eq_true (by omega),if_pos rfl,idx_list hc,oZ0,w64_suc (by omega)]
   have e33 : decide ((c.toNat : Int) < 32) = !decide (32 ≤ c.toNat):= by rw [← decide_not,decide_eq_decide]; omega
   have e126 : decide ((c.toNat : Int) > 126) = !decide (c.toNat ≤ 126):= by rw [← decide_not,decide_eq_decide]; omega
   rw [e33]
   cases decide (32 ≤ c.toNat) with
   | false=> rfl
   | true =>
    rw [show gu (!(!true)) (some c) = some c from rfl,oZ0,e126]
    cases decide (c.toNat ≤ 126) <;> rfl
  show obind (m_ref07_text_b1 l (i : Int)) _ = _
  rw [e]
  show _ = some (if ((decide (32 ≤ c.toNat) && decide (c.toNat ≤ 126)) && printB r) = true then _ else _)
  cases decide (32 ≤ c.toNat) && decide (c.toNat ≤ 126) with
  | false=> rfl
  | true=> rw [if_pos rfl,Bool.true_and]; exact ih
theorem textP_eq {l : List UInt8} (hn : l.length ≤ 1000000) : m_ref07_text l = some (printB l):= by
 have h:= text07_loop hn l 0 FUEL rfl (by have:= FUEL_big; omega)
 have h : iter (m_ref07_text_b1 l) FUEL 0 = some (if printB l = true then .inl () else .inr false):= h
 unfold m_ref07_text
 rw [h]
 cases printB l <;> rfl
def smallI : Nat → g_api_Item → Prop
 | 0,_=> True
 | d + 1,x=> x.B.length ≤ 1000000 ∧ x.L.length ≤ 1000000 ∧ ∀ y ∈ x.L,smallI d y
theorem form_loop (rF : g_api_Item → Option Bool) (p : g_api_Item → Bool) {x : g_api_Item} (hn : x.L.length ≤ 1000000) (hp : ∀ y ∈ x.L,rF y = some (p y)) : ∀ (r : List g_api_Item) (i f : Nat),x.L.drop i = r → r.length < f →
  iter (m_ref07_form_b2 rF x) f (i : Int) = some (if r.all p = true then .inl () else .inr false)
 | r,i,0,_,h=> by omega
 | [],i,f + 1,h,_=> by
  have hl : x.L.length ≤ i:= List.drop_eq_nil_iff.1 h
  have e : m_ref07_form_b2 rF x (i : Int) = some (.inr (.inl ())):= by
   unfold m_ref07_form_b2
   rw [decide_eq_false (by omega)]
   rfl
  show obind (m_ref07_form_b2 rF x (i : Int)) _ = _
  rw [e]; rfl
 | y :: r,i,f + 1,h,hf=> by
  obtain ⟨hc,hr,hlt⟩:= at_drop h
  have ih:= form_loop rF p hn hp r (i + 1) f hr (by rw [List.length_cons] at hf; omega)
  have e : m_ref07_form_b2 rF x (i : Int) = some (if p y = true then .inl ((i + 1 : Nat) : Int) else .inr (.inr false)):= by
   unfold m_ref07_form_b2
   rw [decide_eq_true (by omega),if_pos rfl,idx_list hc,oZ0,hp y (List.mem_of_getElem? hc),oZ0,w64_suc (by omega)]
   cases p y <;> rfl
  show obind (m_ref07_form_b2 rF x (i : Int)) _ = _
  rw [e,List.all_cons]
  cases p y with
  | false=> rfl
  | true=> rw [if_pos rfl,Bool.true_and]; exact ih
theorem form07_eq : ∀ (d n : Nat) (x : g_api_Item),d ≤ n → depB d x → smallI d x → r_ref07_form n x = some (mayB d x)
 | 0,n,x,_,h,_=> h.elim
 | d + 1,0,x,h,_,_=> by omega
 | d + 1,n + 1,x,hn,hd,hs=> by
  have ih : ∀ y ∈ x.L,r_ref07_form n y = some (mayB d y):= fun y hy=> form07_eq d n y (by omega) (hd y hy) (hs.2.2 y hy)
  have hl:= form_loop (r_ref07_form n) (mayB d) hs.2.1 ih x.L 0 FUEL rfl (by have:= FUEL_big; have:= hs.2.1; omega)
  have hl : iter (m_ref07_form_b2 (r_ref07_form n) x) FUEL 0 = some (if x.L.all (mayB d) = true then .inl () else .inr false):= hl
  show m_ref07_form_r (r_ref07_form n) x = _
  unfold m_ref07_form_r mayB
  have e2 : decide ((x.L.length : Int) > 0) = !x.L.isEmpty:= by
   cases x.L with
   | nil=> rfl
   | cons a l=> show decide _ = true; rw [decide_eq_true_eq,List.length_cons]; omega
  rw [e2,show (x.Tag != 48) = !(x.Tag == 48) from rfl]
  cases hE : x.L.isEmpty with
  | false =>
   cases h48 : x.Tag == 48 with
   | false =>
    rw [show ((!false) && (!false)) = true from rfl,if_pos rfl,Bool.false_or,Bool.and_false,Bool.false_and]
   | true =>
    have ht : x.Tag = 48:= by simpa using h48
    rw [show ((!true) && (!false)) = false from rfl,if_neg (by decide),ht,if_neg (by decide),if_neg (by decide),if_neg (by decide),if_neg (by decide),if_pos (by decide),hl]
    show _ = some ((x.B.isEmpty && (true || false)) && x.L.all (mayB d))
    have eb : ((x.B.length : Int) == 0) = x.B.isEmpty:= by
     cases x.B with
     | nil=> rfl
     | cons a l=> show _ = false; rw [beq_eq_false_iff_ne,List.length_cons]; omega
    cases x.L.all (mayB d) with
    | false=> rw [Bool.and_false]; rfl
    | true =>
     show some ((x.B.length : Int) == 0) = _
     rw [eb,Bool.and_true,Bool.true_or,Bool.and_true]
  | true =>
   have hLn : x.L = []:= List.isEmpty_iff.1 hE
   have hall : x.L.all (mayB d) = true:= by rw [hLn]; rfl
   rw [hall] at hl
   rw [hall,Bool.or_true,Bool.and_true,Bool.and_true,Bool.not_true,Bool.and_false,if_neg (by decide)]
   by_cases h1 : x.Tag = 1
   ·rw [h1,if_pos (by decide)]
    have:= kinds1_eq x.B
    unfold m_der_kinds_1 at this
    rw [this]
    rfl
   rw [if_neg (show ¬ (x.Tag == 1) = true from by simp [h1])]
   by_cases h2 : x.Tag = 2
   ·rw [h2,if_pos (by decide),least07_eq]
    rfl
   rw [if_neg (show ¬ (x.Tag == 2) = true from by simp [h2])]
   by_cases h4 : x.Tag = 4
   ·rw [h4,if_pos (by decide)]
    rfl
   rw [if_neg (show ¬ (x.Tag == 4) = true from by simp [h4])]
   by_cases h12 : x.Tag = 12
   ·rw [h12,if_pos (by decide),textP_eq hs.1]
    rfl
   rw [if_neg (show ¬ (x.Tag == 12) = true from by simp [h12])]
   by_cases h48 : x.Tag = 48
   ·rw [h48,if_pos (by decide),hl]
    have eb : ((x.B.length : Int) == 0) = x.B.isEmpty:= by
     cases x.B with
     | nil=> rfl
     | cons a l=> show _ = false; rw [beq_eq_false_iff_ne,List.length_cons]; omega
    show some ((x.B.length : Int) == 0) = some x.B.isEmpty
    rw [eb]
   ·rw [if_neg (show ¬ (x.Tag == 48) = true from by simp [h48])]
    unfold kindB
    rw [if_neg h1,if_neg h2,if_neg h4,if_neg h12,if_neg h48]
theorem deep_loop (rF : g_api_Item → Option Int) (d : Nat) {x : g_api_Item} (hn : x.L.length ≤ 1000000) (hp : ∀ y ∈ x.L,∃ k : Int,rF y = some k ∧ 1 ≤ k ∧ k ≤ d) : ∀ (r : List g_api_Item) (i f : Nat) (m : Int),x.L.drop i = r → r.length < f → 0 ≤ m → m ≤ d →
  ∃ k : Int,iter (m_ref07_Deep_b2 rF x) f (m,(i : Int)) = some k ∧ 0 ≤ k ∧ k ≤ d
 | r,i,0,m,_,h,_,_=> by omega
 | [],i,f + 1,m,h,_,h0,h1=> by
  have hl : x.L.length ≤ i:= List.drop_eq_nil_iff.1 h
  have e : m_ref07_Deep_b2 rF x (m,(i : Int)) = some (.inr m):= by
   unfold m_ref07_Deep_b2
   show (if decide ((i : Int) < (x.L.length : Int)) = true then _ else _) = _
   rw [decide_eq_false (by omega)]
   rfl
  refine ⟨m,?_,h0,h1⟩
  show obind (m_ref07_Deep_b2 rF x (m,(i : Int))) _ = _
  rw [e]; rfl
 | y :: r,i,f + 1,m,h,hf,h0,h1=> by
  obtain ⟨hc,hr,hlt⟩:= at_drop h
  obtain ⟨q,hq,q1,q2⟩:= hp y (List.mem_of_getElem? hc)
  obtain ⟨k,e,k0,k1⟩:= deep_loop rF d hn hp r (i + 1) f (maxI m q) hr (by rw [List.length_cons] at hf; omega) (by unfold maxI; split <;> omega) (by unfold maxI; split <;> omega)
  refine ⟨k,?_,k0,k1⟩
  have es : m_ref07_Deep_b2 rF x (m,(i : Int)) = some (.inl (maxI m q,((i + 1 : Nat) : Int))):= by
   unfold m_ref07_Deep_b2
   show (if decide ((i : Int) < (x.L.length : Int)) = true then _ else _) = _
   rw [decide_eq_true (by omega),if_pos rfl]
   show obind (idx x.L (i : Int)) _ = _
   rw [idx_list hc,oZ0,hq,oZ0,w64_suc (by omega)]
  show obind (m_ref07_Deep_b2 rF x (m,(i : Int))) _ = _
  rw [es]
  exact e
theorem deep_le : ∀ (d n : Nat) (x : g_api_Item),d ≤ n → d ≤ 1000 → depB d x → smallI d x → ∃ k : Int,r_ref07_Deep n x = some k ∧ 1 ≤ k ∧ k ≤ d
 | 0,n,x,_,_,h,_=> h.elim
 | d + 1,0,x,h,_,_,_=> by omega
 | d + 1,n + 1,x,hn,hk,hd,hs=> by
  obtain ⟨k,e,k0,k1⟩:= deep_loop (r_ref07_Deep n) d hs.2.1 (fun y hy=> deep_le d n y (by omega) (by omega) (hd y hy) (hs.2.2 y hy)) x.L 0 FUEL 0 rfl (by have:= FUEL_big; have:= hs.2.1; omega) (by omega) (by omega)
  have e : iter (m_ref07_Deep_b2 (r_ref07_Deep n) x) FUEL (0,0) = some k:= e
  refine ⟨k + 1,?_,by omega,by omega⟩
  show m_ref07_Deep_r (r_ref07_Deep n) x = _
  unfold m_ref07_Deep_r
  rw [e,oZ0,oZ0,w64_id (by omega) (by omega)]
theorem May07_eq {x : g_api_Item} (hd : depB 8 x) (hs : smallI 8 x) : m_ref07_May x = some (mayB 8 x):= by
 obtain ⟨k,e,k0,k1⟩:= deep_le 8 FUEL x (by have:= FUEL_big; omega) (by decide) hd hs
 have e : m_ref07_Deep x = some k:= e
 have ef : m_ref07_form x = some (mayB 8 x):= form07_eq 8 FUEL x (by have:= FUEL_big; omega) hd hs
 unfold m_ref07_May
 rw [ef,oZ0,e]
 cases mayB 8 x with
 | false=> rfl
 | true =>
  rw [gu_tt,oZ0,decide_eq_true (show k ≤ 8 from by omega)]
  rfl
theorem length07_eq {n : Nat} (hn : n ≤ 100000000000000) : m_ref07_length (n : Int) = some (lenB n):= by
 unfold m_ref07_length lenB
 by_cases h1 : n < 128
 ·rw [decide_eq_true (show (n : Int) < 128 from by omega),if_pos rfl,if_pos h1]
 ·rw [decide_eq_false (show ¬ (n : Int) < 128 from by omega),if_neg (by decide),if_neg h1]
  by_cases h2 : n < 256
  ·rw [decide_eq_true (show (n : Int) < 256 from by omega),if_pos rfl,if_pos h2]
  ·rw [decide_eq_false (show ¬ (n : Int) < 256 from by omega),if_neg (by decide),if_neg h2,bnd_eq']
   have e : w64 (Int.tdiv (n : Int) 256) = shr64 (n : Int) 8:= by
    have : Int.tdiv (n : Int) 256 = (n : Int) / 256:= Int.tdiv_eq_ediv_of_nonneg (by omega)
    rw [this]
    unfold shr64
    rw [Int.fdiv_eq_ediv_of_nonneg _ (by decide)]
    show w64 ((n : Int) / 256) = (n : Int) / 256
    rw [w64_id (by omega) (by omega)]
   rw [e]
theorem bytes_loop (rF : g_api_Item → Option (List UInt8)) (p : g_api_Item → List UInt8) {x : g_api_Item} (hn : x.L.length ≤ 1000000) (hp : ∀ y ∈ x.L,rF y = some (p y)) : ∀ (r : List g_api_Item) (i f : Nat) (a : List UInt8),x.L.drop i = r → r.length < f → a.length + (r.flatMap p).length ≤ 100000000000000 →
  iter (m_ref07_bytes_b2 rF x) f (a,(i : Int)) = some (a ++ r.flatMap p)
 | r,i,0,a,_,h,_=> by omega
 | [],i,f + 1,a,h,_,_=> by
  have hl : x.L.length ≤ i:= List.drop_eq_nil_iff.1 h
  have e : m_ref07_bytes_b2 rF x (a,(i : Int)) = some (.inr a):= by
   unfold m_ref07_bytes_b2
   show (if decide ((i : Int) < (x.L.length : Int)) = true then _ else _) = _
   rw [decide_eq_false (by omega)]
   rfl
  show obind (m_ref07_bytes_b2 rF x (a,(i : Int))) _ = _
  rw [e]
  simp
 | y :: r,i,f + 1,a,h,hf,ha=> by
  obtain ⟨hc,hr,hlt⟩:= at_drop h
  rw [List.flatMap_cons,List.length_append] at ha
  have es : m_ref07_bytes_b2 rF x (a,(i : Int)) = some (.inl (a ++ p y,((i + 1 : Nat) : Int))):= by
   unfold m_ref07_bytes_b2
   show (if decide ((i : Int) < (x.L.length : Int)) = true then _ else _) = _
   rw [decide_eq_true (by omega),if_pos rfl]
   show obind (idx x.L (i : Int)) _ = _
   rw [idx_list hc,oZ0,hp y (List.mem_of_getElem? hc),oZ0]
   show obind (app 1 a (p y)) _ = _
   rw [app_ok 1 (by omega) (by omega),oZ0,w64_suc (by omega)]
  show obind (m_ref07_bytes_b2 rF x (a,(i : Int))) _ = _
  rw [es]
  show iter (m_ref07_bytes_b2 rF x) f (a ++ p y,((i + 1 : Nat) : Int)) = _
  rw [bytes_loop rF p hn hp r (i + 1) f (a ++ p y) hr (by rw [List.length_cons] at hf; omega) (by rw [List.length_append]; omega),List.flatMap_cons,List.append_assoc]
theorem memF_len (p : g_api_Item → List UInt8) {y : g_api_Item} : ∀ {l : List g_api_Item},y ∈ l → (p y).length ≤ (l.flatMap p).length
 | z :: l,h=> by
  rw [List.flatMap_cons,List.length_append]
  rcases List.mem_cons.1 h with e | h
  ·rw [e]; omega
  ·have:= memF_len p h; omega
theorem bytes07 : ∀ (d n : Nat) (x : g_api_Item),d ≤ n → depB d x → smallI d x → (putB d x).length ≤ 10000000000000 → r_ref07_bytes n x = some (putB d x)
 | 0,n,x,_,h,_,_=> h.elim
 | d + 1,0,x,h,_,_,_=> by omega
 | d + 1,n + 1,x,hn,hd,hs,hl=> by
  have eP : putB (d + 1) x = toB x.Tag :: (lenB (x.B ++ x.L.flatMap (putB d)).length ++ (x.B ++ x.L.flatMap (putB d))):= rfl
  rw [eP] at hl ⊢
  simp only [List.length_cons,List.length_append] at hl
  have ih : ∀ y ∈ x.L,r_ref07_bytes n y = some (putB d y):= fun y hy=> bytes07 d n y (by omega) (hd y hy) (hs.2.2 y hy) (by have:= memF_len (putB d) hy; omega)
  have hloop:= bytes_loop (r_ref07_bytes n) (putB d) hs.2.1 ih x.L 0 FUEL x.B rfl (by have:= FUEL_big; have:= hs.2.1; omega) (by omega)
  have hloop : iter (m_ref07_bytes_b2 (r_ref07_bytes n) x) FUEL (x.B,0) = some (x.B ++ x.L.flatMap (putB d)):= hloop
  show m_ref07_bytes_r (r_ref07_bytes n) x = _
  unfold m_ref07_bytes_r
  have hb:= lenB_len (x.B ++ x.L.flatMap (putB d)).length
  rw [app_nil 1 (by omega) (by omega),oZ0,hloop,oZ0,oZ0]
  have hc : (x.B ++ x.L.flatMap (putB d)).length ≤ 10000000000000:= by rw [List.length_append]; omega
  generalize x.B ++ x.L.flatMap (putB d) = c at hb hc ⊢
  rw [length07_eq (by omega),oZ0,app_ok 1 (by simp only [List.length_cons,List.length_nil]; omega) (by simp only [List.length_cons,List.length_nil]; omega),oZ0,app_ok 1 (by simp only [List.length_append,List.length_cons,List.length_nil]; omega) (by simp only [List.length_append,List.length_cons,List.length_nil]; omega),oZ0]
  simp
theorem Put07_eq {x : g_api_Item} (hd : depB 8 x) (hs : smallI 8 x) (hl : (putB 8 x).length ≤ 10000000000) : m_ref07_Put x = m_der_Put x:= by
 rw [Put_eq (by omega)]
 unfold m_ref07_Put
 rw [May07_eq hd hs,oZ0]
 cases hm : mayB 8 x with
 | false=> rfl
 | true =>
  have eb : m_ref07_bytes x = some (putB 8 x):= bytes07 8 FUEL x (by have:= FUEL_big; omega) hd hs (by omega)
  rw [show (!true) = false from rfl,if_neg (by decide),eb,oZ0,if_pos rfl]
  by_cases h : (putB 8 x).length ≤ 8192
  ·rw [decide_eq_false (show ¬ ((putB 8 x).length : Int) > 8192 from by omega),if_pos h]
   rfl
  ·rw [decide_eq_true (show ((putB 8 x).length : Int) > 8192 from by omega),if_neg h]
   rfl
end Go.Proofs.YtlnbckkkapbdmaaGreatDoor
end
section
namespace Go.Proofs.YtlnbckkkapbdmaaGreatDoor
open Go Go.Gw Go.Ax
def fewI : Nat → g_api_Item → Prop
 | 0,_=> True
 | d + 1,x=> x.L.length ≤ 100000 ∧ ∀ y ∈ x.L,fewI d y
def truthV : List UInt8 → Bool
 | []=> false
 | a :: _=> (a.toNat : Int) != 0
abbrev Its:= List g_api_Item
def rd {α : Type} (p : Option (α × Its)) : Option (Option (α × g_cert_reader)):= some (p.map fun q=> (q.1,⟨q.2⟩))
def next1 {α : Type} (tag : Int) (v : g_api_Item → α) : Its → Option (α × Its)
 | []=> none
 | x :: r=> if x.Tag = tag ∧ mayB 8 x = true then some (v x,r) else none
def count1 (l : Its) : Option (Int × Its):= (next1 2 (fun x=> asintV x.B) l).bind fun p=> if 0 ≤ p.1 then some p else none
def big1 (l : Its) : Option (UInt64 × Its):= (count1 l).map fun p=> (toU p.1,p.2)
def sub1 (l : Its) : Option (Its × Its):= next1 48 (fun x=> x.L) l
def allT : Its → Option (List ByteArray)
 | []=> some []
 | x :: r=> if x.Tag = 12 ∧ mayB 8 x = true then (allT r).map fun t=> bs x.B :: t else none
def texts1 (l : Its) : Option (List ByteArray × Its):= (sub1 l).bind fun p=> (allT p.1).map fun t=> (t,p.2)
end Go.Proofs.YtlnbckkkapbdmaaGreatDoor
end
section
namespace Go.Proofs.YtlnbckkkapbdmaaGreatDoor
open Go Go.Gw Go.Ax
theorem may_up : ∀ {d : Nat} {x : g_api_Item},mayB d x = true → mayB (d + 1) x = true
 | 0,x,h=> by cases h
 | d + 1,x,h=> by
  simp only [mayB,Bool.and_eq_true,List.all_eq_true] at h
  unfold mayB
  simp only [Bool.and_eq_true,List.all_eq_true]
  exact ⟨h.1,fun y hy=> may_up (h.2 y hy)⟩
theorem may_le {d e : Nat} {x : g_api_Item} (h : d ≤ e) (hm : mayB d x = true) : mayB e x = true:= by
 induction h with
 | refl=> exact hm
 | step _ ih=> exact may_up ih
theorem may_in {d : Nat} {x y : g_api_Item} (h : mayB (d + 1) x = true) (hy : y ∈ x.L) : mayB d y = true:= by
 simp only [mayB,Bool.and_eq_true,List.all_eq_true] at h
 exact h.2 y hy
def text1 : Its → Option (ByteArray × Its):= next1 12 (fun x=> bs x.B)
def bool1 : Its → Option (Bool × Its):= next1 1 (fun x=> truthV x.B)
def pre1 (l : Its) : Option (g_api_Cert × Its) :=
 (count1 l).bind fun x1=> (text1 x1.2).bind fun x2=> (text1 x2.2).bind fun x3=> (big1 x3.2).bind fun x4=> (texts1 x4.2).bind fun x5 =>
 (count1 x5.2).bind fun x6=> (count1 x6.2).bind fun x7=> (bool1 x7.2).bind fun x8=> (count1 x8.2).bind fun x9=> (texts1 x9.2).bind fun x10 =>
 if x10.2 = [] then some (⟨x1.1,x2.1,x3.1,x4.1,x5.1,x6.1,x7.1,x8.1,x9.1,x10.1,[],⟨0,0⟩⟩,[]) else none
def few1 (l : Its) : Prop:= ∀ x ∈ l,x.L.length ≤ 100000
def prom1 (l : Its) : Option (g_api_Promise × Its) :=
 (count1 l).bind fun x1=> (count1 x1.2).bind fun x2=> (big1 x2.2).bind fun x3=> (big1 x3.2).bind fun x4=> (big1 x4.2).bind fun x5=> (big1 x5.2).bind fun x6=> some (⟨x1.1,x2.1,(x3.1,x4.1),⟨x5.1,x6.1⟩⟩,x6.2)
structure Nums (c : g_api_Cert) : Prop where
 serial : 0 ≤ c.Serial ∧ c.Serial ≤ 1099511627776
 frm : 0 ≤ c.From ∧ c.From ≤ 1099511627776
 til : 0 ≤ c.Until ∧ c.Until ≤ 1099511627776
 key : c.Key.toNat < 2305843009213691579
 depth : 0 ≤ c.Depth ∧ c.Depth ≤ 4
 sig : sigB c.Sig = true
 proms : ∀ p ∈ c.Proms,promB p = true
theorem numB_rng {n : Int} (h : numB n = true) : 0 ≤ n ∧ n ≤ 1099511627776:= by
 unfold numB at h
 simp only [Bool.and_eq_true,decide_eq_true_eq] at h
 omega
theorem Form.nums {c : g_api_Cert} (h : Form c) : Nums c:= by
 refine ⟨numB_rng h.serial,numB_rng h.frm,numB_rng h.til,by have:= h.keyQ; omega,?_,h.sig,promsB_all h.proms⟩
 cases hc : c.Ca with
 | true=> obtain ⟨_,_,a,b,_⟩:= h.ca hc; exact ⟨a,b⟩
 | false=> obtain ⟨_,_,a,_⟩:= h.leaf hc; omega
theorem maxU_lt {a b : UInt64} {n : Nat} (h : (maxU a b).toNat < n) : a.toNat < n ∧ b.toNat < n:= by
 unfold maxU at h
 by_cases hc : b > a
 ·rw [if_pos hc] at h
  have:= UInt64.lt_iff_toNat_lt.1 hc
  omega
 ·rw [if_neg hc] at h
  have : ¬ a.toNat < b.toNat:= fun x=> hc (UInt64.lt_iff_toNat_lt.2 x)
  omega
theorem sigB_rng {s : g_api_Sig} (h : sigB s = true) : s.E.toNat < 1152921504606845789 ∧ s.S.toNat < 1152921504606845789:= by
 unfold sigB at h
 exact maxU_lt (of_decide_eq_true h)
theorem promB_rng {p : g_api_Promise} (h : promB p = true) : (0 ≤ p.Log ∧ p.Log ≤ 1099511627776) ∧ (0 ≤ p.At ∧ p.At ≤ 1099511627776) ∧ (p.Leaf.1.toNat < 2305843009213693951 ∧ p.Leaf.2.toNat < 2305843009213693951) ∧ p.Sig.E.toNat < 1152921504606845789 ∧ p.Sig.S.toNat < 1152921504606845789:= by
 unfold promB at h
 simp only [Bool.and_eq_true] at h
 exact ⟨numB_rng h.1.1.1,numB_rng h.1.1.2,maxU_lt (of_decide_eq_true h.1.2),sigB_rng h.2⟩
def bareP (c : g_api_Cert) : g_api_Cert:= ⟨c.Serial,c.Issuer,c.Subject,c.Key,c.Names,c.From,c.Until,c.Ca,c.Depth,c.Permit,[],⟨0,0⟩⟩
def bareS (c : g_api_Cert) : g_api_Cert:= ⟨c.Serial,c.Issuer,c.Subject,c.Key,c.Names,c.From,c.Until,c.Ca,c.Depth,c.Permit,c.Proms,⟨0,0⟩⟩
end Go.Proofs.YtlnbckkkapbdmaaGreatDoor
end
section
namespace Go.Proofs.YtlnbckkkapbdmaaGreatDoor
open Go Go.Gw Go.Ax
theorem put_stable : ∀ {d e : Nat} {x : g_api_Item},mayB d x = true → d ≤ e → putB e x = putB d x
 | 0,e,x,h,_=> by cases h
 | d + 1,0,x,_,h=> by omega
 | d + 1,e + 1,x,h,hd=> by
  have hf : ∀ (l : List g_api_Item),(∀ y ∈ l,mayB d y = true) → l.flatMap (putB e) = l.flatMap (putB d):= by
   intro l
   induction l with
   | nil=> intro _; rfl
   | cons y l ih =>
    intro hl
    rw [List.flatMap_cons,List.flatMap_cons,put_stable (hl y List.mem_cons_self) (by omega),ih fun z hz=> hl z (List.mem_cons_of_mem _ hz)]
  have:= hf x.L fun y hy=> may_in h hy
  show toB x.Tag :: (lenB (x.B ++ x.L.flatMap (putB e)).length ++ (x.B ++ x.L.flatMap (putB e))) = toB x.Tag :: (lenB (x.B ++ x.L.flatMap (putB d)).length ++ (x.B ++ x.L.flatMap (putB d)))
  rw [this]
theorem in_len {d : Nat} {x y : g_api_Item} (h : mayB (d + 1) x = true) (hd : d + 1 ≤ 8) (hy : y ∈ x.L) : (putB 8 y).length ≤ (putB 8 x).length:= by
 rw [put_stable h hd,put_stable (may_in h hy) (by omega)]
 have h1:= flat_mem (putB d) hy
 show _ ≤ (toB x.Tag :: (lenB (x.B ++ x.L.flatMap (putB d)).length ++ (x.B ++ x.L.flatMap (putB d)))).length
 have e : (x.B ++ x.L.flatMap (putB d)).length = x.B.length + (x.L.flatMap (putB d)).length:= List.length_append
 rw [List.length_cons,List.length_append,e]
 omega
def szs (d : Nat) (l : List g_api_Item) : Nat:= (l.flatMap (putB d)).length
theorem in_seq {d : Nat} {l : List g_api_Item} (h : mayB (d + 1) (seqI l) = true) : ∀ y ∈ l,mayB d y = true:= fun y hy=> may_in h hy
structure Okc (c : g_api_Cert) : Prop where
 form : Form c
 fb : formB c = true
 may : mayB 8 (wholeI c) = true
 len : (putB 8 (wholeI c)).length ≤ 2048
theorem okc {c : g_api_Cert} (h : checkV c = 0) : Okc c:= by
 unfold checkV at h
 cases hf : formB c with
 | false=> rw [hf] at h; simp at h
 | true =>
  rw [hf,if_pos rfl] at h
  by_cases h2 : mayB 8 (wholeI c) = true ∧ (putB 8 (wholeI c)).length ≤ 2048
  ·exact ⟨form_of hf,hf,h2.1,h2.2⟩
  ·rw [if_neg h2] at h; cases h
theorem Okc.chk {c : g_api_Cert} (h : Okc c) : checkV c = 0:= by
 unfold checkV
 rw [h.fb,if_pos rfl,if_pos ⟨h.may,h.len⟩]
theorem may_body {c : g_api_Cert} (h : Okc c) : mayB 7 (bodyI c) = true:= in_seq h.may _ (by simp)
theorem may_pre {c : g_api_Cert} (h : Okc c) : mayB 6 (preI c) = true:= in_seq (may_body h) _ (by simp)
def wholeB (c : g_api_Cert) : List UInt8:= putB 8 (wholeI c)
def bodyBy (c : g_api_Cert) : List UInt8:= putB 8 (bodyI c)
def preBy (c : g_api_Cert) : List UInt8:= putB 8 (preI c)
theorem body_le {c : g_api_Cert} (h : Okc c) : (bodyBy c).length ≤ 2048:= by
 have h1:= in_len (y:= bodyI c) h.may (by decide) (by show bodyI c ∈ [bodyI c,_]; simp)
 have h2:= h.len
 show (putB 8 (bodyI c)).length ≤ _
 omega
theorem pre_le {c : g_api_Cert} (h : Okc c) : (preBy c).length ≤ 2048:= by
 have h1:= in_len (y:= preI c) (may_body h) (by decide) (by show preI c ∈ [preI c,_]; simp)
 have h2:= body_le h
 show (putB 8 (preI c)).length ≤ _
 have h3 : (putB 8 (bodyI c)).length ≤ 2048:= h2
 omega
theorem Put_may {x : g_api_Item} (h : mayB 8 x = true) (hl : (putB 8 x).length ≤ 8192) : m_der_Put x = some (putB 8 x,0):= by
 rw [Put_eq (by omega),if_pos h,if_pos hl]
theorem cPut_eq {c : g_api_Cert} (h : Okc c) : m_cert_Put c = some (wholeB c,0):= by
 unfold m_cert_Put m_cert_bytes_39x
 rw [check_eq,h.chk,oZ0,if_neg (by decide),wholeI_eq h.form.sized,oZ0,Put_may h.may (by have:= h.len; omega)]
 rfl
theorem cBody_eq {c : g_api_Cert} (h : Okc c) : m_cert_Body c = some (bodyBy c,0):= by
 unfold m_cert_Body m_cert_bytes_50x
 have hl:= body_le h
 rw [check_eq,h.chk,oZ0,if_neg (by decide),bodyI_eq h.form.sized,oZ0,Put_may (may_le (by decide) (may_body h)) (by show (bodyBy c).length ≤ _; omega)]
 rfl
theorem cPre_eq {c : g_api_Cert} (h : Okc c) : m_cert_Pre c = some (preBy c,0):= by
 unfold m_cert_Pre m_cert_bytes_47x
 have hl:= pre_le h
 rw [check_eq,h.chk,oZ0,if_neg (by decide),preI_eq h.form.sized,oZ0,Put_may (may_le (by decide) (may_pre h)) (by show (preBy c).length ≤ _; omega)]
 rfl
theorem not_zero {z : Int} (h : z ≠ 0) : (z != 0) = true:= by simpa using h
theorem cPut_not {c : g_api_Cert} (h : checkV c ≠ 0) : m_cert_Put c = some ([],checkV c):= by
 unfold m_cert_Put m_cert_bytes_39x
 rw [check_eq,oZ0,if_pos (not_zero h)]
 rfl
theorem cBody_not {c : g_api_Cert} (h : checkV c ≠ 0) : m_cert_Body c = some ([],checkV c):= by
 unfold m_cert_Body m_cert_bytes_50x
 rw [check_eq,oZ0,if_pos (not_zero h)]
 rfl
theorem cPre_not {c : g_api_Cert} (h : checkV c ≠ 0) : m_cert_Pre c = some ([],checkV c):= by
 unfold m_cert_Pre m_cert_bytes_47x
 rw [check_eq,oZ0,if_pos (not_zero h)]
 rfl
end Go.Proofs.YtlnbckkkapbdmaaGreatDoor
end
section
namespace Go.Proofs.YtlnbckkkapbdmaaGreatDoor
open Go Go.Gw Go.Ax
end Go.Proofs.YtlnbckkkapbdmaaGreatDoor
end
section
namespace Go.Proofs.YtlnbckkkapbdmaaGreatDoor
open Go Go.Gw Go.Ax
theorem live18_true : m_law18_live = some true:= by kernel_rfl
end Go.Proofs.YtlnbckkkapbdmaaGreatDoor
end
section
namespace Go.Proofs.YtlnbckkkapbdmaaGreatDoor
open Go Go.Gw Go.Ax
theorem little_tot (l : List ByteArray) : Tot (m_ref18_little l):= by
 unfold m_ref18_little
 obtain ⟨t,e,_⟩:= iter_tot (step:= m_ref18_little_b1 l) (fun i=> (20 - i).toNat) (fun i=> 0 ≤ i ∧ i ≤ 20) (fun _=> True) (fun i hi=> by
  unfold m_ref18_little_b1
  cases h : (decide (i < (l.length : Int)) && decide (i < 20)) with
  | false=> exact ⟨_,rfl,fun s' h=> (by cases h),fun _ _=> trivial⟩
  | true =>
   simp only [Bool.and_eq_true,decide_eq_true_eq] at h
   obtain ⟨x,hx⟩ : ∃ x,idx l i = some x:= by
    unfold idx
    rw [if_pos hi.1]
    exact ⟨_,List.getElem?_eq_getElem (by omega)⟩
   rw [if_pos rfl,hx]
   simp only [oZ0]
   split
   ·exact ⟨_,rfl,fun s' h=> (by cases h),fun _ _=> trivial⟩
   ·refine ⟨_,rfl,fun s' h=> ?_,fun _ h=> (by cases h)⟩
    cases h
    rw [w64_id (by omega) (by omega)]
    omega) FUEL 0 (by omega) (by have:= FUEL_big; show (20 - 0 : Int).toNat < _; omega)
 refine tot_bind ⟨t,e⟩ fun a _=> ?_
 cases a with
 | inl _=> exact tot _
 | inr _=> exact tot _
theorem few_tot (c : g_api_Cert) : Tot (m_ref18_Few c):= by
 unfold m_ref18_Few
 exact tot_bind (tot_gu fun _=> little_tot _) fun a _=> tot_bind (tot_gu fun _=> little_tot _) fun b _=> tot _
end Go.Proofs.YtlnbckkkapbdmaaGreatDoor
end
section
namespace Go.Proofs.YtlnbckkkapbdmaaGreatDoor
open Go Go.Gw Go.Ax
end Go.Proofs.YtlnbckkkapbdmaaGreatDoor
end
section
namespace Go.Proofs.YtlnbckkkapbdmaaGreatDoor
open Go Go.Gw Go.Ax
theorem fits_of {c : g_api_Cert} (h : FewP c) (F : Form c) : Fits c:= by
 have n:= F.nums
 have h1:= n.serial; have h2:= n.frm; have h3:= n.til; have h4:= n.depth
 refine ⟨h,by omega,by omega,by omega,by omega,fun p hp=> ?_⟩
 obtain ⟨q1,q2,_⟩:= promB_rng (n.proms p hp)
 omega
theorem dep_atom {x : g_api_Item} (h : x.L = []) (d : Nat) : depB (d + 1) x:= by
 intro y hy
 rw [h] at hy
 cases hy
theorem dep_seq {d : Nat} {l : List g_api_Item} (h : ∀ y ∈ l,depB d y) : depB (d + 1) (seqI l):= h
theorem sm_atom {x : g_api_Item} (h : x.L = []) (hb : x.B.length ≤ 1000000) (d : Nat) : smallI d x:= by
 cases d with
 | zero=> trivial
 | succ d =>
  refine ⟨hb,by rw [h]; simp,fun y hy=> ?_⟩
  rw [h] at hy
  cases hy
theorem sm_seq {d : Nat} {l : List g_api_Item} (hl : l.length ≤ 1000000) (h : ∀ y ∈ l,smallI d y) : smallI (d + 1) (seqI l):= ⟨by show (0 : Nat) ≤ _; omega,hl,h⟩
theorem sm_int (n : Int) (d : Nat) : smallI d (intI n):= sm_atom rfl (by have:= trim_len (be8 n); have h8 : (be8 n).length = 8:= rfl; show (trim (be8 n)).length ≤ _; omega) d
theorem sm_text {s : ByteArray} (h : s.size ≤ 1000000) (d : Nat) : smallI d (textI s):= sm_atom rfl (by show s.data.toList.length ≤ _; rw [size_list]; exact h) d
theorem sm_bool (v : Bool) (d : Nat) : smallI d (boolI v):= sm_atom rfl (by show (1 : Nat) ≤ _; omega) d
theorem dep_texts (l : List ByteArray) (d : Nat) : depB (d + 2) (textsI l):= dep_seq fun y hy=> by
 obtain ⟨s,_,e⟩:= List.mem_map.1 hy
 rw [← e]; exact dep_atom rfl d
theorem sm_texts {l : List ByteArray} (hl : l.length ≤ 1000) (h : ∀ s ∈ l,s.size ≤ 1000) (d : Nat) : smallI (d + 1) (textsI l):= sm_seq (by rw [List.length_map]; omega) fun y hy=> by
 obtain ⟨s,hs,e⟩:= List.mem_map.1 hy
 rw [← e]; exact sm_text (by have:= h s hs; omega) d
theorem dep_pre (c : g_api_Cert) (d : Nat) : depB (d + 3) (preI c):= dep_seq fun y hy=> by
 simp only [List.mem_cons,List.not_mem_nil,or_false] at hy
 rcases hy with q | q | q | q | q | q | q | q | q | q <;> rw [q]
 ·exact dep_atom rfl _
 ·exact dep_atom rfl _
 ·exact dep_atom rfl _
 ·exact dep_atom rfl _
 ·exact dep_texts _ _
 ·exact dep_atom rfl _
 ·exact dep_atom rfl _
 ·exact dep_atom rfl _
 ·exact dep_atom rfl _
 ·exact dep_texts _ _
theorem sm_pre {c : g_api_Cert} (h : FewP c) (d : Nat) : smallI (d + 2) (preI c):= sm_seq (by simp) fun y hy=> by
 have h1:= h.issuer; have h2:= h.subject; have h3:= h.nnames; have h4:= h.npermit
 simp only [List.mem_cons,List.not_mem_nil,or_false] at hy
 rcases hy with q | q | q | q | q | q | q | q | q | q <;> rw [q]
 ·exact sm_int _ _
 ·exact sm_text (by omega) _
 ·exact sm_text (by omega) _
 ·exact sm_int _ _
 ·exact sm_texts (by omega) (fun s hs=> by have:= h.names s hs; omega) _
 ·exact sm_int _ _
 ·exact sm_int _ _
 ·exact sm_bool _ _
 ·exact sm_int _ _
 ·exact sm_texts (by omega) (fun s hs=> by have:= h.permit s hs; omega) _
theorem dep_prom (p : g_api_Promise) (d : Nat) : depB (d + 2) (promI p):= dep_seq fun y hy=> by
 simp only [List.mem_cons,List.not_mem_nil,or_false] at hy
 rcases hy with q | q | q | q | q | q <;> rw [q] <;> exact dep_atom rfl _
theorem sm_prom (p : g_api_Promise) (d : Nat) : smallI (d + 1) (promI p):= sm_seq (by simp) fun y hy=> by
 simp only [List.mem_cons,List.not_mem_nil,or_false] at hy
 rcases hy with q | q | q | q | q | q <;> rw [q] <;> exact sm_int _ _
theorem dep_body (c : g_api_Cert) (d : Nat) : depB (d + 4) (bodyI c):= dep_seq (mem2 (dep_pre c d) (dep_seq fun y hy=> by
 obtain ⟨p,_,e⟩:= List.mem_map.1 hy
 rw [← e]; exact dep_prom p d))
theorem sm_body {c : g_api_Cert} (h : FewP c) (d : Nat) : smallI (d + 3) (bodyI c):= sm_seq (by simp) (mem2 (sm_pre h d) (sm_seq (by rw [List.length_map]; have:= h.nproms; omega) fun y hy=> by
 obtain ⟨p,_,e⟩:= List.mem_map.1 hy
 rw [← e]; exact sm_prom p d))
theorem dep_sig (a b : UInt64) (d : Nat) : depB (d + 2) (seqI [bigI a,bigI b]):= dep_seq (mem2 (dep_atom rfl d) (dep_atom rfl d))
theorem sm_sig (a b : UInt64) (d : Nat) : smallI (d + 1) (seqI [bigI a,bigI b]):= sm_seq (by simp) (mem2 (sm_int _ d) (sm_int _ d))
theorem dep_whole (c : g_api_Cert) : depB 8 (wholeI c):= dep_seq (mem2 (dep_body c 3) (dep_sig _ _ 5))
theorem sm_whole {c : g_api_Cert} (h : FewP c) : smallI 8 (wholeI c):= sm_seq (by simp) (mem2 (sm_body h 4) (sm_sig _ _ 6))
theorem check18_eq {c : g_api_Cert} (h : FewP c) : m_ref18_Check c = some (checkV c):= by
 unfold m_ref18_Check checkV
 rw [form18_eq h,oZ0]
 cases hf : formB c with
 | false=> rfl
 | true =>
  have F:= form_of hf
  have hs:= F.sized
  have hl:= wholeI_len 8 hs
  rw [show (!true) = false from rfl,if_neg (by decide),whole18_eq (fits_of h F),oZ0,Put07_eq (dep_whole c) (sm_whole h) (by omega),Put_eq (by omega),chk_fin,if_pos rfl]
end Go.Proofs.YtlnbckkkapbdmaaGreatDoor
end
section
namespace Go.Proofs.YtlnbckkkapbdmaaGreatDoor
open Go Go.Gw Go.Ax
theorem bnd_def {α β : Type} (a : α) (k : α → β) : bnd a k = k a:= rfl
theorem iter_up {σ τ : Type} {step : σ → Option (σ ⊕ τ)} {s : σ} {t : τ} (n : Nat) (h : iter step n s = some t) (hn : n ≤ 18446744073709551616) : iter step FUEL s = some t:= iter_mono h hn
theorem iter_step {σ τ : Type} {step : σ → Option (σ ⊕ τ)} {n : Nat} {s s' : σ} (h : step s = some (.inl s')) : iter step (n + 1) s = iter step n s':= by simp only [iter,h,oZ0]
theorem iter_end {σ τ : Type} {step : σ → Option (σ ⊕ τ)} {n : Nat} {s : σ} {t : τ} (h : step s = some (.inr t)) : iter step (n + 1) s = some t:= by simp only [iter,h,oZ0]
theorem app_eq {α : Type} (b : Nat) {xs ys : List α} (h : (xs.length + ys.length) * b ≤ 140737488355328) (h1 : xs.length + ys.length ≤ 140737488355328) : app b xs ys = some (xs ++ ys):= by unfold app; rw [if_pos ⟨h,h1⟩]
theorem cut_eq {α : Type} {xs : List α} {lo hi : Nat} (h1 : lo ≤ hi) (h2 : hi ≤ xs.length) : cut xs (lo : Int) (hi : Int) = some ((xs.drop lo).take (hi - lo)):= by
 unfold cut; rw [if_pos ⟨by omega,by omega,by omega⟩]; simp
def pfold (hi lo : UInt64) : UInt64 :=
 let n:= (lo &&& 2305843009213693951) + ((shlU hi 3) ||| (shrU lo 61))
 let k:= (n &&& 2305843009213693951) + shrU n 61
 if 2305843009213693951 ≤ k.toNat then k - 2305843009213693951 else k
theorem fold_eq (a b : UInt64) : m_field_fold a b = some (pfold a b):= by
 unfold m_field_fold pfold
 simp only [bnd_def]
 generalize (b &&& 2305843009213693951) + ((shlU a 3) ||| (shrU b 61)) = n
 generalize (n &&& 2305843009213693951) + shrU n 61 = k
 by_cases h : 2305843009213693951 ≤ k.toNat
 ·rw [if_pos h,if_pos (decide_eq_true (by omega))]; rfl
 ·rw [if_neg h,if_neg (by simp; omega)]; rfl
def pone (a : UInt64) : UInt64:= pfold 0 a
theorem one_eq (a : UInt64) : m_field_one a = some (pone a):= by simp only [m_field_one,fold_eq,oZ0]; rfl
def padd (a b : UInt64) : UInt64:= pone (pone a + pone b)
theorem add_eq (a b : UInt64) : m_field_Add a b = some (padd a b):= by simp only [m_field_Add,one_eq,oZ0]; rfl
def phi (a0 a1 : UInt64) : UInt64 :=
 let x1:= (a0 &&& 4294967295) * (a1 &&& 4294967295)
 let x2:= ((shrU a0 32) * (a1 &&& 4294967295)) + (shrU x1 32)
 let x3:= (x2 &&& 4294967295) + ((a0 &&& 4294967295) * (shrU a1 32))
 (((shrU a0 32) * (shrU a1 32)) + (shrU x2 32)) + (shrU x3 32)
theorem mul64_eq (a b : UInt64) : m_bits_Mul64 a b = some (phi a b,a * b):= rfl
def pmul (a b : UInt64) : UInt64:= pfold (phi (pone a) (pone b)) (pone a * pone b)
theorem mul_eq (a b : UInt64) : m_field_Mul a b = some (pmul a b):= by simp only [m_field_Mul,one_eq,mul64_eq,fold_eq,oZ0]; rfl
def psev (a : UInt64) : UInt64 :=
 let b:= pmul a a
 let c:= pmul b b
 let d:= pmul c c
 pmul a (pmul d d)
theorem sev_eq (a : UInt64) : m_hash_seventeen a = some (psev a):= by
 simp only [m_hash_seventeen,eachN0,m_hash_seventeen_b1,mul_eq,oZ0]; rfl
def pcon (r i : Int) : UInt64:= let n:= toU (w64 ((w64 ((w64 (3 * r)) + i)) + 1)); n * n * n + 7
def pall (r : Int) (s : UInt64 × UInt64 × UInt64) : UInt64:= padd (padd (padd 0 (psev (padd s.1 (pcon r 0)))) (psev (padd s.2.1 (pcon r 1)))) (psev (padd s.2.2 (pcon r 2)))
def pround (r : Int) (s : UInt64 × UInt64 × UInt64) : UInt64 × UInt64 × UInt64 :=
 (padd (psev (padd s.1 (pcon r 0))) (pall r s),padd (psev (padd s.2.1 (pcon r 1))) (pall r s),padd (psev (padd s.2.2 (pcon r 2))) (pall r s))
theorem mix1_eq (i : Int) (a : UInt64) (r : Int) (all : UInt64) : m_hash_Mix_1 i a r all = some (psev (padd a (pcon r i)),r,padd all (psev (padd a (pcon r i)))):= by
 simp only [m_hash_Mix_1,bnd_def,add_eq,sev_eq,oZ0]; rfl
theorem mix2_eq (i : Int) (a : UInt64) (all : UInt64) : m_hash_Mix_2 i a all = some (padd a all,all):= by
 simp only [m_hash_Mix_2,add_eq,oZ0]
theorem each_eq {σ : Type} {p : σ → Int → UInt64 → Option (UInt64 × σ)} {a b c a' b' c' : UInt64} {s0 s1 s2 s3 : σ} (h0 : p s0 0 a = some (a',s1)) (h1 : p s1 1 b = some (b',s2)) (h2 : p s2 2 c = some (c',s3)) :
  m_hash_state_each (a,b,c) p s0 = some ((a',b',c'),s3):= by
 have e0 : idx [a,b,c] 0 = some a:= rfl
 have e1 : idx [a',b,c] 1 = some b:= rfl
 have e2 : idx [a',b',c] 2 = some c:= rfl
 simp [m_hash_state_each,eachN0,m_hash_state_each_b1,bnd_def,h0,e0,h1,e1,h2,e2]
theorem mixb_eq (r : Int) (s : UInt64 × UInt64 × UInt64) : m_hash_Mix_b4 r s = some (pround r s):= by
 obtain ⟨a,b,c⟩:= s
 unfold m_hash_Mix_b4
 rw [each_eq (a':= psev (padd a (pcon r 0))) (b':= psev (padd b (pcon r 1))) (c':= psev (padd c (pcon r 2))) (s1:= (r,padd 0 (psev (padd a (pcon r 0))))) (s2:= (r,padd (padd 0 (psev (padd a (pcon r 0)))) (psev (padd b (pcon r 1)))))
  (s3:= (r,padd (padd (padd 0 (psev (padd a (pcon r 0)))) (psev (padd b (pcon r 1)))) (psev (padd c (pcon r 2))))) (by simp only [mix1_eq,oZ0]) (by simp only [mix1_eq,oZ0]) (by simp only [mix1_eq,oZ0])]
 simp only [oZ0]
 change obind (m_hash_state_each _ _ (pall r (a,b,c))) _ = some (padd _ (pall r (a,b,c)),padd _ (pall r (a,b,c)),padd _ (pall r (a,b,c)))
 generalize pall r (a,b,c) = all
 rw [each_eq (s1:= all) (s2:= all) (s3:= all) (a':= padd (psev (padd a (pcon r 0))) all) (b':= padd (psev (padd b (pcon r 1))) all) (c':= padd (psev (padd c (pcon r 2))) all) (by simp only [mix2_eq,oZ0]) (by simp only [mix2_eq,oZ0]) (by simp only [mix2_eq,oZ0])]
 rfl
def pmix (s : UInt64 × UInt64 × UInt64) : UInt64 × UInt64 × UInt64:= pround 7 (pround 6 (pround 5 (pround 4 (pround 3 (pround 2 (pround 1 (pround 0 s)))))))
theorem mix_eq (s : UInt64 × UInt64 × UInt64) : m_hash_Mix s = some (pmix s):= by
 simp only [m_hash_Mix,eachN0,mixb_eq,oZ0]
 rfl
def ple : List UInt8 → Nat → UInt64 → UInt64
 | [],_,s=> s
 | b :: bs,i,s=> ple bs (i + 1) (s ||| shlU (toU (b.toNat : Int)) (8 * i))
theorem b6_eq (b5 : List UInt8) : ∀ (l : List UInt8) (i : Nat) (s : UInt64),b5.drop i = l → i + l.length ≤ 1000000 → eachN0 (m_field_Of_b6 b5) l.length (i : Int) s = some (ple l i s):= by
 intro l
 induction l with
 | nil=> intro i s _ _; rfl
 | cons b l ih =>
  intro i s h hb
  have hx : idx b5 (i : Int) = some b:= idx_nat (by
   have : (b5.drop i)[0]? = some b:= by rw [h]; rfl
   simpa using this)
  simp only [List.length_cons] at hb
  have hw : w64 (8 * (i : Int)) = ((8 * i : Nat) : Int):= by rw [w64_in (by omega) (by omega)]; omega
  have hstep : m_field_Of_b6 b5 (i : Int) s = some (s ||| shlU (toU (b.toNat : Int)) (8 * i)):= by
   simp only [m_field_Of_b6,hx,oZ0,hw,bnd_def]
   rw [if_pos (by omega)]; rfl
  show eachN0 (m_field_Of_b6 b5) (l.length + 1) _ _ = _
  simp only [eachN0,hstep,oZ0,ple]
  have:= ih (i + 1) (s ||| shlU (toU (b.toNat : Int)) (8 * i)) (by rw [← List.drop_drop,h]; rfl) (by omega)
  simpa using this
def pof (n : Nat) (l : List UInt8) : List UInt64 :=
 match n,l with
 | _,[]=> []
 | 0,_=> []
 | n + 1,l=> ple (l.take 7) 0 0 :: pof n (l.drop 7)
theorem pof_len (n : Nat) : ∀ l,(pof n l).length ≤ n:= by
 induction n with
 | zero=> intro l; cases l <;> simp [pof]
 | succ n ih=> intro l; cases l with
  | nil=> simp [pof]
  | cons a l=> simp only [pof,List.length_cons]; have:= ih ((a :: l).drop 7); omega
theorem chunk_eq (a0 : List UInt8) (hb : a0.length ≤ 1000000) : ∀ (n i : Nat) (out : List UInt64),a0.length ≤ i + n → i ≤ 1000000 + 7 → out.length + n ≤ 1000000 →
  iter (m_slices_Chunk_byte_byte_1_b1 (fun (s : (List UInt64)) (b0 : List UInt8)=> obind (m_field_Of_b4 b0 s) fun y=> some (true,y)) a0 7) (n + 1) ((i : Int),out) = some (.inl (out ++ pof n (a0.drop i))):= by
 intro n
 induction n with
 | zero =>
  intro i out h _ _
  have : a0.drop i = []:= List.drop_eq_nil_of_le (by omega)
  refine iter_end ?_
  simp only [m_slices_Chunk_byte_byte_1_b1,this]
  rw [if_neg (by simp; omega)]
  simp [pof]
 | succ n ih =>
  intro i out h hi ho
  by_cases hlt : i < a0.length
  ·obtain ⟨b,l,hl⟩ : ∃ b l,a0.drop i = b :: l:= ⟨a0[i],a0.drop (i + 1),List.drop_eq_getElem_cons hlt⟩
   have hc1 : cut a0 (i : Int) (a0.length : Int) = some (a0.drop i):= by
    rw [cut_eq (by omega) (by omega)]; congr 1; rw [List.take_of_length_le (by simp)]
   have hlen : (a0.drop i).length = a0.length - i:= by simp
   have hm : w64 ((i : Int) + minI 7 ((a0.drop i).length : Int)) = ((i + min 7 (a0.length - i) : Nat) : Int):= by
    rw [w64_in] <;> unfold minI <;> split <;> omega
   have hc2 : cut a0 (i : Int) ((i + min 7 (a0.length - i) : Nat) : Int) = some ((a0.drop i).take 7):= by
    rw [cut_eq (by omega) (by omega)]; congr 1
    rw [Nat.add_sub_cancel_left]
    by_cases h7 : 7 ≤ a0.length - i
    ·rw [Nat.min_eq_left h7]
    ·rw [Nat.min_eq_right (by omega),List.take_of_length_le (by simp),List.take_of_length_le (by simp; omega)]
   have hw : w64 ((i : Int) + 7) = ((i + 7 : Nat) : Int):= by rw [w64_in (by omega) (by omega)]; omega
   have hb4 : m_field_Of_b4 ((a0.drop i).take 7) out = some (out ++ [ple ((a0.drop i).take 7) 0 0]):= by
    have:= b6_eq ((a0.drop i).take 7) ((a0.drop i).take 7) 0 0 rfl (by simp; omega)
    simp only [m_field_Of_b4]
    rw [show ((0 : Int)) = ((0 : Nat) : Int) from rfl,this]
    simp only [oZ0]
    rw [app_eq 8 (by simp; omega) (by simp; omega)]
    rfl
   rw [iter_step (s':= (((i + 7 : Nat) : Int),out ++ [ple ((a0.drop i).take 7) 0 0]))]
   ·rw [ih (i + 7) _ (by omega) (by omega) (by simp; omega)]
    rw [hl]
    simp only [pof]
    rw [← hl,List.drop_drop]
    simp
   ·simp only [m_slices_Chunk_byte_byte_1_b1]
    rw [if_pos (decide_eq_true (by omega)),hc1]
    simp only [oZ0,hm,hc2,hb4,hw]
    rfl
  ·have : a0.drop i = []:= List.drop_eq_nil_of_le (by omega)
   refine iter_end ?_
   simp only [m_slices_Chunk_byte_byte_1_b1,this]
   rw [if_neg (by simp; omega)]
   simp [pof]
theorem of_eq (a0 : List UInt8) (hb : a0.length ≤ 900000) : m_field_Of a0 = some (pof a0.length a0):= by
 have h:= chunk_eq a0 (by omega) a0.length 0 [] (by omega) (by omega) (by simp; omega)
 have h':= iter_up _ h (by omega)
 simp only [m_field_Of,m_slices_Chunk_byte_byte,m_slices_Chunk_byte_byte_1]
 rw [if_neg (by decide)]
 simp only [oZ0,List.drop_zero,List.nil_append] at h' ⊢
 rw [show ((0 : Int)) = ((0 : Nat) : Int) from rfl,h']
 simp only [oZ0]
def psumL (n : Nat) (l : List UInt64) (s : UInt64 × UInt64 × UInt64) : UInt64 × UInt64 × UInt64 :=
 match n,l with
 | _,[]=> s
 | 0,_=> s
 | _ + 1,[x]=> pmix (padd s.1 x,s.2.1,s.2.2)
 | n + 1,x :: y :: l=> psumL n l (pmix (padd s.1 x,padd s.2.1 y,s.2.2))
theorem b4_eq1 (x : UInt64) (s : UInt64 × UInt64 × UInt64) : eachN0 (m_hash_Sum_b4 [x]) 1 0 s = some (padd s.1 x,s.2.1,s.2.2):= by
 have e0 : idx [x] (0 : Int) = some x:= rfl
 have e1 : idx [s.1,s.2.1,s.2.2] (0 : Int) = some s.1:= rfl
 simp [eachN0,m_hash_Sum_b4,e0,e1,add_eq,bnd_def]
theorem b4_eq2 (x y : UInt64) (s : UInt64 × UInt64 × UInt64) : eachN0 (m_hash_Sum_b4 [x,y]) 2 0 s = some (padd s.1 x,padd s.2.1 y,s.2.2):= by
 have e0 : idx [x,y] (0 : Int) = some x:= rfl
 have e1 : idx [s.1,s.2.1,s.2.2] (0 : Int) = some s.1:= rfl
 have e2 : idx [x,y] 1 = some y:= rfl
 have e3 : idx [padd s.1 x,s.2.1,s.2.2] 1 = some s.2.1:= rfl
 simp [eachN0,m_hash_Sum_b4,e0,e1,e2,e3,add_eq,bnd_def]
theorem b3_nil (fst : Bool) (hf : fst = true) (s : UInt64 × UInt64 × UInt64) : m_hash_Sum_b3 ([],fst,s.1,s.2.1,s.2.2) = some (.inl ([],false,pmix s)):= by
 subst hf
 have hc : cut ([] : List UInt64) 0 0 = some []:= rfl
 have hmin : minI 2 (([] : List UInt64).length : Int) = 0:= rfl
 simp only [m_hash_Sum_b3,Bool.true_or,if_true,hmin]
 rw [show ((([] : List UInt64).length : Int)) = 0 from rfl,hc]
 simp only [oZ0,eachN0,List.length_nil,mix_eq]
theorem b3_end (s : UInt64 × UInt64 × UInt64) : m_hash_Sum_b3 ([],false,s.1,s.2.1,s.2.2) = some (.inr s):= rfl
theorem b3_one (fst : Bool) (x : UInt64) (s : UInt64 × UInt64 × UInt64) : m_hash_Sum_b3 ([x],fst,s.1,s.2.1,s.2.2) = some (.inl ([],false,pmix (padd s.1 x,s.2.1,s.2.2))):= by
 have hmin : minI 2 (([x] : List UInt64).length : Int) = 1:= rfl
 have h0 : (fst || decide ((([x] : List UInt64).length : Int) > 0)) = true:= by simp
 have hc : cut [x] 0 1 = some [x]:= rfl
 have hc2 : cut [x] 1 1 = some []:= rfl
 simp only [m_hash_Sum_b3,h0,if_true,hmin]
 rw [show ((([x] : List UInt64).length : Int)) = 1 from rfl,hc,hc2]
 simp only [oZ0,List.length_cons,List.length_nil]
 rw [b4_eq1]
 simp only [oZ0,mix_eq]
theorem b3_two (fst : Bool) (x y : UInt64) (l : List UInt64) (s : UInt64 × UInt64 × UInt64) : m_hash_Sum_b3 (x :: y :: l,fst,s.1,s.2.1,s.2.2) = some (.inl (l,false,pmix (padd s.1 x,padd s.2.1 y,s.2.2))):= by
 have hmin : minI 2 ((x :: y :: l).length : Int) = ((2 : Nat) : Int):= by unfold minI; rw [if_neg (by simp; omega)]; rfl
 have h0 : (fst || decide (((x :: y :: l).length : Int) > 0)) = true:= by simp; right; omega
 have hc : cut (x :: y :: l) ((0 : Nat) : Int) ((2 : Nat) : Int) = some [x,y]:= by rw [cut_eq (by omega) (by simp)]; rfl
 have hc2 : cut (x :: y :: l) ((2 : Nat) : Int) ((x :: y :: l).length : Int) = some l:= by rw [cut_eq (by simp) (by omega)]; simp
 simp only [m_hash_Sum_b3,h0,if_true,hmin]
 rw [show ((0 : Int)) = ((0 : Nat) : Int) from rfl,hc,hc2]
 simp only [oZ0,List.length_cons,List.length_nil]
 rw [show ((0 : Nat) : Int) = 0 from rfl,b4_eq2]
 simp only [oZ0,mix_eq]
theorem b3_iter : ∀ (n : Nat) (l : List UInt64) (s : UInt64 × UInt64 × UInt64),l.length ≤ n → iter m_hash_Sum_b3 (n + 1) (l,false,s.1,s.2.1,s.2.2) = some (psumL n l s):= by
 intro n
 induction n with
 | zero =>
  intro l s h
  have : l = []:= List.eq_nil_of_length_eq_zero (by omega)
  subst this
  rw [iter_end (b3_end s)]; simp [psumL]
 | succ n ih =>
  intro l s h
  match l,h with
  | [],_=> rw [iter_end (b3_end s)]; simp [psumL]
  | [x],_ =>
   rw [iter_step (b3_one false x s)]
   have:= ih [] (pmix (padd s.1 x,s.2.1,s.2.2)) (by simp)
   rw [this]; simp [psumL]
  | x :: y :: l,h =>
   rw [iter_step (b3_two false x y l s)]
   have:= ih l (pmix (padd s.1 x,padd s.2.1 y,s.2.2)) (by simp at h; omega)
   rw [this]; simp [psumL]
def pend (l : List UInt64) (s : UInt64 × UInt64 × UInt64) : UInt64 × UInt64 × UInt64 :=
 match l with
 | []=> pmix s
 | l=> psumL l.length l s
def hsum (b : List UInt8) : UInt64 × UInt64 :=
 ((pend (pof b.length b) (0,0,toU (b.length : Int))).1,(pend (pof b.length b) (0,0,toU (b.length : Int))).2.1)
theorem sum_eq (b : List UInt8) (hb : b.length ≤ 900000) : m_hash_Sum b = some (hsum b):= by
 simp only [m_hash_Sum,of_eq b hb,oZ0]
 have hl:= pof_len b.length b
 have hk : hsum b = ((pend (pof b.length b) (0,0,toU (b.length : Int))).1,(pend (pof b.length b) (0,0,toU (b.length : Int))).2.1):= rfl
 rw [hk]
 clear hk
 generalize pof b.length b = l at *
 have h : iter m_hash_Sum_b3 FUEL (l,true,0,0,toU (b.length : Int)) = some (pend l (0,0,toU (b.length : Int))):= by
  refine iter_up (l.length + 2) ?_ (by omega)
  match l with
  | [] =>
   rw [show ([] : List UInt64).length + 2 = 1 + 1 from rfl,iter_step (b3_nil true rfl (0,0,toU (b.length : Int)))]
   have:= b3_iter 0 [] (pmix (0,0,toU (b.length : Int))) (by simp)
   rw [this]; simp [psumL,pend]
  | [x] =>
   rw [show ([x] : List UInt64).length + 2 = 2 + 1 from rfl,iter_step (b3_one true x (0,0,toU (b.length : Int)))]
   have:= b3_iter 1 [] (pmix (padd 0 x,0,toU (b.length : Int))) (by simp)
   rw [this]; simp [psumL,pend]
  | x :: y :: l =>
   rw [iter_step (b3_two true x y l (0,0,toU (b.length : Int)))]
   have:= b3_iter (l.length + 2) l (pmix (padd 0 x,padd 0 y,toU (b.length : Int))) (by omega)
   have e : (x :: y :: l).length + 1 = l.length + 2 + 1:= rfl
   rw [e,this]
   simp only [psumL,pend,List.length_cons]
   congr 1
   clear this hl
   have : ∀ (n k : Nat) (l : List UInt64) (s : UInt64 × UInt64 × UInt64),l.length ≤ n → l.length ≤ k → psumL n l s = psumL k l s:= by
    intro n
    induction n with
    | zero=> intro k l s h _; have : l = []:= List.eq_nil_of_length_eq_zero (by omega); subst this; simp [psumL]
    | succ n ih =>
     intro k l s h hk
     match l,k,h,hk with
     | [],k,_,_=> cases k <;> simp [psumL]
     | [x],k + 1,_,_=> simp [psumL]
     | x :: y :: l,k + 1,h,hk=> simp only [psumL]; exact ih k l _ (by simp at h; omega) (by simp at hk; omega)
   exact this _ _ _ _ (by omega) (by omega)
 rw [h]
 simp only [oZ0]
def pput : Nat → UInt64 → List UInt8
 | 0,_=> []
 | k + 1,n=> toB ((shrU n (8 * k)).toNat : Int) :: pput k n
theorem pput_len (k : Nat) (n : UInt64) : (pput k n).length = k:= by induction k with | zero=> rfl | succ k ih=> simp [pput,ih]
theorem put_iter (n : UInt64) : ∀ (k : Nat) (b : List UInt8),k ≤ 8 → b.length + k ≤ 1000000 → iter (m_hash_put_b1 n) (k + 1) (b,(k : Int) - 1) = some (b ++ pput k n):= by
 intro k
 induction k with
 | zero=> intro b _ _; refine iter_end ?_; simp only [m_hash_put_b1,pput,List.append_nil]; rw [if_neg (by simp)]
 | succ k ih =>
  intro b hk hb
  have hw : w64 (8 * (((k + 1 : Nat) : Int) - 1)) = ((8 * k : Nat) : Int):= by rw [w64_in (by omega) (by omega)]; omega
  have hw2 : w64 ((((k + 1 : Nat) : Int) - 1) - 1) = (k : Int) - 1:= by rw [w64_in (by omega) (by omega)]; omega
  rw [iter_step (s':= (b ++ [toB ((shrU n (8 * k)).toNat : Int)],(k : Int) - 1))]
  ·rw [ih _ (by omega) (by simp; omega)]; simp [pput]
  ·simp only [m_hash_put_b1,hw,hw2]
   rw [if_pos (decide_eq_true (by omega)),if_pos (by omega),app_eq 1 (by simp; omega) (by simp; omega)]
   simp only [oZ0,Int.toNat_natCast]
theorem put_eq (n : UInt64) (k : Nat) (b : List UInt8) (hk : k ≤ 8) (hb : b.length ≤ 900000) : m_hash_put b n (k : Int) = some (b ++ pput k n):= by
 have hw : w64 ((k : Int) - 1) = (k : Int) - 1:= w64_in (by omega) (by omega)
 simp only [m_hash_put,hw,iter_up (k + 1) (put_iter n k b hk (by omega)) (by omega),oZ0]
def pbytes (s : UInt64 × UInt64) : List UInt8:= pput 8 s.1 ++ pput 8 s.2
def pcode : List UInt8 → List (List UInt8) → List UInt8
 | b,[]=> b
 | b,p :: ps=> pcode (b ++ pput 4 (toU (p.length : Int)) ++ p) ps
def plen : List (List UInt8) → Nat
 | []=> 0
 | p :: ps=> 4 + p.length + plen ps
theorem pcode_len : ∀ (ps : List (List UInt8)) (b : List UInt8),(pcode b ps).length = b.length + plen ps:= by
 intro ps
 induction ps with
 | nil=> intro b; rfl
 | cons p ps ih=> intro b; simp only [pcode,ih,plen,List.length_append,pput_len]; omega
theorem tag_each : ∀ (ps : List (List UInt8)) (i : Int) (b : List UInt8),b.length + plen ps ≤ 800000 → each0 m_hash_Tagged_b2 ps i b = some (pcode b ps):= by
 intro ps
 induction ps with
 | nil=> intro i b _; rfl
 | cons p ps ih =>
  intro i b h
  simp only [plen] at h
  have h0 : m_hash_put b (toU (p.length : Int)) 4 = some (b ++ pput 4 (toU (p.length : Int))):= put_eq _ 4 b (by omega) (by omega)
  simp only [each0,m_hash_Tagged_b2,h0,oZ0]
  rw [app_eq 1 (by simp [pput_len]; omega) (by simp [pput_len]; omega)]
  simp only [oZ0]
  rw [ih _ _ (by simp [pput_len]; omega)]
  rfl
def ptag (t : ByteArray) (ps : List (List UInt8)) : UInt64 × UInt64:= hsum (pcode (toB (t.size : Int) :: t.data.toList) ps)
theorem tagged_eq (t : ByteArray) (ps : List (List UInt8)) (h : t.data.toList.length + plen ps ≤ 700000) : m_hash_Tagged t ps = some (ptag t ps):= by
 simp only [m_hash_Tagged]
 rw [app_eq 1 (by simp at h ⊢; omega) (by simp at h ⊢; omega)]
 simp only [oZ0]
 rw [tag_each _ _ _ (by simp at h ⊢; omega)]
 simp only [oZ0]
 rw [sum_eq _ (by rw [pcode_len]; simp at h ⊢; omega)]
 rfl
def ppair (a b : UInt64 × UInt64) : UInt64 × UInt64:= ptag ⟨#[110,111,100,101]⟩ [pbytes a,pbytes b]
end Go.Proofs.YtlnbckkkapbdmaaGreatDoor
end
section
namespace Go.Proofs.YtlnbckkkapbdmaaGreatDoor
open Go Go.Gw Go.Ax
theorem mleaf_eq {b : List UInt8} (h : b.length ≤ 3000) : m_merkle_Leaf b = some (ptag (⟨#[108,101,97,102]⟩ : ByteArray) [b]):= by
 unfold m_merkle_Leaf
 rw [tagged_eq _ _ (by simp [plen]; omega)]
 rfl
theorem cLeaf_eq {c : g_api_Cert} (h : Okc c) : m_cert_Leaf c = some (ptag (⟨#[108,101,97,102]⟩ : ByteArray) [preBy c],0):= by
 unfold m_cert_Leaf
 have:= pre_le h
 rw [cPre_eq h,oZ0,if_neg (by simp)]
 show obind (m_merkle_Leaf (preBy c)) _ = _
 rw [mleaf_eq (by omega)]
 rfl
end Go.Proofs.YtlnbckkkapbdmaaGreatDoor
end
