/- Several texts, one behind the other. Conditions: none. -/
import Derived.Test.YtlnbckkkapbdmaaGreatDoorZi
import Derived.KernelRfl
import Derived.Test.YtlnbckkkapbdmaaGreatDoorZf
import Derived.Test.YtlnbckkkapbdmaaGreatDoorZg
import Derived.Test.YtlnbckkkapbdmaaGreatDoorZb
import Derived.Test.YtlnbckkkapbdmaaGreatDoorZh
import Derived.Test.YtlnbckkkapbdmaaGreatDoorCards
import Derived.Test.YtlnbckkkapbdmaaGreatDoorTie
import Derived.WalkKit
import Derived.ProofKit
import Derived.OpenShut
import Derived.Deep.DeepHandedRow
import Derived.Lib.LaidTab
import Derived.SevenTiedAt
import Derived.Stop.LaidErr
set_option linter.unusedSimpArgs false
set_option linter.unusedVariables false
set_option maxHeartbeats 2000000
set_option maxRecDepth 100000
section
namespace Go.Proofs.YtlnbckkkapbdmaaGreatDoor
open Go Go.Gw Go.Ax
abbrev FP : Nat:= 2305843009213693951
theorem litP : (2305843009213693951 : UInt64).toNat = FP:= rfl
theorem and_P (n : Nat) : n &&& 2305843009213693951 = n % 2305843009213693952:= Nat.and_two_pow_sub_one_eq_mod n 61
theorem toU_toNat {n : Nat} (h : n < 18446744073709551616) : (toU (n : Int)).toNat = n:= by
  unfold toU
  rw [UInt64.toNat_ofNat']
  omega
theorem shlU3 {h : UInt64} (hh : h.toNat < 288230376151711744) : (shlU h 3).toNat = 8 * h.toNat:= by
  unfold shlU
  rw [show (h.toNat : Int) * 2 ^ (min 3 64) = ((8 * h.toNat : Nat) : Int) from by
    rw [show min 3 64 = 3 from rfl]; omega]
  exact toU_toNat (by omega)
theorem shrU_toNat (x : UInt64) (k : Nat) (hk : k ≤ 64) : (shrU x k).toNat = x.toNat / 2 ^ k:= by
  unfold shrU
  rw [UInt64.toNat_ofNat',Nat.min_eq_left hk]
  exact Nat.mod_eq_of_lt (Nat.lt_of_le_of_lt (Nat.div_le_self _ _) x.toNat_lt)
theorem or_add {a b : Nat} (h : b < 8) : 8 * a ||| b = 8 * a + b:= (Nat.two_pow_add_eq_or_of_lt (i:= 3) h a).symm
theorem pfold_nat {h l : UInt64} (hh : h.toNat < 288230376151711744) : (pfold h l).toNat = (h.toNat * 18446744073709551616 + l.toNat) % FP:= by
  have hl:= l.toNat_lt
  have e1 : (l &&& 2305843009213693951).toNat = l.toNat % 2305843009213693952:= by rw [UInt64.toNat_and,litP]; exact and_P _
  have e2 : (shrU l 61).toNat = l.toNat / 2305843009213693952:= shrU_toNat l 61 (by omega)
  have e3 : ((shlU h 3) ||| (shrU l 61)).toNat = 8 * h.toNat + l.toNat / 2305843009213693952:= by
    rw [UInt64.toNat_or,shlU3 hh,e2]; exact or_add (by omega)
  have e4 : ((l &&& 2305843009213693951) + ((shlU h 3) ||| (shrU l 61))).toNat = l.toNat % 2305843009213693952 + (8 * h.toNat + l.toNat / 2305843009213693952):= by
    rw [UInt64.toNat_add,e1,e3]; omega
  unfold pfold
  generalize hn : (l &&& 2305843009213693951) + ((shlU h 3) ||| (shrU l 61)) = n at *
  have e5 : (n &&& 2305843009213693951).toNat = n.toNat % 2305843009213693952:= by rw [UInt64.toNat_and,litP]; exact and_P _
  have e6 : (shrU n 61).toNat = n.toNat / 2305843009213693952:= shrU_toNat n 61 (by omega)
  have e7 : ((n &&& 2305843009213693951) + shrU n 61).toNat = n.toNat % 2305843009213693952 + n.toNat / 2305843009213693952:= by rw [UInt64.toNat_add,e5,e6]; omega
  dsimp only
  generalize (n &&& 2305843009213693951) + shrU n 61 = k at *
  split
  · rename_i hk
    rw [UInt64.toNat_sub_of_le _ _ (by rw [UInt64.le_iff_toNat_le]; exact hk),litP]
    simp only [FP] at *
    omega
  · simp only [FP] at *
    omega
theorem pone_nat (a : UInt64) : (pone a).toNat = a.toNat % FP:= by
  unfold pone
  rw [pfold_nat (by decide)]
  simp
theorem padd_nat (a b : UInt64) : (padd a b).toNat = (a.toNat % FP + b.toNat % FP) % FP:= by
  unfold padd
  rw [pone_nat,UInt64.toNat_add,pone_nat,pone_nat]
  simp only [FP]
  omega
theorem mul_high {p q r s : Nat} (hp : p < 4294967296) (hq : q < 4294967296) (hr : r < 4294967296) (hs : s < 4294967296) :
    (p * r + ((p * s + q * s / 4294967296) / 4294967296) + (((p * s + q * s / 4294967296) % 4294967296 + q * r) / 4294967296)) = ((p * 4294967296 + q) * (r * 4294967296 + s)) / 18446744073709551616:= by
  have h1 : (p * 4294967296 + q) * (r * 4294967296 + s) = (p * r) * 18446744073709551616 + (p * s + q * r) * 4294967296 + q * s:= by
    rw [Nat.add_mul,Nat.mul_add,Nat.mul_add,Nat.add_mul]
    have a1 : p * 4294967296 * (r * 4294967296) = p * r * 18446744073709551616:= by rw [Nat.mul_assoc,Nat.mul_left_comm 4294967296,← Nat.mul_assoc p]
    have a2 : p * 4294967296 * s = p * s * 4294967296:= Nat.mul_right_comm _ _ _
    have a3 : q * (r * 4294967296) = q * r * 4294967296:= (Nat.mul_assoc _ _ _).symm
    rw [a1,a2,a3]; omega
  rw [h1]
  generalize p * r = A
  generalize p * s = B
  generalize q * r = C
  generalize q * s = D
  omega
theorem phi_nat (a b : UInt64) : (phi a b).toNat = (a.toNat * b.toNat) / 18446744073709551616:= by
  have ha:= a.toNat_lt
  have hb:= b.toNat_lt
  have m32 : ∀ x : UInt64,(x &&& 4294967295).toNat = x.toNat % 4294967296:= fun x=> by
    rw [UInt64.toNat_and]; exact Nat.and_two_pow_sub_one_eq_mod _ 32
  have s32 : ∀ x : UInt64,(shrU x 32).toNat = x.toNat / 4294967296:= fun x=> shrU_toNat x 32 (by omega)
  have hp : a.toNat / 4294967296 < 4294967296:= by omega
  have hq : a.toNat % 4294967296 < 4294967296:= by omega
  have hr : b.toNat / 4294967296 < 4294967296:= by omega
  have hs : b.toNat % 4294967296 < 4294967296:= by omega
  have ea : a.toNat / 4294967296 * 4294967296 + a.toNat % 4294967296 = a.toNat:= Nat.div_add_mod' _ _
  have eb : b.toNat / 4294967296 * 4294967296 + b.toNat % 4294967296 = b.toNat:= Nat.div_add_mod' _ _
  have key:= mul_high hp hq hr hs
  rw [ea,eb] at key
  have bd : ∀ x y : Nat,x < 4294967296 → y < 4294967296 → x * y ≤ 18446744065119617025:= fun x y hx hy=> Nat.mul_le_mul (show x ≤ 4294967295 by omega) (show y ≤ 4294967295 by omega)
  have b1:= bd _ _ hp hr
  have b2:= bd _ _ hp hs
  have b3:= bd _ _ hq hr
  have b4:= bd _ _ hq hs
  have ab : a.toNat * b.toNat / 18446744073709551616 < 18446744073709551616:= by
    rw [Nat.div_lt_iff_lt_mul (by omega)]
    exact Nat.lt_of_le_of_lt (Nat.mul_le_mul (show a.toNat ≤ 18446744073709551615 by omega) (show b.toNat ≤ 18446744073709551615 by omega)) (by omega)
  unfold phi
  dsimp only
  rw [← key] at ab ⊢
  simp only [UInt64.toNat_add,UInt64.toNat_mul,s32,m32]
  generalize a.toNat / 4294967296 * (b.toNat / 4294967296) = A at *
  generalize a.toNat / 4294967296 * (b.toNat % 4294967296) = B at *
  generalize a.toNat % 4294967296 * (b.toNat / 4294967296) = C at *
  generalize a.toNat % 4294967296 * (b.toNat % 4294967296) = D at *
  omega
theorem pmul_nat (a b : UInt64) : (pmul a b).toNat = (a.toNat * b.toNat) % FP:= by
  have h1 : (pone a).toNat < FP:= by rw [pone_nat]; exact Nat.mod_lt _ (by decide)
  have h2 : (pone b).toNat < FP:= by rw [pone_nat]; exact Nat.mod_lt _ (by decide)
  simp only [FP] at h1 h2
  have hm : (pone a).toNat * (pone b).toNat < 5316911983139663491615228241121378304:= Nat.lt_of_le_of_lt (Nat.mul_le_mul (show (pone a).toNat ≤ 2305843009213693950 by omega) (show (pone b).toNat ≤ 2305843009213693950 by omega)) (by omega)
  unfold pmul
  rw [pfold_nat (by rw [phi_nat]; omega),phi_nat,UInt64.toNat_mul]
  have : (pone a).toNat * (pone b).toNat / 18446744073709551616 * 18446744073709551616 + (pone a).toNat * (pone b).toNat % 2 ^ 64 = (pone a).toNat * (pone b).toNat:= by omega
  rw [this,pone_nat,pone_nat,← Nat.mul_mod]
theorem psev_nat (a : UInt64) : (psev a).toNat = a.toNat ^ 17 % FP:= by
  unfold psev
  dsimp only
  simp only [pmul_nat,Nat.mul_mod_mod,Nat.mod_mul_mod]
  congr 1
  rw [show (17 : Nat) = 1 + 16 from rfl,Nat.pow_add,Nat.pow_one]
  congr 1
  generalize a.toNat = x
  rw [show (16 : Nat) = 2 * 2 * 2 * 2 from rfl,Nat.pow_mul,Nat.pow_mul,Nat.pow_mul]
  simp only [Nat.pow_two]
theorem u_ext {a b : UInt64} (h : a.toNat = b.toNat) : a = b:= UInt64.toNat_inj.1 h
end Go.Proofs.YtlnbckkkapbdmaaGreatDoor
end
section
namespace Go.Proofs.YtlnbckkkapbdmaaGreatDoor
open Go Go.Gw Go.Ax
def radd (a b : UInt64) : UInt64:= ((a % 2305843009213693951) + (b % 2305843009213693951)) % 2305843009213693951
theorem radd_nat (a b : UInt64) : (radd a b).toNat = (a.toNat % FP + b.toNat % FP) % FP:= by
  unfold radd
  rw [UInt64.toNat_mod,UInt64.toNat_add,UInt64.toNat_mod,UInt64.toNat_mod,litP]
  simp only [FP]
  omega
theorem radd_eq (a b : UInt64) : radd a b = padd a b:= u_ext (by rw [radd_nat,padd_nat])
theorem add01_eq (a b : UInt64) : m_ref01_Add a b = some (padd a b):= by rw [← radd_eq]; rfl
theorem mul01_it : ∀ (n : Nat) (a b o : UInt64),b.toNat < 2 ^ n → o.toNat < FP → ∃ r,iter m_ref01_Mul_b1 (n + 1) (a,b,o) = some r ∧ r.toNat = (o.toNat + a.toNat * b.toNat) % FP:= by
  intro n
  induction n with
  | zero =>
    intro a b o h ho
    have hb : b.toNat = 0:= by simp at h; omega
    refine ⟨o,iter_end ?_,by rw [hb]; simp; exact (Nat.mod_eq_of_lt ho).symm⟩
    unfold m_ref01_Mul_b1
    rw [if_neg (by simp [hb])]
  | succ n ih =>
    intro a b o h ho
    by_cases hb : b.toNat = 0
    · refine ⟨o,iter_end ?_,by rw [hb]; simp; exact (Nat.mod_eq_of_lt ho).symm⟩
      unfold m_ref01_Mul_b1
      rw [if_neg (by simp [hb])]
    · have e1 : 2 ^ (n + 1) = 2 * 2 ^ n:= by rw [Nat.pow_succ]; omega
      have hb2 : (b / 2).toNat = b.toNat / 2:= by rw [UInt64.toNat_div]; rfl
      have hbm : ((b % 2).toNat : Int) = ((b.toNat % 2 : Nat) : Int):= by rw [UInt64.toNat_mod]; rfl
      have hp0 : ∀ x y,(padd x y).toNat < FP:= fun x y=> by rw [padd_nat]; exact Nat.mod_lt _ (by decide)
      by_cases ho1 : b.toNat % 2 = 1
      · obtain ⟨r,h1,h2⟩:= ih (padd a a) (b / 2) (padd o a) (by rw [hb2]; omega) (hp0 _ _)
        refine ⟨r,?_,?_⟩
        · rw [iter_step (s':= (padd a a,b / 2,padd o a)),h1]
          unfold m_ref01_Mul_b1
          rw [if_pos (by simp; omega),if_pos (by rw [hbm,ho1]; rfl),add01_eq,oZ0,oZ0,add01_eq,oZ0]
        · rw [h2,padd_nat,padd_nat,hb2]
          simp only [Nat.mod_add_mod,Nat.add_mod_mod]
          rw [Nat.add_mod,Nat.mod_mul_mod,← Nat.add_mod,← Nat.two_mul]
          congr 1
          have : b.toNat = 2 * (b.toNat / 2) + 1:= by omega
          conv=> rhs; rw [this]
          rw [Nat.mul_add,Nat.mul_one,← Nat.mul_assoc,Nat.mul_comm a.toNat 2]; omega
      · obtain ⟨r,h1,h2⟩:= ih (padd a a) (b / 2) o (by rw [hb2]; omega) ho
        refine ⟨r,?_,?_⟩
        · rw [iter_step (s':= (padd a a,b / 2,o)),h1]
          unfold m_ref01_Mul_b1
          rw [if_pos (by simp; omega),if_neg (by rw [hbm]; simp; omega),oZ0,add01_eq,oZ0]
        · rw [h2,padd_nat,hb2]
          simp only [Nat.mod_add_mod,Nat.add_mod_mod]
          rw [Nat.add_mod,Nat.mod_mul_mod,← Nat.add_mod,← Nat.two_mul]
          congr 1
          have : b.toNat = 2 * (b.toNat / 2):= by omega
          conv=> rhs; rw [this]
          rw [← Nat.mul_assoc,Nat.mul_comm a.toNat 2]
theorem mul01_eq (a b : UInt64) : m_ref01_Mul a b = some (pmul a b):= by
  have hb : (b % 2305843009213693951).toNat < 2 ^ 64:= (b % 2305843009213693951).toNat_lt
  obtain ⟨r,h1,h2⟩:= mul01_it 64 (a % 2305843009213693951) (b % 2305843009213693951) 0 hb (by decide)
  have hr : r = pmul a b:= u_ext (by
    rw [h2,pmul_nat,UInt64.toNat_mod,UInt64.toNat_mod,litP]
    simp only [UInt64.toNat_zero,Nat.zero_add]
    rw [← Nat.mul_mod])
  unfold m_ref01_Mul
  rw [iter_up _ h1 (by omega),oZ0,oZ0,hr]
theorem raised_it (a : UInt64) (n : Nat) (hn : n ≤ 1000) : ∀ (k i : Nat) (x : UInt64),i + k = n → x.toNat = a.toNat ^ i % FP → ∃ y,iter (m_ref02_raised_b1 a (n : Int)) (k + 1) (x,(i : Int)) = some y ∧ y.toNat = a.toNat ^ n % FP:= by
  intro k
  induction k with
  | zero =>
    intro i x h hx
    refine ⟨x,iter_end ?_,by rw [hx,show i = n from by omega]⟩
    unfold m_ref02_raised_b1
    rw [if_neg (by simp; omega)]
  | succ k ih =>
    intro i x h hx
    have hw : w64 ((i : Int) + 1) = ((i + 1 : Nat) : Int):= by rw [w64_in (by omega) (by omega)]; omega
    obtain ⟨y,h1,h2⟩:= ih (i + 1) (pmul x a) (by omega) (by rw [pmul_nat,hx,Nat.mod_mul_mod,Nat.pow_succ])
    refine ⟨y,?_,h2⟩
    rw [iter_step (s':= (pmul x a,((i + 1 : Nat) : Int)))]
    · exact h1
    · unfold m_ref02_raised_b1
      rw [if_pos (by simp; omega),mul01_eq,oZ0]
      simp only [hw]
theorem raised_gen (a : UInt64) (n : Nat) (hn : n ≤ 1000) : ∃ y,m_ref02_raised a (n : Int) = some y ∧ y.toNat = a.toNat ^ n % FP:= by
  obtain ⟨y,h1,h2⟩:= raised_it a n hn n 0 1 (by omega) (by simp)
  have h1':= iter_up _ h1 (by omega)
  refine ⟨y,?_,h2⟩
  unfold m_ref02_raised
  rw [show ((0 : Int)) = ((0 : Nat) : Int) from rfl,h1',oZ0,oZ0]
theorem raised_eq {a : UInt64} : m_ref02_raised a 17 = some (psev a):= by
  obtain ⟨y,h1,h2⟩:= raised_gen a 17 (by omega)
  have : y = psev a:= u_ext (by rw [h2,psev_nat])
  rw [← this]; exact h1
theorem con_eq {r i : Nat} (hr : r < 8) (hi : i < 3) : (obind (m_ref02_raised (toU (w64 ((w64 ((w64 (3 * (r : Int))) + (i : Int))) + 1))) 3) fun x4=> m_ref01_Add x4 7) = some (pcon (r : Int) (i : Int)):= by
  have hw : w64 ((w64 ((w64 (3 * (r : Int))) + (i : Int))) + 1) = ((3 * r + i + 1 : Nat) : Int):= by
    rw [w64_in (n:= 3 * (r : Int)) (by omega) (by omega),w64_in (n:= 3 * (r : Int) + (i : Int)) (by omega) (by omega),w64_in (by omega) (by omega)]; omega
  have hN : (toU ((3 * r + i + 1 : Nat) : Int)).toNat = 3 * r + i + 1:= toU_toNat (by omega)
  unfold pcon
  rw [hw]
  generalize toU ((3 * r + i + 1 : Nat) : Int) = N at *
  obtain ⟨y,h1,h2⟩:= raised_gen N 3 (by omega)
  have h1' : m_ref02_raised N 3 = some y:= h1
  rw [h1',oZ0,add01_eq]
  refine congrArg some (u_ext ?_)
  have hle : N.toNat ≤ 24:= by omega
  have h2' : N.toNat * N.toNat ≤ 24 * 24:= Nat.mul_le_mul hle hle
  have h3' : N.toNat * N.toNat * N.toNat ≤ 24 * 24 * 24:= Nat.mul_le_mul h2' hle
  have e3 : N.toNat ^ 3 = N.toNat * N.toNat * N.toNat:= by rw [Nat.pow_succ,Nat.pow_two]
  dsimp only
  rw [padd_nat,h2,e3,UInt64.toNat_add,UInt64.toNat_mul,UInt64.toNat_mul,show (7 : UInt64).toNat = 7 from rfl]
  have e4 : N.toNat * N.toNat % 2 ^ 64 = N.toNat * N.toNat:= Nat.mod_eq_of_lt (by omega)
  rw [e4]
  clear e4 e3 h2 h1 h1' hw hN
  generalize N.toNat * N.toNat * N.toNat = z at *
  rw [Nat.mod_eq_of_lt (show z < 2 ^ 64 by omega),Nat.mod_eq_of_lt (show z < FP by simp only [FP]; omega),Nat.mod_eq_of_lt (show z < FP by simp only [FP]; omega),Nat.mod_eq_of_lt (show 7 < FP by decide),Nat.mod_eq_of_lt (show z + 7 < FP by simp only [FP]; omega),Nat.mod_eq_of_lt (show z + 7 < 2 ^ 64 by omega)]
theorem obind_obind {α β γ : Type} (x : Option α) (f : α → Option β) (g : β → Option γ) : obind x (fun a=> obind (f a) g) = obind (obind x f) g:= by cases x <;> rfl
theorem round_b4 {s : UInt64 × UInt64 × UInt64} {r : Nat} (hr : r < 8) (a b c : UInt64) :
    m_ref02_round_b4 s (r : Int) (0,a,b,c) = some (.inl (1,psev (padd s.1 (pcon r 0)),b,c)) ∧
    m_ref02_round_b4 s (r : Int) (1,a,b,c) = some (.inl (2,a,psev (padd s.2.1 (pcon r 1)),c)) ∧
    m_ref02_round_b4 s (r : Int) (2,a,b,c) = some (.inl (3,a,b,psev (padd s.2.2 (pcon r 2)))):= by
  have c0:= con_eq hr (i:= 0) (by omega)
  have c1:= con_eq hr (i:= 1) (by omega)
  have c2:= con_eq hr (i:= 2) (by omega)
  refine ⟨?_,?_,?_⟩
  · unfold m_ref02_round_b4
    dsimp only
    rw [if_pos (by simp),obind_obind,show ((0 : Nat) : Int) = 0 from rfl] at *
    rw [c0,oZ0,show idx [s.1,s.2.1,s.2.2] 0 = some s.1 from rfl,oZ0,add01_eq,oZ0,raised_eq,oZ0,show idx [a,b,c] 0 = some a from rfl,oZ0]
    simp [bnd_def,w64]
  · unfold m_ref02_round_b4
    dsimp only
    rw [if_pos (by simp),obind_obind,show ((1 : Nat) : Int) = 1 from rfl] at *
    rw [c1,oZ0,show idx [s.1,s.2.1,s.2.2] 1 = some s.2.1 from rfl,oZ0,add01_eq,oZ0,raised_eq,oZ0,show idx [a,b,c] 1 = some b from rfl,oZ0]
    simp [bnd_def,w64]
  · unfold m_ref02_round_b4
    dsimp only
    rw [if_pos (by simp),obind_obind,show ((2 : Nat) : Int) = 2 from rfl] at *
    rw [c2,oZ0,show idx [s.1,s.2.1,s.2.2] 2 = some s.2.2 from rfl,oZ0,add01_eq,oZ0,raised_eq,oZ0,show idx [a,b,c] 2 = some c from rfl,oZ0]
    simp [bnd_def,w64]
theorem padd3 (x y z : UInt64) : padd (padd (padd 0 x) y) z = padd (padd x y) z:= u_ext (by
  simp only [padd_nat,UInt64.toNat_zero]
  simp only [FP]
  omega)
theorem round_b5 (x : UInt64) (a b c : UInt64) :
    m_ref02_round_b5 x (0,a,b,c) = some (.inl (1,padd a x,b,c)) ∧ m_ref02_round_b5 x (1,a,b,c) = some (.inl (2,a,padd b x,c)) ∧ m_ref02_round_b5 x (2,a,b,c) = some (.inl (3,a,b,padd c x)):= by
  refine ⟨?_,?_,?_⟩
  · unfold m_ref02_round_b5
    dsimp only
    rw [if_pos (by simp),show idx [a,b,c] 0 = some a from rfl,oZ0,add01_eq,oZ0,oZ0]; simp [bnd_def,w64]
  · unfold m_ref02_round_b5
    dsimp only
    rw [if_pos (by simp),show idx [a,b,c] 1 = some b from rfl,oZ0,add01_eq,oZ0,oZ0]; simp [bnd_def,w64]
  · unfold m_ref02_round_b5
    dsimp only
    rw [if_pos (by simp),show idx [a,b,c] 2 = some c from rfl,oZ0,add01_eq,oZ0,oZ0]; simp [bnd_def,w64]
theorem round_eq {r : Nat} (hr : r < 8) (s : UInt64 × UInt64 × UInt64) : m_ref02_round s (r : Int) = some (pround (r : Int) s):= by
  have h4 : iter (m_ref02_round_b4 s (r : Int)) 4 (0,0,0,0) = some (psev (padd s.1 (pcon r 0)),psev (padd s.2.1 (pcon r 1)),psev (padd s.2.2 (pcon r 2))):= by
    rw [iter_step (round_b4 hr 0 0 0).1,iter_step (round_b4 hr _ 0 0).2.1,iter_step (round_b4 hr _ _ 0).2.2]
    exact iter_end rfl
  have h5 : ∀ x a b c : UInt64,iter (m_ref02_round_b5 x) 4 (0,a,b,c) = some (padd a x,padd b x,padd c x):= fun x a b c=> by
    rw [iter_step (round_b5 x a b c).1,iter_step (round_b5 x _ b c).2.1,iter_step (round_b5 x _ _ c).2.2]
    exact iter_end rfl
  unfold m_ref02_round
  rw [iter_up _ h4 (by omega),oZ0,oZ0,add01_eq,oZ0,add01_eq,oZ0,iter_up _ (h5 _ _ _ _) (by omega),oZ0,oZ0]
  unfold pround pall
  rw [padd3]
theorem mix02_it (s : UInt64 × UInt64 × UInt64) {r : Nat} (hr : r < 8) : m_ref02_Mix_b3 ((r : Int),s.1,s.2.1,s.2.2) = some (.inl (((r + 1 : Nat) : Int),(pround (r : Int) s).1,(pround (r : Int) s).2.1,(pround (r : Int) s).2.2)):= by
  have hw : w64 ((r : Int) + 1) = ((r + 1 : Nat) : Int):= by rw [w64_in (by omega) (by omega)]; omega
  unfold m_ref02_Mix_b3
  rw [if_pos (by simp; omega),round_eq hr,oZ0]
  simp only [hw]
theorem mix02_eq (s : UInt64 × UInt64 × UInt64) : m_ref02_Mix s = some (pmix s):= by
  have h : iter m_ref02_Mix_b3 9 (((0 : Nat) : Int),s.1,s.2.1,s.2.2) = some (pmix s):= by
    rw [iter_step (mix02_it s (by omega)),iter_step (mix02_it _ (by omega)),iter_step (mix02_it _ (by omega)),iter_step (mix02_it _ (by omega)),iter_step (mix02_it _ (by omega)),iter_step (mix02_it _ (by omega)),iter_step (mix02_it _ (by omega)),iter_step (mix02_it _ (by omega))]
    exact iter_end rfl
  unfold m_ref02_Mix
  rw [show ((0 : Int)) = ((0 : Nat) : Int) from rfl,iter_up _ h (by omega),oZ0,oZ0]
theorem or_shl {s : UInt64} {b : UInt8} {i : Nat} (hi : i < 7) (hs : s.toNat < 256 ^ i) (u : UInt64) (hu : u.toNat = 256 ^ i) :
    s ||| shlU (toU (b.toNat : Int)) (8 * i) = s + u * (toU (b.toNat : Int)) ∧ (s + u * (toU (b.toNat : Int))).toNat < 256 ^ (i + 1):= by
  have hb:= b.toNat_lt
  have e1 : (toU (b.toNat : Int)).toNat = b.toNat:= toU_toNat (by omega)
  have e2 : (2 : Nat) ^ (8 * i) = 256 ^ i:= by rw [Nat.pow_mul]
  have hpow : 256 ^ i ≤ 256 ^ 6:= Nat.pow_le_pow_right (by omega) (by omega)
  have hpos : 0 < 256 ^ i:= Nat.pow_pos (by omega)
  have e256 : (256 : Nat) ^ 6 = 281474976710656:= by decide
  have hmul : 256 ^ i * b.toNat ≤ 256 ^ i * 255:= Nat.mul_le_mul_left _ (by omega)
  have esh : (shlU (toU (b.toNat : Int)) (8 * i)).toNat = 256 ^ i * b.toNat:= by
    unfold shlU
    rw [e1,Nat.min_eq_left (by omega),show (b.toNat : Int) * 2 ^ (8 * i) = ((256 ^ i * b.toNat : Nat) : Int) from by
      rw [← e2,Nat.mul_comm]; simp [Nat.mul_comm,Int.mul_comm]]
    exact toU_toNat (by omega)
  have ese : (u * (toU (b.toNat : Int))).toNat = 256 ^ i * b.toNat:= by
    rw [UInt64.toNat_mul,e1,hu]; omega
  have eadd : (s + u * (toU (b.toNat : Int))).toNat = s.toNat + 256 ^ i * b.toNat:= by
    rw [UInt64.toNat_add,ese]; omega
  refine ⟨u_ext ?_,?_⟩
  · rw [eadd,UInt64.toNat_or,esh,Nat.or_comm,← e2,← Nat.two_pow_add_eq_or_of_lt (by rw [e2]; exact hs)]; omega
  · rw [eadd,Nat.pow_succ]; omega
theorem of2_it (a0 : List UInt8) (hb : a0.length ≤ 1000000) (st : (List UInt64) × Int) (i : Nat) (hi : st.2 = (i : Int)) (hi2 : i ≤ 1000000) :
    ∀ (l : List UInt8) (k : Nat) (s u : UInt64),k + l.length ≤ 7 → ((a0.drop i).take 7).drop k = l → ((a0.drop i).take 7).length = k + l.length → s.toNat < 256 ^ k → (k < 7 → u.toNat = 256 ^ k) →
      iter (m_ref01_Of_b2 a0 st) (l.length + 1) (s,u,((i + k : Nat) : Int)) = some (ple l k s):= by
  intro l
  induction l with
  | nil =>
    intro k s u h1 h2 h3 hs hu
    refine iter_end ?_
    have hw : w64 ((i : Int) + 7) = ((i + 7 : Nat) : Int):= by rw [w64_in (by omega) (by omega)]; omega
    simp only [List.length_take,List.length_drop,List.length_nil] at h3
    unfold m_ref01_Of_b2
    dsimp only
    rw [hi,hw,if_neg (by simp; omega)]
    rfl
  | cons b l ih =>
    intro k s u h1 h2 h3 hs hu
    have hw : w64 ((i : Int) + 7) = ((i + 7 : Nat) : Int):= by rw [w64_in (by omega) (by omega)]; omega
    have hw1 : w64 (((i + k : Nat) : Int) + 1) = ((i + (k + 1) : Nat) : Int):= by rw [w64_in (by omega) (by omega)]; omega
    simp only [List.length_cons] at h1 h3
    have h3':= h3
    simp only [List.length_take,List.length_drop] at h3'
    have hx : a0[i + k]? = some b:= by
      have : (((a0.drop i).take 7).drop k)[0]? = some b:= by rw [h2]; rfl
      rw [List.getElem?_drop,List.getElem?_take_of_lt (by omega),List.getElem?_drop] at this
      simpa using this
    obtain ⟨o1,o2⟩:= or_shl (b:= b) (show k < 7 by omega) hs u (hu (by omega))
    rw [List.length_cons,iter_step (s':= (s + u * (toU (b.toNat : Int)),u * 256,((i + (k + 1) : Nat) : Int)))]
    · have hd : ((a0.drop i).take 7).drop (k + 1) = l:= by rw [← List.drop_drop,h2]; rfl
      rw [ih (k + 1) _ (u * 256) (by omega) hd (by omega) o2 (fun hk=> by
        rw [UInt64.toNat_mul,hu (by omega),show (256 : UInt64).toNat = 256 from rfl,Nat.pow_succ]
        have : 256 ^ k ≤ 256 ^ 6:= Nat.pow_le_pow_right (by omega) (by omega)
        have e256 : (256 : Nat) ^ 6 = 281474976710656:= by decide
        omega)]
      rw [ple,o1]
    · unfold m_ref01_Of_b2
      dsimp only
      rw [hi,hw,if_pos (by simp; omega),idx_nat hx,oZ0,bnd_def]
      simp only [hw1]
theorem of1_it (a0 : List UInt8) (hb : a0.length ≤ 900000) : ∀ (n i : Nat) (out : List UInt64),a0.length ≤ i + n → i ≤ 900007 → out.length + n ≤ 1000000 →
    iter (m_ref01_Of_b1 a0) (n + 1) (out,(i : Int)) = some (out ++ pof n (a0.drop i)):= by
  intro n
  induction n with
  | zero =>
    intro i out h _ _
    have : a0.drop i = []:= List.drop_eq_nil_of_le (by omega)
    refine iter_end ?_
    unfold m_ref01_Of_b1
    rw [if_neg (by simp; omega),this]; simp [pof]
  | succ n ih =>
    intro i out h hi ho
    by_cases hlt : i < a0.length
    · obtain ⟨b,l,hl⟩ : ∃ b l,a0.drop i = b :: l:= ⟨a0[i],a0.drop (i + 1),List.drop_eq_getElem_cons hlt⟩
      have hw : w64 ((i : Int) + 7) = ((i + 7 : Nat) : Int):= by rw [w64_in (by omega) (by omega)]; omega
      have h2:= of2_it a0 (by omega) (out,(i : Int)) i rfl (by omega) ((a0.drop i).take 7) 0 0 1 (by simp; omega) (by simp) (by simp) (by decide) (fun _=> by decide)
      have h2':= iter_up _ h2 (by simp; omega)
      rw [Nat.add_zero] at h2'
      rw [iter_step (s':= (out ++ [ple ((a0.drop i).take 7) 0 0],((i + 7 : Nat) : Int)))]
      · rw [ih (i + 7) _ (by omega) (by omega) (by simp; omega),hl]
        simp only [pof]
        rw [← hl,List.drop_drop]
        simp
      · unfold m_ref01_Of_b1
        dsimp only
        rw [if_pos (by simp; omega),h2',oZ0,oZ0,app_eq 8 (by simp; omega) (by simp; omega),oZ0]
        simp only [hw]
    · have : a0.drop i = []:= List.drop_eq_nil_of_le (by omega)
      refine iter_end ?_
      unfold m_ref01_Of_b1
      rw [if_neg (by simp; omega),this]; simp [pof]
theorem of01_eq (a0 : List UInt8) (hb : a0.length ≤ 900000) : m_ref01_Of a0 = some (pof a0.length a0):= by
  have h:= of1_it a0 hb a0.length 0 [] (by omega) (by omega) (by simp; omega)
  have h':= iter_up _ h (by omega)
  unfold m_ref01_Of
  rw [show ((0 : Int)) = ((0 : Nat) : Int) from rfl,h',oZ0,oZ0]
  simp
theorem sum02_it (l : List UInt64) (hl : l.length ≤ 1000000) : ∀ (n i : Nat) (s : UInt64 × UInt64 × UInt64),l.length ≤ i + n → 1 ≤ i → i ≤ 1000002 →
    iter (m_ref02_Sum_b3 l) (n + 1) ((i : Int),s.1,s.2.1,s.2.2) = some (psumL n (l.drop i) s):= by
  intro n
  induction n with
  | zero =>
    intro i s h h1 _
    have : l.drop i = []:= List.drop_eq_nil_of_le (by omega)
    refine iter_end ?_
    unfold m_ref02_Sum_b3
    rw [if_neg (by simp; omega),this]; simp [psumL]
  | succ n ih =>
    intro i s h h1 h2
    by_cases hlt : i < l.length
    · have hw : w64 ((i : Int) + 1) = ((i + 1 : Nat) : Int):= by rw [w64_in (by omega) (by omega)]; omega
      have hw2 : w64 ((i : Int) + 2) = ((i + 2 : Nat) : Int):= by rw [w64_in (by omega) (by omega)]; omega
      have hx : idx l (i : Int) = some l[i]:= idx_nat (by simp [hlt])
      by_cases hlt2 : i + 1 < l.length
      · have hy : idx l ((i + 1 : Nat) : Int) = some l[i + 1]:= idx_nat (by simp [hlt2])
        have hd : l.drop i = l[i] :: l[i + 1] :: l.drop (i + 2):= by rw [List.drop_eq_getElem_cons hlt,List.drop_eq_getElem_cons hlt2]
        rw [iter_step (s':= (((i + 2 : Nat) : Int),(pmix (padd s.1 l[i],padd s.2.1 l[i + 1],s.2.2)).1,(pmix (padd s.1 l[i],padd s.2.1 l[i + 1],s.2.2)).2.1,(pmix (padd s.1 l[i],padd s.2.1 l[i + 1],s.2.2)).2.2))]
        · rw [ih (i + 2) (pmix (padd s.1 l[i],padd s.2.1 l[i + 1],s.2.2)) (by omega) (by omega) (by omega),hd]; rfl
        · unfold m_ref02_Sum_b3
          dsimp only
          rw [if_pos (by simp; omega),if_pos (by simp; omega),hx,oZ0,add01_eq,oZ0,oZ0,hw,if_pos (by simp; omega),hy,oZ0,add01_eq,oZ0,oZ0,mix02_eq,oZ0]
          simp only [hw2]
      · have hd : l.drop i = [l[i]]:= by rw [List.drop_eq_getElem_cons hlt,List.drop_eq_nil_of_le (by omega)]
        rw [iter_step (s':= (((i + 2 : Nat) : Int),(pmix (padd s.1 l[i],s.2.1,s.2.2)).1,(pmix (padd s.1 l[i],s.2.1,s.2.2)).2.1,(pmix (padd s.1 l[i],s.2.1,s.2.2)).2.2))]
        · rw [ih (i + 2) (pmix (padd s.1 l[i],s.2.1,s.2.2)) (by omega) (by omega) (by omega),hd,List.drop_eq_nil_of_le (by omega)]
          cases n <;> simp [psumL]
        · unfold m_ref02_Sum_b3
          dsimp only
          rw [if_pos (by simp; omega),if_pos (by simp; omega),hx,oZ0,add01_eq,oZ0,oZ0,hw,if_neg (by simp; omega),oZ0,mix02_eq,oZ0]
          simp only [hw2]
    · have : l.drop i = []:= List.drop_eq_nil_of_le (by omega)
      refine iter_end ?_
      unfold m_ref02_Sum_b3
      rw [if_neg (by simp; omega),this]; simp [psumL]
theorem psumL_len : ∀ (n k : Nat) (l : List UInt64) (s : UInt64 × UInt64 × UInt64),l.length ≤ n → l.length ≤ k → psumL n l s = psumL k l s:= by
  intro n
  induction n with
  | zero=> intro k l s h _; have : l = []:= List.eq_nil_of_length_eq_zero (by omega); subst this; simp [psumL]
  | succ n ih =>
    intro k l s h hk
    match l,k,h,hk with
    | [],k,_,_=> cases k <;> simp [psumL]
    | [x],k + 1,_,_=> simp [psumL]
    | x :: y :: l,k + 1,h,hk=> simp only [psumL]; exact ih k l _ (by simp at h; omega) (by simp at hk; omega)
theorem sum02_eq (b : List UInt8) (hb : b.length ≤ 900000) : m_ref02_Sum b = some (hsum b):= by
  have hl:= pof_len b.length b
  unfold m_ref02_Sum
  rw [of01_eq b hb,oZ0]
  have hk : hsum b = ((pend (pof b.length b) (0,0,toU (b.length : Int))).1,(pend (pof b.length b) (0,0,toU (b.length : Int))).2.1):= rfl
  rw [hk]
  clear hk
  generalize pof b.length b = l at *
  have h : iter (m_ref02_Sum_b3 l) (l.length + 2) (0,0,0,toU (b.length : Int)) = some (pend l (0,0,toU (b.length : Int))):= by
    match l,hl with
    | [],hl =>
      rw [show ([] : List UInt64).length + 2 = 1 + 1 from rfl,iter_step (s':= (((2 : Nat) : Int),(pmix (0,0,toU (b.length : Int))).1,(pmix (0,0,toU (b.length : Int))).2.1,(pmix (0,0,toU (b.length : Int))).2.2))]
      · exact iter_end rfl
      · unfold m_ref02_Sum_b3
        dsimp only
        rw [if_pos (by simp),if_neg (by simp),oZ0,if_neg (by rw [w64_in (by omega) (by omega)]; simp),oZ0,mix02_eq,oZ0]; rfl
    | [x],hl =>
      rw [show [x].length + 2 = 2 + 1 from rfl,iter_step (s':= (((2 : Nat) : Int),(pmix (padd 0 x,0,toU (b.length : Int))).1,(pmix (padd 0 x,0,toU (b.length : Int))).2.1,(pmix (padd 0 x,0,toU (b.length : Int))).2.2))]
      · exact iter_end rfl
      · have e : idx [x] 0 = some x:= rfl
        unfold m_ref02_Sum_b3
        dsimp only
        rw [if_pos (by simp),if_pos (by simp),e,oZ0,add01_eq,oZ0,oZ0,if_neg (by rw [w64_in (by omega) (by omega)]; simp),oZ0,mix02_eq,oZ0]; rfl
    | x :: y :: l,hl =>
      rw [iter_step (s':= (((2 : Nat) : Int),(pmix (padd 0 x,padd 0 y,toU (b.length : Int))).1,(pmix (padd 0 x,padd 0 y,toU (b.length : Int))).2.1,(pmix (padd 0 x,padd 0 y,toU (b.length : Int))).2.2))]
      · rw [sum02_it (x :: y :: l) (by simp at hl ⊢; omega) _ 2 _ (by simp) (by omega) (by omega)]
        refine congrArg some ?_
        simp only [List.drop_succ_cons,List.drop_zero,pend,List.length_cons,psumL]
        exact psumL_len _ _ _ _ (by omega) (by omega)
      · have e : idx (x :: y :: l) 0 = some x:= rfl
        have e1 : idx (x :: y :: l) (w64 (0 + 1)) = some y:= rfl
        unfold m_ref02_Sum_b3
        dsimp only
        rw [if_pos (by simp),if_pos (by simp; omega),e,oZ0,add01_eq,oZ0,oZ0,if_pos (by rw [show w64 (0 + 1) = 1 from rfl]; simp; omega),e1,oZ0,add01_eq,oZ0,oZ0,mix02_eq,oZ0]; rfl
  rw [iter_up _ h (by omega),oZ0,oZ0]
theorem eight_it (n : UInt64) : ∀ (k : Nat) (b : List UInt8),k ≤ 8 → b.length + k ≤ 1000000 → iter (m_ref02_Eight_b1 n) (k + 1) (b,(k : Int) - 1) = some (b ++ pput k n):= by
  intro k
  induction k with
  | zero=> intro b _ _; refine iter_end ?_; unfold m_ref02_Eight_b1; rw [if_neg (by simp)]; simp [pput]
  | succ k ih =>
    intro b hk hb
    have hw : w64 (8 * (((k + 1 : Nat) : Int) - 1)) = ((8 * k : Nat) : Int):= by rw [w64_in (by omega) (by omega)]; omega
    have hw2 : w64 ((((k + 1 : Nat) : Int) - 1) - 1) = (k : Int) - 1:= by rw [w64_in (by omega) (by omega)]; omega
    rw [iter_step (s':= (b ++ [toB ((shrU n (8 * k)).toNat : Int)],(k : Int) - 1))]
    · rw [ih _ (by omega) (by simp; omega)]; simp [pput]
    · unfold m_ref02_Eight_b1
      dsimp only
      rw [hw,hw2,toU_toNat (by omega),if_pos (decide_eq_true (by omega)),app_eq 1 (by simp; omega) (by simp; omega),oZ0]
theorem eight_eq (n : UInt64) : m_ref02_Eight n = some (pput 8 n):= by
  have h:= iter_up _ (eight_it n 8 [] (by omega) (by simp)) (by omega)
  unfold m_ref02_Eight
  rw [show (7 : Int) = ((8 : Nat) : Int) - 1 from rfl,h,oZ0,oZ0]; rfl
theorem coded_it (ps : List (List UInt8)) : ∀ (n i : Nat) (b : List UInt8),i + n = ps.length → i ≤ 1000000 → ps.length ≤ 1000000 → b.length + plen (ps.drop i) ≤ 800000 → iter (m_ref02_Coded_b1 ps) (n + 1) (b,(i : Int)) = some (pcode b (ps.drop i)):= by
  intro n
  induction n with
  | zero =>
    intro i b h _ _ _
    have : ps.drop i = []:= List.drop_eq_nil_of_le (by omega)
    refine iter_end ?_
    unfold m_ref02_Coded_b1
    rw [if_neg (by simp; omega),this]; rfl
  | succ n ih =>
    intro i b h hi hps hb
    have hlt : i < ps.length:= by omega
    have hx : idx ps (i : Int) = some ps[i]:= idx_nat (by simp [hlt])
    have hd : ps.drop i = ps[i] :: ps.drop (i + 1):= List.drop_eq_getElem_cons hlt
    have hw : w64 ((i : Int) + 1) = ((i + 1 : Nat) : Int):= by rw [w64_in (by omega) (by omega)]; omega
    rw [hd] at hb ⊢
    simp only [plen] at hb
    have hc : cut (pput 8 (toU (ps[i].length : Int))) 4 ((pput 8 (toU (ps[i].length : Int))).length : Int) = some (pput 4 (toU (ps[i].length : Int))):= by
      rw [pput_len]
      have:= cut_eq (xs:= pput 8 (toU (ps[i].length : Int))) (lo:= 4) (hi:= 8) (by omega) (by rw [pput_len]; omega)
      rw [show ((4 : Nat) : Int) = 4 from rfl] at this
      rw [this]; rfl
    rw [iter_step (s':= (b ++ pput 4 (toU (ps[i].length : Int)) ++ ps[i],((i + 1 : Nat) : Int)))]
    · rw [ih (i + 1) _ (by omega) (by omega) hps (by simp [pput_len]; omega)]; rfl
    · unfold m_ref02_Coded_b1
      dsimp only
      rw [if_pos (by simp; omega),hx,oZ0,eight_eq,oZ0,hc,oZ0,app_eq 1 (by simp [pput_len]; omega) (by simp [pput_len]; omega),oZ0,oZ0,app_eq 1 (by simp [pput_len]; omega) (by simp [pput_len]; omega),oZ0]
      simp only [hw]
theorem tagged02_eq (t : ByteArray) (ps : List (List UInt8)) (h : t.data.toList.length + plen ps ≤ 700000) (hp : ps.length ≤ 1000000) : m_ref02_Tagged t ps = some (ptag t ps):= by
  have hc:= coded_it ps ps.length 0 (toB (t.size : Int) :: t.data.toList) (by omega) (by omega) hp (by simp at h ⊢; omega)
  have hc':= iter_up _ hc (by omega)
  unfold m_ref02_Tagged m_ref02_Coded
  rw [app_eq 1 (by simp at h ⊢; omega) (by simp at h ⊢; omega),oZ0]
  rw [show ((0 : Int)) = ((0 : Nat) : Int) from rfl]
  rw [show [toB (t.size : Int)] ++ t.data.toList = toB (t.size : Int) :: t.data.toList from rfl,hc',oZ0,oZ0,oZ0]
  rw [sum02_eq _ (by rw [pcode_len]; simp at h ⊢; omega),oZ0]
  rfl
end Go.Proofs.YtlnbckkkapbdmaaGreatDoor
end
section
namespace Go.Proofs.YtlnbckkkapbdmaaGreatDoor
open Go Go.Gw Go.Ax
def RngP (p : g_api_Promise) : Prop:= In64 p.Log ∧ In64 p.At
def RngC (c : g_api_Cert) : Prop:= In64 c.Serial ∧ In64 c.From ∧ In64 c.Until ∧ In64 c.Depth ∧ (∀ p ∈ c.Proms,RngP p)
theorem fits_rng {c : g_api_Cert} (h : FewP c) (r : RngC c) : Fits c:= ⟨h,r.1,r.2.1,r.2.2.1,r.2.2.2.1,fun p hp=> r.2.2.2.2 p hp⟩
theorem bytes18_eq {c : g_api_Cert} {x : g_api_Item} (h : FewP c) (hd : depB 8 x) (hs : smallI 8 x) (hl : (putB 8 x).length ≤ 10000000000) :
    m_ref18_bytes c x = some (if checkV c = 0 then (if mayB 8 x = true then (if (putB 8 x).length ≤ 8192 then putB 8 x else []) else [],0) else ([],checkV c)):= by
  unfold m_ref18_bytes
  rw [check18_eq h,oZ0]
  by_cases h0 : checkV c = 0
  · rw [h0,if_pos rfl,if_neg (by decide),Put07_eq hd hs hl,Put_eq (by omega),oZ0]
    cases mayB 8 x with
    | false=> rfl
    | true =>
      rw [if_pos rfl,if_pos rfl]
      by_cases h1 : (putB 8 x).length ≤ 8192
      · rw [if_pos h1,if_pos h1]
      · rw [if_neg h1,if_neg h1]
  · rw [if_neg h0,if_pos (not_zero h0)]
theorem leaf08_eq {b : List UInt8} (h : b.length ≤ 3000) : m_ref08_Leaf b = some (ptag (⟨#[108,101,97,102]⟩ : ByteArray) [b]):= by
  unfold m_ref08_Leaf
  rw [tagged02_eq _ _ (by simp [plen]; omega) (by simp)]
  rfl
theorem textL {s : ByteArray} (d k : Nat) (h : s.size ≤ k) : (putB d (textI s)).length ≤ k + 4:= by
  cases d with
  | zero=> simp [putB]
  | succ d =>
    have h:= put_len d (textI s)
    have h1 : (textI s).B.length = s.size:= size_list s
    have h2 : (textI s).L = []:= rfl
    rw [h2] at h
    simp only [List.flatMap_nil,List.length_nil] at h
    omega
theorem textsL {l : List ByteArray} (d : Nat) (h : ∀ s ∈ l,s.size ≤ 200) (hn : l.length ≤ 16) : (putB d (textsI l)).length ≤ 5000:= by
  have:= seqI_len d (l.map textI) 204 fun e y hy=> by
    obtain ⟨s,hs,e2⟩:= List.mem_map.1 hy
    rw [← e2]
    exact textL e 200 (h s hs)
  rw [List.length_map] at this
  unfold textsI
  omega
theorem preL {c : g_api_Cert} (d : Nat) (h : FewP c) : (putB d (preI c)).length ≤ 60000:= by
  have:= seqI_len d [intI c.Serial,textI c.Issuer,textI c.Subject,bigI c.Key,textsI c.Names,intI c.From,intI c.Until,boolI c.Ca,intI c.Depth,textsI c.Permit] 5000 fun e y hy=> by
    simp only [List.mem_cons,List.not_mem_nil,or_false] at hy
    rcases hy with q | q | q | q | q | q | q | q | q | q <;> rw [q]
    · have:= int_len e c.Serial; omega
    · have:= textL e 300 h.issuer; omega
    · have:= textL e 300 h.subject; omega
    · have:= int_len e (w64 (c.Key.toNat : Int)); unfold bigI; omega
    · exact textsL e h.names h.nnames
    · have:= int_len e c.From; omega
    · have:= int_len e c.Until; omega
    · have:= boolI_len e c.Ca; omega
    · have:= int_len e c.Depth; omega
    · exact textsL e h.permit h.npermit
  simp only [List.length_cons,List.length_nil] at this
  unfold preI
  omega
theorem bodyL {c : g_api_Cert} (d : Nat) (h : FewP c) : (putB d (bodyI c)).length ≤ 200000:= by
  have:= seqI_len d [preI c,promsI c.Proms] 60000 fun e=> mem2 (p:= fun y=> (putB e y).length ≤ 60000) (preL e h) (by
    have:= seqI_len e (c.Proms.map promI) 100 fun f y hy=> by
      obtain ⟨p,hp,e2⟩:= List.mem_map.1 hy
      rw [← e2]
      exact promI_len f p
    rw [List.length_map] at this
    have:= h.nproms
    unfold promsI
    omega)
  simp only [List.length_cons,List.length_nil] at this
  unfold bodyI
  omega
theorem wholeL {c : g_api_Cert} (d : Nat) (h : FewP c) : (putB d (wholeI c)).length ≤ 1000000:= by
  have:= seqI_len d [bodyI c,seqI [bigI c.Sig.E,bigI c.Sig.S]] 200000 fun e=> mem2 (p:= fun y=> (putB e y).length ≤ 200000) (bodyL e h) (by
    have:= seqI_len e [bigI c.Sig.E,bigI c.Sig.S] 12 fun f=> mem2 (p:= fun y=> (putB f y).length ≤ 12) (int_len f _) (int_len f _)
    simp only [List.length_cons,List.length_nil] at this
    omega)
  simp only [List.length_cons,List.length_nil] at this
  unfold wholeI
  omega
theorem puts_true (a0 : g_api_Cert) (r : RngC a0) : m_law18_CertPuts a0 = some true:= by
  unfold m_law18_CertPuts
  rw [live18_true,oZ0,if_neg (by decide)]
  obtain ⟨f,hf⟩:= few_tot a0
  rw [hf,oZ0]
  cases f with
  | false=> rfl
  | true =>
    have P:= few_ok hf
    have F:= fits_rng P r
    have e1 : m_ref18_Pre a0 = some (if checkV a0 = 0 then (if mayB 8 (preI a0) = true then (if (putB 8 (preI a0)).length ≤ 8192 then putB 8 (preI a0) else []) else [],0) else ([],checkV a0)):= by
      unfold m_ref18_Pre
      rw [pre18_eq F,oZ0,bytes18_eq P (dep_pre a0 5) (sm_pre P 6) (by have:= preL 8 P; omega),oZ0]
    have e2 : m_ref18_Body a0 = some (if checkV a0 = 0 then (if mayB 8 (bodyI a0) = true then (if (putB 8 (bodyI a0)).length ≤ 8192 then putB 8 (bodyI a0) else []) else [],0) else ([],checkV a0)):= by
      unfold m_ref18_Body
      rw [body18_eq F,oZ0,bytes18_eq P (dep_body a0 4) (sm_body P 5) (by have:= bodyL 8 P; omega),oZ0]
    have e3 : m_ref18_Put a0 = some (if checkV a0 = 0 then (if mayB 8 (wholeI a0) = true then (if (putB 8 (wholeI a0)).length ≤ 8192 then putB 8 (wholeI a0) else []) else [],0) else ([],checkV a0)):= by
      unfold m_ref18_Put
      rw [whole18_eq F,oZ0,bytes18_eq P (dep_whole a0) (sm_whole P) (by have:= wholeL 8 P; omega),oZ0]
    rw [show (!true) = false from rfl,if_neg (by decide)]
    have es : ∀ q : UInt64 × UInt64,eqSum q q = true:= fun q=> by unfold eqSum; simp
    have eb : ∀ b : List UInt8,eqS (bs b) (bs b) = true:= fun b=> eqS_iff.2 rfl
    by_cases h0 : checkV a0 = 0
    · have K:= okc h0
      have l1:= pre_le K; have l2:= body_le K; have l3:= K.len
      have l1 : (putB 8 (preI a0)).length ≤ 2048:= l1
      have l2 : (putB 8 (bodyI a0)).length ≤ 2048:= l2
      rw [if_pos h0,if_pos (may_le (by decide) (may_pre K)),if_pos (by omega)] at e1
      rw [if_pos h0,if_pos (may_le (by decide) (may_body K)),if_pos (by omega)] at e2
      rw [if_pos h0,if_pos K.may,if_pos (by omega)] at e3
      have e4 : m_ref18_Leaf a0 = some (ptag (⟨#[108,101,97,102]⟩ : ByteArray) [preBy a0],0):= by
        unfold m_ref18_Leaf
        rw [e1,oZ0,if_neg (by simp)]
        show obind (m_ref08_Leaf (preBy a0)) _ = _
        rw [leaf08_eq (by show (putB 8 (preI a0)).length ≤ _; omega)]
        rfl
      rw [cPre_eq K,oZ0,e1,oZ0,cBody_eq K,oZ0,e2,oZ0,cPut_eq K,oZ0,e3,oZ0,cLeaf_eq K,oZ0,e4,oZ0,bnd_eq']
      show some (((((((((eqS (bs (preBy a0)) (bs (preBy a0))) && ((0 : Int) == 0)) && (eqS (bs (bodyBy a0)) (bs (bodyBy a0)))) && ((0 : Int) == 0)) && (eqS (bs (wholeB a0)) (bs (wholeB a0)))) && ((0 : Int) == 0)) && (eqSum (ptag (⟨#[108,101,97,102]⟩ : ByteArray) [preBy a0]) (ptag (⟨#[108,101,97,102]⟩ : ByteArray) [preBy a0]))) && ((0 : Int) == 0))) = _
      rw [eb,eb,eb,es]
      rfl
    · rw [if_neg h0] at e1 e2 e3
      have e4 : m_ref18_Leaf a0 = some ((0,0),checkV a0):= by
        unfold m_ref18_Leaf
        rw [e1,oZ0,if_pos (not_zero h0)]
      have e5 : m_cert_Leaf a0 = some ((0,0),checkV a0):= by
        unfold m_cert_Leaf
        rw [cPre_not h0,oZ0,if_pos (not_zero h0)]
      rw [cPre_not h0,oZ0,e1,oZ0,cBody_not h0,oZ0,e2,oZ0,cPut_not h0,oZ0,e3,oZ0,e5,oZ0,e4,oZ0,bnd_eq']
      show some (((((((((eqS (bs []) (bs [])) && (checkV a0 == checkV a0)) && (eqS (bs []) (bs []))) && (checkV a0 == checkV a0)) && (eqS (bs []) (bs []))) && (checkV a0 == checkV a0)) && (eqSum ((0 : UInt64),(0 : UInt64)) (0,0))) && (checkV a0 == checkV a0))) = _
      rw [eb,beq_self_eq_true]
      rfl
end Go.Proofs.YtlnbckkkapbdmaaGreatDoor
end
section
namespace Go.Proofs.YtlnbckkkapbdmaaGreatDoor.lawCertPuts
open Go Go.Gw Go.ChangeShapes Go.WideShapes Go.ChangeAt Go.RowKit
theorem own : ownKnob Tryz.prog.godebug = none:= by kernel_rfl
theorem tab_ir : Ir Tryz.prog 160 (.agg [.agg [.lit (.int .i64 1),.held [103,114,101,97,116,115,101,97,108,47,100,101,114,46,107,105,110,100,115,36,49]],.agg [.lit (.int .i64 2),.held [103,114,101,97,116,115,101,97,108,47,100,101,114,46,108,101,97,115,116]],.agg [.lit (.int .i64 4),.held [103,114,101,97,116,115,101,97,108,47,100,101,114,46,107,105,110,100,115,36,50]],.agg [.lit (.int .i64 12),.held [103,114,101,97,116,115,101,97,108,47,100,101,114,46,107,105,110,100,115,36,51]],.agg [.lit (.int .i64 48),.held [103,114,101,97,116,115,101,97,108,47,100,101,114,46,107,105,110,100,115,36,52]]]) [[.int .i64 1,.func (.func 228) #[] #[]],[.int .i64 2,.func (.func 128) #[] #[]],[.int .i64 4,.func (.func 229) #[] #[]],[.int .i64 12,.func (.func 230) #[] #[]],[.int .i64 48,.func (.func 233) #[] #[]]].flatten :=
  Ir.arr (n:= 5) (k:= 2) Tryz.underlying160 (by kernel_rfl) (by kernel_rfl) rfl rfl fun i d c h1 h2=> by
    match i,h1,h2 with
    | 0,h1,h2=> cases h1; cases h2; exact Ir.pair Tryz.underlying120 rfl rfl rfl (by kernel_rfl) rfl rfl (by kernel_rfl) (by kernel_rfl) (Ir.int Tryz.underlying3) (Ir.fn Tryz.underlying43 Tryz.func228 (by kernel_rfl) (by kernel_rfl))
    | 1,h1,h2=> cases h1; cases h2; exact Ir.pair Tryz.underlying120 rfl rfl rfl (by kernel_rfl) rfl rfl (by kernel_rfl) (by kernel_rfl) (Ir.int Tryz.underlying3) (Ir.fn Tryz.underlying43 Tryz.func128 (by kernel_rfl) (by kernel_rfl))
    | 2,h1,h2=> cases h1; cases h2; exact Ir.pair Tryz.underlying120 rfl rfl rfl (by kernel_rfl) rfl rfl (by kernel_rfl) (by kernel_rfl) (Ir.int Tryz.underlying3) (Ir.fn Tryz.underlying43 Tryz.func229 (by kernel_rfl) (by kernel_rfl))
    | 3,h1,h2=> cases h1; cases h2; exact Ir.pair Tryz.underlying120 rfl rfl rfl (by kernel_rfl) rfl rfl (by kernel_rfl) (by kernel_rfl) (Ir.int Tryz.underlying3) (Ir.fn Tryz.underlying43 Tryz.func230 (by kernel_rfl) (by kernel_rfl))
    | 4,h1,h2=> cases h1; cases h2; exact Ir.pair Tryz.underlying120 rfl rfl rfl (by kernel_rfl) rfl rfl (by kernel_rfl) (by kernel_rfl) (Ir.int Tryz.underlying3) (Ir.fn Tryz.underlying43 Tryz.func233 (by kernel_rfl) (by kernel_rfl))
    | n + 5,h1,h2=> cases h1
theorem gB {W : World} (h : laidMetH Tryz.prog Rows.certPutsRow.laid W) : GB (memOf W):= fun p hp=> by
  obtain rfl:= List.mem_singleton.1 hp
  exact gb_of (name:= "greatseal/der.kinds") (by kernel_rfl) (by kernel_rfl) (laidMetH.funcs h (d:= .agg [.agg [.lit (.int .i64 1),.iface "func" (.lit (.string [103,114,101,97,116,115,101,97,108,47,100,101,114,46,107,105,110,100,115,36,49]))],.agg [.lit (.int .i64 2),.iface "func" (.lit (.string [103,114,101,97,116,115,101,97,108,47,100,101,114,46,108,101,97,115,116]))],.agg [.lit (.int .i64 4),.iface "func" (.lit (.string [103,114,101,97,116,115,101,97,108,47,100,101,114,46,107,105,110,100,115,36,50]))],.agg [.lit (.int .i64 12),.iface "func" (.lit (.string [103,114,101,97,116,115,101,97,108,47,100,101,114,46,107,105,110,100,115,36,51]))],.agg [.lit (.int .i64 48),.iface "func" (.lit (.string [103,114,101,97,116,115,101,97,108,47,100,101,114,46,107,105,110,100,115,36,52]))]]) (List.Mem.tail _ (List.Mem.head _))) tab_ir
theorem rd3 : Rd Tryz.prog 3 (Int):= Rd.int Tryz.underlying3
theorem rd9 : Rd Tryz.prog 9 (ByteArray):= Rd.str Tryz.underlying9
theorem rd22 : Rd Tryz.prog 22 (UInt64):= Rd.u64 Tryz.underlying22
theorem rd23 : Rd Tryz.prog 23 (List ByteArray):= Rd.slice Tryz.underlying23 rd9 (by kernel_rfl) (by decide)
theorem rd4 : Rd Tryz.prog 4 (Bool):= Rd.bool Tryz.underlying4
theorem rd38 : Rd Tryz.prog 38 (UInt64 × UInt64):= Rd.arr2 Tryz.underlying38 rd22 (by kernel_rfl) (by kernel_rfl)
theorem rd26 : Rd Tryz.prog 26 (g_api_Sig):= Rd.struct Tryz.underlying26 (RdFs.more rfl rd22 (by kernel_rfl) (RdFs.last rfl rd22 (by kernel_rfl))) (by kernel_rfl) (fun b=> ⟨b.1,b.2⟩) (fun h=> h)
theorem rd50 : Rd Tryz.prog 50 (g_api_Promise):= Rd.struct Tryz.underlying50 (RdFs.more rfl rd3 (by kernel_rfl) (RdFs.more rfl rd3 (by kernel_rfl) (RdFs.more rfl rd38 (by kernel_rfl) (RdFs.last rfl rd26 (by kernel_rfl))))) (by kernel_rfl) (fun b=> ⟨b.1,b.2.1,b.2.2.1,b.2.2.2⟩) (fun h=> h)
theorem rd24 : Rd Tryz.prog 24 (List g_api_Promise):= Rd.slice Tryz.underlying24 rd50 (by kernel_rfl) (by decide)
theorem rd28 : Rd Tryz.prog 28 (g_api_Cert):= Rd.struct Tryz.underlying28 (RdFs.more rfl rd3 (by kernel_rfl) (RdFs.more rfl rd9 (by kernel_rfl) (RdFs.more rfl rd9 (by kernel_rfl) (RdFs.more rfl rd22 (by kernel_rfl) (RdFs.more rfl rd23 (by kernel_rfl) (RdFs.more rfl rd3 (by kernel_rfl) (RdFs.more rfl rd3 (by kernel_rfl) (RdFs.more rfl rd4 (by kernel_rfl) (RdFs.more rfl rd3 (by kernel_rfl) (RdFs.more rfl rd23 (by kernel_rfl) (RdFs.more rfl rd24 (by kernel_rfl) (RdFs.last rfl rd26 (by kernel_rfl))))))))))))) (by kernel_rfl) (fun b=> ⟨b.1,b.2.1,b.2.2.1,b.2.2.2.1,b.2.2.2.2.1,b.2.2.2.2.2.1,b.2.2.2.2.2.2.1,b.2.2.2.2.2.2.2.1,b.2.2.2.2.2.2.2.2.1,b.2.2.2.2.2.2.2.2.2.1,b.2.2.2.2.2.2.2.2.2.2.1,b.2.2.2.2.2.2.2.2.2.2.2⟩) (fun h=> h)
theorem rr3 : Rd Tryz.prog 3 {n : Int // In64 n}:= Rd.intR Tryz.underlying3
def Rng50 (x : g_api_Promise) : Prop:= In64 x.Log ∧ In64 x.At
theorem rr50 : Rd Tryz.prog 50 {x : g_api_Promise // Rng50 x}:= Rd.struct Tryz.underlying50 (RdFs.more rfl rr3 (by kernel_rfl) (RdFs.more rfl rr3 (by kernel_rfl) (RdFs.more rfl rd38 (by kernel_rfl) (RdFs.last rfl rd26 (by kernel_rfl))))) (by kernel_rfl) (fun b=> ⟨⟨b.1.1,b.2.1.1,b.2.2.1,b.2.2.2⟩,⟨b.1.2,b.2.1.2⟩⟩) (fun h=> by obtain ⟨c0,d0,e0,h0,c1,d1,e1,h1,c2,d2,e2,h2,h3⟩:= h; exact ⟨c0,d0,e0,h0,c1,d1,e1,h1,c2,d2,e2,h2,h3⟩)
theorem rr24 : Rd Tryz.prog 24 (List {x : g_api_Promise // Rng50 x}):= Rd.slice Tryz.underlying24 rr50 (by kernel_rfl) (by decide)
def Rng28 (x : g_api_Cert) : Prop:= In64 x.Serial ∧ In64 x.From ∧ In64 x.Until ∧ In64 x.Depth ∧ (∀ y ∈ x.Proms,Rng50 y)
theorem rr28 : Rd Tryz.prog 28 {x : g_api_Cert // Rng28 x}:= Rd.struct Tryz.underlying28 (RdFs.more rfl rr3 (by kernel_rfl) (RdFs.more rfl rd9 (by kernel_rfl) (RdFs.more rfl rd9 (by kernel_rfl) (RdFs.more rfl rd22 (by kernel_rfl) (RdFs.more rfl rd23 (by kernel_rfl) (RdFs.more rfl rr3 (by kernel_rfl) (RdFs.more rfl rr3 (by kernel_rfl) (RdFs.more rfl rd4 (by kernel_rfl) (RdFs.more rfl rr3 (by kernel_rfl) (RdFs.more rfl rd23 (by kernel_rfl) (RdFs.more rfl rr24 (by kernel_rfl) (RdFs.last rfl rd26 (by kernel_rfl))))))))))))) (by kernel_rfl) (fun b=> ⟨⟨b.1.1,b.2.1,b.2.2.1,b.2.2.2.1,b.2.2.2.2.1,b.2.2.2.2.2.1.1,b.2.2.2.2.2.2.1.1,b.2.2.2.2.2.2.2.1,b.2.2.2.2.2.2.2.2.1.1,b.2.2.2.2.2.2.2.2.2.1,b.2.2.2.2.2.2.2.2.2.2.1.map (·.1),b.2.2.2.2.2.2.2.2.2.2.2⟩,⟨b.1.2,b.2.2.2.2.2.1.2,b.2.2.2.2.2.2.1.2,b.2.2.2.2.2.2.2.2.1.2,all_val⟩⟩) (fun h=> by obtain ⟨c0,d0,e0,h0,c1,d1,e1,h1,c2,d2,e2,h2,c3,d3,e3,h3,c4,d4,e4,h4,c5,d5,e5,h5,c6,d6,e6,h6,c7,d7,e7,h7,c8,d8,e8,h8,c9,d9,e9,h9,c10,d10,e10,h10,h11⟩:= h; exact ⟨c0,d0,e0,h0,c1,d1,e1,h1,c2,d2,e2,h2,c3,d3,e3,h3,c4,d4,e4,h4,c5,d5,e5,h5,c6,d6,e6,h6,c7,d7,e7,h7,c8,d8,e8,h8,c9,d9,e9,h9,c10,d10,e10,list_val h10,h11⟩)
theorem rp_g_api_Cert {m : Mem} {cs : List Value} {x : g_api_Cert} (h : GoT.rep m cs x) : ∃ v1,∃ v2,∃ v3,cs = [vI x.Serial,vS x.Issuer,vS x.Subject,vU x.Key,v1,vI x.From,vI x.Until,vb x.Ca,vI x.Depth,v2,v3,vU x.Sig.E,vU x.Sig.S] ∧ SlR m v1 x.Names ∧ SlR m v2 x.Permit ∧ SlR m v3 x.Proms:= by
  obtain ⟨_,_,rfl,rfl,⟨_,_,rfl,rfl,⟨_,_,rfl,rfl,⟨_,_,rfl,rfl,⟨_,_,rfl,⟨v1,rfl,h1⟩,⟨_,_,rfl,rfl,⟨_,_,rfl,rfl,⟨_,_,rfl,rfl,⟨_,_,rfl,rfl,⟨_,_,rfl,⟨v2,rfl,h2⟩,⟨_,_,rfl,⟨v3,rfl,h3⟩,⟨_,_,rfl,rfl,rfl⟩⟩⟩⟩⟩⟩⟩⟩⟩⟩⟩⟩:= h
  exact ⟨v1,v2,v3,rfl,h1,h2,h3⟩
theorem contract (H : Type) (enc : TypeId × Value → H) (W : World) (base : Nat) (args : Array Value) (ds gs : List (DataW H)) (before : List MemPlace)
    (hval : ∀ (j : Nat) t v,Tryz.f4.params[j]? = some t → args[j]? = some v → Value.okWide Tryz.prog W .any base t v)
    (hW : DataW.Whole enc Tryz.prog Tryz.f4.params.toList Rows.certPutsSpec.vars false W args.toList ds gs before) (hL : laidMetH Tryz.prog Rows.certPutsRow.laid W) :
    Calls Tryz.prog 4 args W fun e W'=> ∃ v,e = .returned v ∧ Rows.certPutsSpec.post enc Tryz.prog Tryz.f4 false true false false W args v W':= by
  have hW':= hW
  obtain ⟨p,q,hA0,hV,rfl,hfz,hnd⟩:= hW
  obtain ⟨rfl,rfl⟩:= trodVars_none hV
  rw [List.append_nil] at hW'
  have hA : DataW.TrodAll enc Tryz.prog W 0 (fun _=> true) true Tryz.f4.params.toList args.toList ds p:= hA0
  have hA1:= hA
  have hpl : Tryz.f4.params.toList = [28]:= by rw [Tryz.params4]
  rw [hpl] at hA1
  obtain ⟨v0,w0,d0,e0,p0,q0,ha0,he0,hp0,h0,r0⟩:= trodAll_cons hA1
  obtain ⟨z1,z2,z3⟩:= trodAll_nil r0
  obtain rfl : args = #[v0]:= by
    apply Array.ext'; rw [ha0,z1]
  obtain rfl : ds = [d0]:= by rw [he0,z2]
  rw [Tryz.params4] at hval
  obtain ⟨c0,rfl,_⟩:= okWide_struct Tryz.underlying28 (hval 0 28 v0 rfl rfl)
  obtain ⟨⟨a0,i0⟩,s0⟩:= rr28.openA h0
  have s0 : GoT.rep (memOf W) _ a0:= s0
  obtain ⟨z0_0,z0_1,z0_2,o0,y0_0,y0_1,y0_2⟩:= rp_g_api_Cert s0
  obtain rfl:= arr_of o0
  have hc:= v_law18_CertPuts (St.of W (gB hL)) y0_0 y0_1 y0_2 (puts_true a0 i0)
  refine Calls.mono hc ?_
  rintro e W' ⟨v,rfl,hk,M,hle,S,rfl⟩
  refine ⟨.bool true,rfl,post_true (tb:= 4) (by kernel_rfl) (by kernel_rfl) rfl (by kernel_rfl) Tryz.underlying4 hW' hA rfl rfl rfl hle S hk⟩
noncomputable def laidWorld (os : Os) : World :=
  { World.holding Tryz.prog os ⟨#[],#[],[]⟩ with heap:= ((((World.holding Tryz.prog os ⟨#[],#[],[]⟩).heap.modify 3 fun | .cells _ t fr=> .cells #[.int .u8 128,.int .u8 191,.int .u8 160,.int .u8 191,.int .u8 128,.int .u8 159,.int .u8 144,.int .u8 191,.int .u8 128,.int .u8 143,.int .u8 0,.int .u8 0,.int .u8 0,.int .u8 0,.int .u8 0,.int .u8 0,.int .u8 0,.int .u8 0,.int .u8 0,.int .u8 0,.int .u8 0,.int .u8 0,.int .u8 0,.int .u8 0,.int .u8 0,.int .u8 0,.int .u8 0,.int .u8 0,.int .u8 0,.int .u8 0,.int .u8 0,.int .u8 0] t fr | o=> o).modify 0 fun | .cells _ t fr=> .cells [[.int .i64 1,.func (.func 228) #[] #[]],[.int .i64 2,.func (.func 128) #[] #[]],[.int .i64 4,.func (.func 229) #[] #[]],[.int .i64 12,.func (.func 230) #[] #[]],[.int .i64 48,.func (.func 233) #[] #[]]].flatten.toArray t fr | o=> o).modify 2 fun | .cells _ t fr=> .cells ((List.replicate 128 240 ++ List.replicate 66 241 ++ List.replicate 30 2 ++ [19] ++ List.replicate 12 3 ++ [35,3,3,52,4,4,4,68] ++ List.replicate 11 241 : List Int).map fun n=> Value.int .u8 n).toArray t fr | o=> o) }
theorem laid_met (os : Os) : laidMetH Tryz.prog Rows.certPutsRow.laid ((laidWorld os).forCall (fun _ _=> 0) ⟨#[],#[(.agg #[.int .i64 0,.string ⟨#[]⟩,.string ⟨#[]⟩,.int .u64 0,.slice none 0 0,.int .i64 0,.int .i64 0,.bool false,.int .i64 0,.slice none 0 0,.slice none 0 0,.int .u64 0,.int .u64 0] : Value)],[]⟩).memory :=
  laidMetH_of_parts3 (fuel:= 8) (laidMet_of_run' 8 (by kernel_rfl) (by kernel_rfl)) (by kernel_rfl) (by kernel_rfl)
theorem reads (os : Os) {H : Type} (enc : TypeId × Value → H) : ∃ places,DataW.whole enc Tryz.prog ((laidWorld os).forCall (fun _ _=> 0) ⟨#[],#[(.agg #[.int .i64 0,.string ⟨#[]⟩,.string ⟨#[]⟩,.int .u64 0,.slice none 0 0,.int .i64 0,.int .i64 0,.bool false,.int .i64 0,.slice none 0 0,.slice none 0 0,.int .u64 0,.int .u64 0] : Value)],[]⟩).memory Tryz.f4.params.toList Rows.certPutsSpec.vars false #[(.agg #[.int .i64 0,.string ⟨#[]⟩,.string ⟨#[]⟩,.int .u64 0,.slice none 0 0,.int .i64 0,.int .i64 0,.bool false,.int .i64 0,.slice none 0 0,.slice none 0 0,.int .u64 0,.int .u64 0] : Value)].toList 8 = some ([.agg [.lit (.int .i64 0),.lit (.string []),.lit (.string []),.lit (.int .u64 0),.nil,.lit (.int .i64 0),.lit (.int .i64 0),.lit (.bool false),.lit (.int .i64 0),.nil,.nil,.agg [.lit (.int .u64 0),.lit (.int .u64 0)]]],[],places) :=
  ⟨[],by kernel_rfl⟩
theorem lifted (os : Os) (started : os.Started) (H : Type) (enc : TypeId × Value → H) (F : Stop.Interp) :
    ReturnsInHanded {} Tryz.checked os 4 .any ((OpenSpec.ofChange Rows.certPutsSpec).preRow enc Tryz.prog Tryz.f4 Rows.certPutsRow.domain false Rows.certPutsRow.laid) (((OpenSpec.ofChange Rows.certPutsSpec).at F).post enc Tryz.prog Tryz.f4 false true false false):= by
  obtain ⟨places,hx⟩:= reads os enc
  refine returnsInHanded_of_row (C:= Tryz.checked) (s:= OpenSpec.ofChange Rows.certPutsSpec) own started (by kernel_rfl) Tryz.func4
    (witness_row_at (enc:= enc) (C:= Tryz.checked) false (laidWorld os) #[(.agg #[.int .i64 0,.string ⟨#[]⟩,.string ⟨#[]⟩,.int .u64 0,.slice none 0 0,.int .i64 0,.int .i64 0,.bool false,.int .i64 0,.slice none 0 0,.slice none 0 0,.int .u64 0,.int .u64 0] : Value)] rfl (by kernel_rfl) (by kernel_rfl) (by kernel_rfl)
      (OpenSpec.preRow_of_cond 8 hx (by kernel_rfl) (fun k hk=> by cases hk) (by kernel_rfl) (laid_met os))) ?_
  intro W base args ds gs before hval hW _ _ _ hL _ _
  exact contract H enc W base args ds gs before hval hW hL
theorem said : Rows.CertPutsSaid :=
  OpenClaim.holds_of_cond 4 Tryz.f4 rfl rfl rfl rfl rfl rfl rfl ⟨rfl,rfl,rfl,rfl,rfl⟩ rfl rfl rfl rfl rfl (by kernel_rfl) Tryz.func4 (by kernel_rfl)
    (of_decide_eq_true (by kernel_rfl)) (by unfold Func.isWrapper; first | (rw [if_pos (by decide +kernel)]; kernel_rfl) | (rw [if_neg (by decide +kernel)]; exact ⟨rfl,rfl⟩))
    (fun os started H enc _ F=> by rw [OpenClaim.pre_eq_preRow]; exact lifted os started H enc F)
theorem plain (f : FuncId) (fn : Func) (hf : Tryz.pinned.checked.prog.funcNamed "greatseal/greatseallaw18.CertPuts" = some f) (hfn : Tryz.pinned.checked.prog.funcs[f]? = some fn) :
    true = Tryz.pinned.checked.prog.looks [] ∧ ∀ (j : Nat) t,fn.params[j]? = some t → Tryz.pinned.checked.prog.wantsStandIn t = false:= by
  obtain rfl : f = 4:= sI0 ((show Tryz.prog.funcNamed "greatseal/greatseallaw18.CertPuts" = some 4 by kernel_rfl).symm.trans hf) |>.symm
  obtain rfl : fn = Tryz.f4:= (sI0 (Tryz.func4.symm.trans hfn)).symm
  refine ⟨by kernel_rfl,fun j t ht=> ?_⟩
  rw [Tryz.params4] at ht
  have hm : t ∈ [28]:= by simpa using Array.mem_of_getElem? ht
  have hall : ([28].all fun u=> !Tryz.prog.wantsStandIn u) = true:= by kernel_rfl
  exact (show Tryz.prog.wantsStandIn t = false by simpa using List.all_eq_true.1 hall t hm)
theorem card : Rows.CertPutsCardSaid :=
  Claim7.holds_tied_plain_at .later [] _ _ _ _ said (fun _ h=> by cases h) (by kernel_rfl) (fun _ h=> by cases h) certPuts_row_tie rfl ⟨rfl,rfl⟩ (by kernel_rfl) rfl plain (by kernel_rfl)
end Go.Proofs.YtlnbckkkapbdmaaGreatDoor.lawCertPuts
end
