/- The walks of some functions, by the executor, written by program. Conditions: none. -/
import Derived.Test.YtojlmhmiknocmaaGreatZe
import Derived.Test.YtojlmhmiknocmaaGreatZf
import Derived.Test.YtojlmhmiknocmaaGreatZg
set_option linter.unusedSimpArgs false
set_option linter.unusedVariables false
set_option maxHeartbeats 20000000
set_option maxRecDepth 100000
namespace Go.Proofs.YtojlmhmiknocmaaGreat
open Go Go.Gw Go.Ax Tryz
def m_ref04_Challenge (a0 : UInt64) (a1 : UInt64) (a2 : List UInt8) : Option UInt64 :=
  obind (m_ref04_Eight a0) fun x1 =>
  obind (m_ref04_Eight a1) fun x2 =>
  obind (m_ref02_Tagged (⟨#[115, 105, 103, 110]⟩ : ByteArray) ([x1, x2, a2] : List (List UInt8))) fun x3 =>
  obind (m_ref02_Num x3 1152921504606845789) fun x4 =>
  some x4
theorem w_ref04_Challenge {a0 : UInt64} {a1 : UInt64} {a2 : List UInt8} {r : UInt64} (hm : m_ref04_Challenge a0 a1 a2 = some r) : Sf prog 82 [.d (.u a0), .d (.u a1), sl eB a2] (.d (.u r)) :=
  sp call82 func82 rfl ntmps82 rfl fun D0 As η0 m0 hd => by
    unfold m_ref04_Challenge at hm
    obtain ⟨x1, q1, hm⟩ := obind_some hm
    refine gco (s_ref04_Eight q1) (by kernel_rfl) ?_
    obtain ⟨x2, q2, hm⟩ := obind_some hm
    refine gco (s_ref04_Eight q2) (by kernel_rfl) ?_
    refine glitV (k := 1) (eL eB) ([x1, x2, a2] : List (List UInt8)) (fun _ => rfl) (by kernel_rfl) ?_
    obtain ⟨x3, q3, hm⟩ := obind_some hm
    refine gc (fun _ => w_ref02_Tagged q3) (by kernel_rfl) ?_
    obtain ⟨x4, q4, hm⟩ := obind_some hm
    refine gc (fun _ => w_ref02_Num q4) (by kernel_rfl) ?_
    have e0 := Option.some.inj hm
    subst e0
    exact gend hd (by kernel_rfl)
def m_ref03_AddR (a0 : UInt64) (a1 : UInt64) : Option UInt64 :=
  obind (m_ref03_sum (a0 % 1152921504606845789) (a1 % 1152921504606845789) 1152921504606845789) fun x1 =>
  some x1
theorem w_ref03_AddR {a0 : UInt64} {a1 : UInt64} {r : UInt64} (hm : m_ref03_AddR a0 a1 = some r) : Sf prog 84 [.d (.u a0), .d (.u a1)] (.d (.u r)) :=
  sp call84 func84 rfl ntmps84 rfl fun D0 As η0 m0 hd => by
    unfold m_ref03_AddR at hm
    obtain ⟨x1, q1, hm⟩ := obind_some hm
    refine gc (fun _ => w_ref03_sum q1) (by kernel_rfl) ?_
    have e0 := Option.some.inj hm
    subst e0
    exact gend hd (by kernel_rfl)
def m_ref03_MulR (a0 : UInt64) (a1 : UInt64) : Option UInt64 :=
  obind (m_ref03_times a0 a1 1152921504606845789) fun x1 =>
  some x1
theorem w_ref03_MulR {a0 : UInt64} {a1 : UInt64} {r : UInt64} (hm : m_ref03_MulR a0 a1 = some r) : Sf prog 85 [.d (.u a0), .d (.u a1)] (.d (.u r)) :=
  sp call85 func85 rfl ntmps85 rfl fun D0 As η0 m0 hd => by
    unfold m_ref03_MulR at hm
    obtain ⟨x1, q1, hm⟩ := obind_some hm
    refine gc (fun _ => w_ref03_times q1) (by kernel_rfl) ?_
    have e0 := Option.some.inj hm
    subst e0
    exact gend hd (by kernel_rfl)
def m_ref04_Sign (a0 : UInt64) (a1 : List UInt8) : Option (g_api_Sig × Int) :=
  obind (m_ref04_Public a0) fun x1 =>
  if (x1.2 != 0) = true then
    some ((⟨0, 0⟩ : g_api_Sig), x1.2)
  else
  obind (m_ref04_Eight a0) fun x2 =>
  obind (m_ref02_Tagged (⟨#[110, 111, 110, 99, 101]⟩ : ByteArray) ([x2, a1] : List (List UInt8))) fun x3 =>
  obind (m_ref02_Num x3 1152921504606845788) fun x4 =>
  obind (m_ref03_Base (1 + x4)) fun x5 =>
  obind (m_ref04_Challenge x5 x1.1 a1) fun x6 =>
  obind (m_ref03_MulR x6 a0) fun x7 =>
  obind (m_ref03_AddR (1 + x4) x7) fun x8 =>
  some ((⟨x6, x8⟩ : g_api_Sig), 0)
theorem w_ref04_Sign {a0 : UInt64} {a1 : List UInt8} {r : g_api_Sig × Int} (hm : m_ref04_Sign a0 a1 = some r) : Sf prog 38 [.d (.u a0), sl eB a1] (.tup [ag (e_api_Sig r.1), .d (.i r.2)]) :=
  sp call38 func38 rfl ntmps38 rfl fun D0 As η0 m0 hd => by
    unfold m_ref04_Sign at hm
    obtain ⟨x1, q1, hm⟩ := obind_some hm
    refine gc (fun _ => w_ref04_Public q1) (by kernel_rfl) ?_
    refine gi hm (by kernel_rfl) (fun hc1 hm => ?_) fun hc1 hm => ?_
    · skip
      have e0 := Option.some.inj hm
      subst e0
      exact gend hd (by kernel_rfl)
    obtain ⟨x2, q2, hm⟩ := obind_some hm
    refine gco (s_ref04_Eight q2) (by kernel_rfl) ?_
    refine glitV (k := 1) (eL eB) ([x2, a1] : List (List UInt8)) (fun _ => rfl) (by kernel_rfl) ?_
    obtain ⟨x3, q3, hm⟩ := obind_some hm
    refine gc (fun _ => w_ref02_Tagged q3) (by kernel_rfl) ?_
    obtain ⟨x4, q4, hm⟩ := obind_some hm
    refine gc (fun _ => w_ref02_Num q4) (by kernel_rfl) ?_
    obtain ⟨x5, q5, hm⟩ := obind_some hm
    refine gc (fun _ => w_ref03_Base q5) (by kernel_rfl) ?_
    obtain ⟨x6, q6, hm⟩ := obind_some hm
    refine gc (fun _ => w_ref04_Challenge q6) (by kernel_rfl) ?_
    obtain ⟨x7, q7, hm⟩ := obind_some hm
    refine gc (fun _ => w_ref03_MulR q7) (by kernel_rfl) ?_
    obtain ⟨x8, q8, hm⟩ := obind_some hm
    refine gc (fun _ => w_ref03_AddR q8) (by kernel_rfl) ?_
    have e0 := Option.some.inj hm
    subst e0
    exact gend hd (by kernel_rfl)
def m_ref24_HeadBytes (a0 : g_api_Head) : Option (List UInt8) :=
  obind (m_ref04_Eight (toU a0.Log)) fun x1 =>
  obind (app 1 ([104, 101, 97, 100] : List UInt8) x1) fun x2 =>
  obind (m_ref04_Eight (toU a0.Size)) fun x3 =>
  obind (app 1 x2 x3) fun x4 =>
  obind (m_ref02_Bytes a0.Root) fun x5 =>
  obind (app 1 x4 x5) fun x6 =>
  obind (m_ref04_Eight (toU a0.At)) fun x7 =>
  obind (app 1 x6 x7) fun x8 =>
  some x8
theorem w_ref24_HeadBytes {a0 : g_api_Head} {r : List UInt8} (hm : m_ref24_HeadBytes a0 = some r) : Sp prog 39 [ag (e_api_Head a0)] [] 0 (is (.ow 0) [.row 0 1 _ eB r] 1) :=
  sp call39 func39 rfl ntmps39 rfl fun D0 As η0 m0 hd => by
    unfold m_ref24_HeadBytes at hm
    refine glit (k := 1) eB ([104, 101, 97, 100] : List UInt8) (fun _ => rfl) (by kernel_rfl) ?_
    obtain ⟨x1, q1, hm⟩ := obind_some hm
    refine gco (s_ref04_Eight q1) (by kernel_rfl) ?_
    obtain ⟨x2, q2, hm⟩ := obind_some hm
    refine gapp (k := 1) (E := eB) (fun _ => rfl) q2 (by kernel_rfl) ?_
    obtain ⟨x3, q3, hm⟩ := obind_some hm
    refine gco (s_ref04_Eight q3) (by kernel_rfl) ?_
    obtain ⟨x4, q4, hm⟩ := obind_some hm
    refine gapp (k := 1) (E := eB) (fun _ => rfl) q4 (by kernel_rfl) ?_
    obtain ⟨x5, q5, hm⟩ := obind_some hm
    refine gco (w_ref02_Bytes q5) (by kernel_rfl) ?_
    obtain ⟨x6, q6, hm⟩ := obind_some hm
    refine gapp (k := 1) (E := eB) (fun _ => rfl) q6 (by kernel_rfl) ?_
    obtain ⟨x7, q7, hm⟩ := obind_some hm
    refine gco (s_ref04_Eight q7) (by kernel_rfl) ?_
    obtain ⟨x8, q8, hm⟩ := obind_some hm
    refine gapp (k := 1) (E := eB) (fun _ => rfl) q8 (by kernel_rfl) ?_
    have e0 := Option.some.inj hm
    subst e0
    exact gend hd (by kernel_rfl)
def m_ref24_Head (a0 : g_api_Log) (a1 : Int) (a2 : Int) (a3 : Int) : Option (g_api_Head × Int) :=
  obind (m_ref24_Leaves a0 a1) fun x1 =>
  if (x1.2 != 0) = true then
    some ((⟨0, 0, (0, 0), 0, (⟨0, 0⟩ : g_api_Sig)⟩ : g_api_Head), x1.2)
  else
  obind (m_ref24_num a3) fun x2 =>
  if (!x2) = true then
    some ((⟨0, 0, (0, 0), 0, (⟨0, 0⟩ : g_api_Sig)⟩ : g_api_Head), 1)
  else
  obind (m_ref24_some a0 a1 a2) fun x3 =>
  if (x3.2 != 0) = true then
    some ((⟨0, 0, (0, 0), 0, (⟨0, 0⟩ : g_api_Sig)⟩ : g_api_Head), x3.2)
  else
  obind (m_ref08_Root x3.1) fun x4 =>
  obind (m_ref24_HeadBytes (⟨a0.Id, a2, x4, a3, (⟨0, 0⟩ : g_api_Sig)⟩ : g_api_Head)) fun x5 =>
  obind (m_ref04_Sign a0.Key x5) fun x6 =>
  some ((⟨a0.Id, a2, x4, a3, x6.1⟩ : g_api_Head), 0)
theorem w_ref24_Head {a0 : g_api_Log} {a1 : Int} {a2 : Int} {a3 : Int} {r : g_api_Head × Int} (hm : m_ref24_Head a0 a1 a2 a3 = some r) : Sf prog 9 [ag (e_api_Log a0), .d (.i a1), .d (.i a2), .d (.i a3)] (.tup [ag (e_api_Head r.1), .d (.i r.2)]) :=
  sp call9 func9 rfl ntmps9 rfl fun D0 As η0 m0 hd => by
    unfold m_ref24_Head at hm
    obtain ⟨x1, q1, hm⟩ := obind_some hm
    refine gco (w_ref24_Leaves q1) (by kernel_rfl) ?_
    refine gi hm (by kernel_rfl) (fun hc1 hm => ?_) fun hc1 hm => ?_
    · skip
      have e0 := Option.some.inj hm
      subst e0
      exact gend hd (by kernel_rfl)
    obtain ⟨x2, q2, hm⟩ := obind_some hm
    refine gc (fun _ => w_ref24_num q2) (by kernel_rfl) ?_
    refine gi hm (by kernel_rfl) (fun hc2 hm => ?_) fun hc2 hm => ?_
    · skip
      have e0 := Option.some.inj hm
      subst e0
      exact gend hd (by kernel_rfl)
    obtain ⟨x3, q3, hm⟩ := obind_some hm
    refine gco (s_ref24_some q3) (by kernel_rfl) ?_
    refine gi hm (by kernel_rfl) (fun hc3 hm => ?_) fun hc3 hm => ?_
    · skip
      have e0 := Option.some.inj hm
      subst e0
      exact gend hd (by kernel_rfl)
    obtain ⟨x4, q4, hm⟩ := obind_some hm
    refine gco (s_ref08_Root q4) (by kernel_rfl) ?_
    obtain ⟨x5, q5, hm⟩ := obind_some hm
    refine gco (w_ref24_HeadBytes q5) (by kernel_rfl) ?_
    obtain ⟨x6, q6, hm⟩ := obind_some hm
    refine gco (w_ref04_Sign q6) (by kernel_rfl) ?_
    have e0 := Option.some.inj hm
    subst e0
    exact gend hd (by kernel_rfl)
def m_merkle_half (a0 : Int) : Option Int :=
  obind (m_bits_Len (toU (w64 (a0 - 1)))) fun x1 =>
  if (0 : Int) ≤ (w64 (x1 - 1)) then
    bnd ((shl64 1 ((w64 (x1 - 1)).toNat))) fun x2 =>
    some x2
  else none
theorem w_merkle_half {a0 : Int} {r : Int} (hm : m_merkle_half a0 = some r) : Sf prog 88 [.d (.i a0)] (.d (.i r)) :=
  sp call88 func88 rfl ntmps88 rfl fun D0 As η0 m0 hd => by
    unfold m_merkle_half at hm
    obtain ⟨x1, q1, hm⟩ := obind_some hm
    refine gc (fun _ => w_bits_Len q1) (by kernel_rfl) ?_
    obtain ⟨q2, hm⟩ := if_some hm
    refine gsh (r := .i (shl64 1 ((w64 (x1 - 1)).toNat))) (fun h => q2) (by kernel_rfl) ?_
    have hm := bnd_is hm
    let x2 : Int := ((shl64 1 ((w64 (x1 - 1)).toNat)))
    have e0 := Option.some.inj hm
    subst e0
    exact gend hd (by kernel_rfl)
theorem v_merkle_half {m : Mem} {As : List Ow} {w : World} {a0 : Int} {r : Int} (S : St m As w) (hm : m_merkle_half a0 = some r) :
    CallsR prog 88 #[vI a0] w fun v w' => ∃ (M : Mem), m ≤ M ∧ St M (As) w' ∧ v = vI r := by
  refine CallsR.mono ((w_merkle_half hm).2 none0 m As w [vI a0] (.cons (.d (.i _)) .nil) (fun n h => absurd rfl h) S) ?_
  rintro v w' ⟨M, η', r', obs', n1, hle, _, ⟨rfl, rfl, rfl⟩, hdom, hR, S'⟩
  obtain rfl := hR.i_inv
  exact ⟨M, hle, S', rfl⟩
def r_merkle_Prove_1 : Nat → (List (UInt64 × UInt64)) → Int → (List (UInt64 × UInt64)) → Option (List (UInt64 × UInt64))
  | 0, _, _, _ => none
  | n + 1, a0, a1, k1 =>
    if ((a0.length : Int) == 1) = true then
      some k1
    else
    obind (m_merkle_half (a0.length : Int)) fun x1 =>
    obind (cut a0 0 x1) fun x2 =>
    obind (cut a0 x1 (a0.length : Int)) fun x3 =>
    obind (
      if (decide (a1 ≥ x1)) = true then
        some ((w64 (a1 - x1)), x3, x2)
      else
      some (a1, x2, x3)
    ) fun x4 =>
    obind (r_merkle_Prove_1 n x4.2.1 x4.1 k1) fun x5 =>
    obind (m_merkle_Root x4.2.2) fun x6 =>
    obind (app 16 x5 ([x6] : List (UInt64 × UInt64))) fun x7 =>
    some x7
def m_merkle_Prove_1 (a0 : List (UInt64 × UInt64)) (a1 : Int) (k1 : List (UInt64 × UInt64)) : Option (List (UInt64 × UInt64)) := r_merkle_Prove_1 FUEL a0 a1 k1
theorem wr_merkle_Prove_1 (n : Nat) : ∀ {m : Mem} {As : List Ow} {w : World} {a0 : List (UInt64 × UInt64)} {a0v0 : Value} {a1 : Int} {kb0 : Nat} {kb1 : Nat} {k1 : List (UInt64 × UInt64)} {k1v0 : Value} {k1c0 : List Value} {r : List (UInt64 × UInt64)} (S : St m ((bx kb0 [.func (.func 87) #[] #[pt kb0 0, pt kb1 0]] 117) :: (bx kb1 [k1v0] 29) :: (row 2 k1v0 k1c0 k1.length) :: As) w) (a0h0 : SlR m a0v0 a0) (k1h0 : RepL m k1c0 k1) (hm : r_merkle_Prove_1 n a0 a1 k1 = some r),
    CallsR Tryz.prog 87 #[a0v0, vI a1, pt kb0 0, pt kb1 0] w fun v w' => ∃ (M : Mem), m ≤ M ∧ ∃ (rbv1 : Value) (rbc1 : List Value), St M ((bx kb1 [rbv1] 29) :: (row 2 rbv1 rbc1 r.length) :: (bx kb0 [.func (.func 87) #[] #[pt kb0 0, pt kb1 0]] 117) :: As) w' ∧ v = .tuple #[] ∧ RepL M rbc1 r := by
  induction n with
  | zero => intro m As w a0 a0v0 a1 kb0 kb1 k1 k1v0 k1c0 r S a0h0 k1h0 hm; cases hm
  | succ n ih =>
    intro m As w a0 a0v0 a1 kb0 kb1 k1 k1v0 k1c0 r S a0h0 k1h0 hm
    unfold r_merkle_Prove_1 at hm
    have L0 := Mem.rfl' m
    refine callsR (args := [a0v0, vI a1, pt kb0 0, pt kb1 0]) Tryz.func87 rfl Tryz.ntmps87 (Nat.le_of_ble_eq_true rfl) ?_
    refine wpc_seq ?_
    refine wpc_seq ?_
    refine wpc_region ?_
    refine s_mvv (v := a0v0) rfl ?_
    refine s_lenR (xs := a0) rfl a0h0 Tryz.underlying29 ?_
    refine s_eql (m := (a0.length : Int)) (n := 1) rfl rfl ?_
    refine wpl_nil ?_
    refine nrm ?_
    refine wpc_if (t := ((a0.length : Int) == 1)) rfl (fun hc1 => ?_) (fun hc1 => ?_)
    · replace hm := ifT hc1 hm
      refine wpc_ret ?_
      refine thR ?_
      refine outRw ?_
      intro we hpd
      replace S := St.pd S hpd
      have S1 : St _ ((bx kb1 [k1v0] 29) :: (row 2 k1v0 k1c0 k1.length) :: (bx kb0 [.func (.func 87) #[] #[pt kb0 0, pt kb1 0]] 117) :: As) _ := St.perm S (List.Perm.trans (List.Perm.swap _ _ _) (List.Perm.cons _ (List.Perm.swap _ _ _)))
      have e0 := Option.some.inj hm
      subst e0
      exact outR [] rfl trivial ⟨_, L0, _, _, S1, rfl, k1h0⟩
    replace hm := ifF hc1 hm
    refine wpc_skip ?_
    refine nrm ?_
    refine wpc_seq ?_
    refine wpc_region ?_
    refine s_mvv (v := a0v0) rfl ?_
    refine s_lenR (xs := a0) rfl a0h0 Tryz.underlying29 ?_
    obtain ⟨x1, q1, hm⟩ := obind_some hm
    refine s_call Tryz.call88 (v_merkle_half (a0 := (a0.length : Int)) S  q1) rfl ?_
    rintro _ w1 ⟨m1, l1, S2, rfl⟩
    replace a0h0 := a0h0.up l1
    replace k1h0 := RepL.up l1 k1h0
    replace L0 := Mem.tr L0 l1
    clear S
    replace S2 : St _ ((bx kb0 [.func (.func 87) #[] #[pt kb0 0, pt kb1 0]] 117) :: (bx kb1 [k1v0] 29) :: (row 2 k1v0 k1c0 k1.length) :: As) _ := S2
    refine s_asv (v := vI x1) rfl ?_
    refine wpl_nil ?_
    refine nrm ?_
    refine wpc_seq ?_
    obtain ⟨x2, q2, hm⟩ := obind_some hm
    obtain ⟨x3, q3, hm⟩ := obind_some hm
    have HM : MonoAll [(15, fv a0v0), (16, fv (vI x1)), (17, fun (M : Mem) (v : Value) => ∃ (v1 : Value), v = v1 ∧ SlR M v1 x2), (18, fv a0v0), (19, fv (vI x1)), (20, fun (M : Mem) (v : Value) => ∃ (v2 : Value), v = v2 ∧ SlR M v2 x3), (7, fun (M : Mem) (v : Value) => ∃ (v3 : Value), v = v3 ∧ SlR M v3 x2)] := ⟨mv, mv, (fun _ _ _ l ⟨v1, e, h1⟩ => ⟨v1, e, h1.up l⟩), mv, mv, (fun _ _ _ l ⟨v2, e, h2⟩ => ⟨v2, e, h2.up l⟩), (fun _ _ _ l ⟨v3, e, h3⟩ => ⟨v3, e, h3.up l⟩), trivial⟩
    refine wpc_flowG HM 7 mixed rfl rfl rfl [7, 15, 16, 17, 18, 19, 20] (fun L f M w => St M ((bx kb0 [.func (.func 87) #[] #[pt kb0 0, pt kb1 0]] 117) :: (bx kb1 [k1v0] 29) :: (row 2 k1v0 k1c0 k1.length) :: As) w) (St.drew S2 _) ?_ ?_
    · refine ⟨?_, ?_, ?_, ?_, ?_, ?_, ?_, trivial⟩
      · exact flp HM rfl [] (fun _ _ => trivial) (fun _ _ q => s_mvv (v := a0v0) rfl q) rfl
      · exact flp HM rfl [] (fun _ _ => trivial) (fun _ _ q => s_mvv (v := vI x1) rfl q) rfl
      · intro L f3 w4 hL hd hc ⟨m4, L5, S5, K, hO⟩
        have d0 : L 0 = true := dep hd rfl
        have e1 := K 0 d0
        have d1 : L 1 = true := dep hd rfl
        have e2 := K 1 d1
        obtain ⟨u3, rfl⟩ := fr_of (N := 38) (L := [(15, a0v0), (16, vI x1)]) hO ⟨e1, e2, trivial⟩
        replace S5 : St _ ((bx kb0 [.func (.func 87) #[] #[pt kb0 0, pt kb1 0]] 117) :: (bx kb1 [k1v0] 29) :: (row 2 k1v0 k1c0 k1.length) :: As) _ := S5
        replace a0h0 := a0h0.up L5
        replace k1h0 := RepL.up L5 k1h0
        have L6 := Mem.rfl' m4
        refine s_cut (ys := x2) (l := 0) (h := x1) rfl a0h0 Tryz.underlying29 Tryz.sizeOf34 (.inl ⟨rfl, rfl⟩) (.inr ⟨_, rfl⟩) (.inl rfl) q2 ?_
        intro v1 h1
        refine wpn ?_
        refine ⟨m4, Mem.tr L5 L6, ?_, facts_step HM rfl K L6 rfl rfl ⟨v1, rfl, h1⟩, outP⟩
        exact S5
      · exact flp HM rfl [] (fun _ _ => trivial) (fun _ _ q => s_mvv (v := a0v0) rfl q) rfl
      · exact flp HM rfl [] (fun _ _ => trivial) (fun _ _ q => s_mvv (v := vI x1) rfl q) rfl
      · intro L f6 w7 hL hd hc ⟨m7, L11, S8, K, hO⟩
        have d3 : L 3 = true := dep hd rfl
        have e3 := K 3 d3
        have d4 : L 4 = true := dep hd rfl
        have e4 := K 4 d4
        obtain ⟨u6, rfl⟩ := fr_of (N := 38) (L := [(18, a0v0), (19, vI x1)]) hO ⟨e3, e4, trivial⟩
        replace S8 : St _ ((bx kb0 [.func (.func 87) #[] #[pt kb0 0, pt kb1 0]] 117) :: (bx kb1 [k1v0] 29) :: (row 2 k1v0 k1c0 k1.length) :: As) _ := S8
        replace a0h0 := a0h0.up L11
        replace k1h0 := RepL.up L11 k1h0
        have L12 := Mem.rfl' m7
        refine s_cut (ys := x3) (l := x1) (h := (a0.length : Int)) rfl a0h0 Tryz.underlying29 Tryz.sizeOf34 (.inr ⟨_, rfl⟩) (.inl ⟨rfl, rfl⟩) (.inl rfl) q3 ?_
        intro v2 h2
        refine wpn ?_
        refine ⟨m7, Mem.tr L11 L12, ?_, facts_step HM rfl K L12 rfl rfl ⟨v2, rfl, h2⟩, outP⟩
        exact S8
      · intro L f7 w8 hL hd hc ⟨m8, L13, S9, K, hO⟩
        have d2 : L 2 = true := dep hd rfl
        obtain ⟨v3, e5, h3⟩ := K 2 d2
        obtain ⟨u7, rfl⟩ := fr_of (N := 38) (L := [(17, v3)]) hO ⟨e5, trivial⟩
        replace S9 : St _ ((bx kb0 [.func (.func 87) #[] #[pt kb0 0, pt kb1 0]] 117) :: (bx kb1 [k1v0] 29) :: (row 2 k1v0 k1c0 k1.length) :: As) _ := S9
        have L14 := Mem.rfl' m8
        refine s_asv (v := v3) rfl ?_
        refine wpn ?_
        refine ⟨m8, Mem.tr L13 L14, ?_, facts_step HM rfl K L14 rfl rfl ⟨v3, rfl, h3⟩, outP⟩
        exact S9
    intro L f8 w9 hall ⟨m9, L15, S10, K, hO⟩
    have d6 : L 6 = true := hall 6 (by decide)
    obtain ⟨v4, e6, h4⟩ := K 6 d6
    have d5 : L 5 = true := hall 5 (by decide)
    obtain ⟨v5, e7, h5⟩ := K 5 d5
    obtain ⟨u8, rfl⟩ := fr_of (N := 38) (L := [(7, v4), (20, v5)]) hO ⟨e6, e7, trivial⟩
    replace S10 : St _ ((bx kb0 [.func (.func 87) #[] #[pt kb0 0, pt kb1 0]] 117) :: (bx kb1 [k1v0] 29) :: (row 2 k1v0 k1c0 k1.length) :: As) _ := S10
    replace a0h0 := a0h0.up L15
    replace k1h0 := RepL.up L15 k1h0
    replace L0 := Mem.tr L0 L15
    clear S2
    refine s_asv (v := v5) rfl ?_
    refine wpl_nil ?_
    refine nrm ?_
    obtain ⟨x4, q4, hm⟩ := obind_some hm
    have L16 := Mem.rfl' m9
    refine wpc_seq ?_
    refine wpc_join [1, 7, 8, 21, 22, 23, 24, 25, 26, 27, 28] (fun f' w' => ∃ (M1 : Mem) (v6 : Value) (v7 : Value), m9 ≤ M1 ∧ St M1 ((bx kb0 [.func (.func 87) #[] #[pt kb0 0, pt kb1 0]] 117) :: (bx kb1 [k1v0] 29) :: (row 2 k1v0 k1c0 k1.length) :: As) w' ∧ SlR M1 v6 x4.2.1 ∧ SlR M1 v7 x4.2.2 ∧ AllAt f' [(1, vI x4.1), (7, v6), (8, v7)]) ?_ ?_
    · refine wpc_seq ?_
      refine wpc_region ?_
      refine s_mvv (v := vI a1) rfl ?_
      refine s_mvv (v := vI x1) rfl ?_
      refine s_geq (m := a1) (n := x1) rfl rfl ?_
      refine wpl_nil ?_
      refine nrm ?_
      refine wpc_if (t := (decide (a1 ≥ x1))) rfl (fun hc2 => ?_) (fun hc2 => ?_)
      · replace q4 := ifT hc2 q4
        refine wpc_region ?_
        refine s_mvv (v := v5) rfl ?_
        refine s_mvv (v := v4) rfl ?_
        refine s_mvv (v := vI a1) rfl ?_
        refine s_mvv (v := vI x1) rfl ?_
        refine s_subI (m := a1) (n := x1) rfl rfl ?_
        refine s_asv (v := v5) rfl ?_
        refine s_asv (v := v4) rfl ?_
        refine s_asv (v := vI (w64 (a1 - x1))) rfl ?_
        refine wpl_nil ?_
        refine nrm ?_
        have e0 := Option.some.inj q4
        subst e0
        exact ⟨outP, m9, _, _, L16, S10, h5, h4, ⟨rfl, rfl, rfl, trivial⟩⟩
      replace q4 := ifF hc2 q4
      refine wpc_skip ?_
      refine nrm ?_
      have e0 := Option.some.inj q4
      subst e0
      exact ⟨outP, m9, _, _, L16, S10, h4, h5, ⟨rfl, rfl, rfl, trivial⟩⟩
    rintro f9 w10 ho ⟨m10, v6, v7, l2, S11, h6, h7, ha⟩
    obtain ⟨u9, rfl⟩ := fr_of (N := 38) ho ha
    replace k1h0 := RepL.up l2 k1h0
    replace L0 := Mem.tr L0 l2
    clear S10
    refine wpc_seq ?_
    refine wpc_region ?_
    refine s_ld (i := 0) (cs := [.func (.func 87) #[] #[pt kb0 0, pt kb1 0]]) S11 rfl rfl Tryz.isAgg117 Tryz.sizeOf117 rfl (fun _ => rfl) ?_
    refine s_mvv (v := v6) rfl ?_
    refine s_mvv (v := vI x4.1) rfl ?_
    obtain ⟨x5, q5, hm⟩ := obind_some hm
    refine s_callC rfl Tryz.call87 (ih (a0 := x4.2.1) (a1 := x4.1) (k1 := k1) S11 h6 k1h0 q5) rfl rfl ?_
    rintro _ w11 ⟨m11, l3, v8, c1, S12, rfl, h8⟩
    replace h7 := h7.up l3
    replace h6 := h6.up l3
    replace L0 := Mem.tr L0 l3
    clear S11
    replace S12 : St _ ((bx kb1 [v8] 29) :: (row 2 v8 c1 x5.length) :: (bx kb0 [.func (.func 87) #[] #[pt kb0 0, pt kb1 0]] 117) :: As) _ := S12
    refine wpl_nil ?_
    refine nrm ?_
    obtain ⟨x6, q6, hm⟩ := obind_some hm
    have HM : MonoAll [(33, fv v8), (34, fv v7), (35, fv (.agg #[vU x6.1, vU x6.2])), (36, fun (M : Mem) (v : Value) => ∃ (v9 : Value), v = v9 ∧ SlR M v9 ([x6] : List (UInt64 × UInt64)))] := ⟨mv, mv, mv, (fun _ _ _ l ⟨v9, e, h9⟩ => ⟨v9, e, h9.up l⟩), trivial⟩
    refine wpc_flowG HM 4 mixed rfl rfl rfl [33, 34, 35, 36] (fun L f M w => St M ((bx kb1 [v8] 29) :: (row 2 v8 c1 x5.length) :: (bx kb0 [.func (.func 87) #[] #[pt kb0 0, pt kb1 0]] 117) :: As) w) (St.drew S12 _) ?_ ?_
    · refine ⟨?_, ?_, ?_, ?_, trivial⟩
      · exact flp HM rfl [] (fun _ _ => trivial) (fun _ S13 q => s_ld (i := 0) (cs := [v8]) S13 rfl rfl Tryz.isAgg29 Tryz.sizeOf29 rfl (fun _ => rfl) q) rfl
      · exact flp HM rfl [] (fun _ _ => trivial) (fun _ _ q => s_mvv (v := v7) rfl q) rfl
      · intro L f12 w14 hL hd hc ⟨m14, L21, S15, K, hO⟩
        have d1 : L 1 = true := dep hd rfl
        have e8 := K 1 d1
        obtain ⟨u12, rfl⟩ := fr_of (N := 38) (L := [(34, v7)]) hO ⟨e8, trivial⟩
        replace S15 : St _ ((bx kb1 [v8] 29) :: (row 2 v8 c1 x5.length) :: (bx kb0 [.func (.func 87) #[] #[pt kb0 0, pt kb1 0]] 117) :: As) _ := S15
        replace h7 := h7.up L21
        replace h8 := RepL.up L21 h8
        have L22 := Mem.rfl' m14
        refine s_call Tryz.call32 (w_merkle_Root (a0 := x4.2.2) S15 h7 q6) rfl ?_
        rintro _ w15 ⟨m15, l4, S16, rfl⟩
        replace h7 := h7.up l4
        replace h8 := RepL.up l4 h8
        replace L22 := Mem.tr L22 l4
        clear S15
        replace S16 : St _ ((bx kb1 [v8] 29) :: (row 2 v8 c1 x5.length) :: (bx kb0 [.func (.func 87) #[] #[pt kb0 0, pt kb1 0]] 117) :: As) _ := S16
        refine wpn ?_
        refine ⟨m15, Mem.tr L21 L22, ?_, facts_step HM rfl K L22 rfl rfl rfl, outP⟩
        exact S16
      · intro L f13 w16 hL hd hc ⟨m16, L23, S17, K, hO⟩
        have d2 : L 2 = true := dep hd rfl
        have e9 := K 2 d2
        obtain ⟨u13, rfl⟩ := fr_of (N := 38) (L := [(35, .agg #[vU x6.1, vU x6.2])]) hO ⟨e9, trivial⟩
        replace S17 : St _ ((bx kb1 [v8] 29) :: (row 2 v8 c1 x5.length) :: (bx kb0 [.func (.func 87) #[] #[pt kb0 0, pt kb1 0]] 117) :: As) _ := S17
        replace h7 := h7.up L23
        replace h8 := RepL.up L23 h8
        have L24 := Mem.rfl' m16
        refine s_litC (parts := [.tmp 35]) (vs := [.agg #[vU x6.1, vU x6.2]]) (cls := [[vU x6.1, vU x6.2]]) (xs := ([x6] : List (UInt64 × UInt64))) (n := 1) S17 Tryz.underlying29 Tryz.sizeOf34 Tryz.zeroValue34 rfl ⟨rfl, trivial⟩ (RepL.cons (c := [vU x6.1, vU x6.2]) (x := x6) mk_arr2_UInt64 RepL.nil) rfl rfl rfl (by decide) (by decide) ?_
        intro v9 m17 w17 l5 S18 h9
        replace h7 := h7.up l5
        replace h8 := RepL.up l5 h8
        replace L24 := Mem.tr L24 l5
        clear S17
        refine wpn ?_
        refine ⟨m17, Mem.tr L23 L24, ?_, facts_step HM rfl K L24 rfl rfl ⟨v9, rfl, h9⟩, outP⟩
        exact S18
    intro L f14 w18 hall ⟨m18, L25, S19, K, hO⟩
    have d0 : L 0 = true := hall 0 (by decide)
    have e10 := K 0 d0
    have d3 : L 3 = true := hall 3 (by decide)
    obtain ⟨v10, e11, h10⟩ := K 3 d3
    obtain ⟨u14, rfl⟩ := fr_of (N := 38) (L := [(33, v8), (36, v10)]) hO ⟨e10, e11, trivial⟩
    replace S19 : St _ ((bx kb1 [v8] 29) :: (row 2 v8 c1 x5.length) :: (bx kb0 [.func (.func 87) #[] #[pt kb0 0, pt kb1 0]] 117) :: As) _ := S19
    replace h7 := h7.up L25
    replace h8 := RepL.up L25 h8
    replace L0 := Mem.tr L0 L25
    clear S12
    obtain ⟨x7, q7, hm⟩ := obind_some hm
    refine s_app (i := 1) (zs := x7) (bytes := 16) (ti := Tryz.t34) S19 rfl rfl h8 rfl rfl h10 q7 Tryz.underlying29 Tryz.type34 rfl rfl rfl rfl ?_
    intro v11 c2 w19 S20 h11
    replace S20 : St _ ((bx kb1 [v8] 29) :: (row 2 v11 c2 x7.length) :: (bx kb0 [.func (.func 87) #[] #[pt kb0 0, pt kb1 0]] 117) :: As) _ := S20
    clear S19
    refine s_stS (i := 0) S20 rfl rfl rfl Tryz.sizeOf29 (St.rowCells (i := 1) S20 rfl) rfl ?_
    intro w20 S21
    replace S21 : St _ ((bx kb1 [v11] 29) :: (row 2 v11 c2 x7.length) :: (bx kb0 [.func (.func 87) #[] #[pt kb0 0, pt kb1 0]] 117) :: As) _ := S21
    clear S20
    refine wpl_nil ?_
    refine outNw ?_
    intro we hpd
    replace S21 := St.pd S21 hpd
    have e0 := Option.some.inj hm
    subst e0
    exact outR [] rfl trivial ⟨_, L0, _, _, S21, rfl, h11⟩
theorem w_merkle_Prove_1 {m : Mem} {As : List Ow} {w : World} {a0 : List (UInt64 × UInt64)} {a0v0 : Value} {a1 : Int} {kb0 : Nat} {kb1 : Nat} {k1 : List (UInt64 × UInt64)} {k1v0 : Value} {k1c0 : List Value} {r : List (UInt64 × UInt64)} (S : St m ((bx kb0 [.func (.func 87) #[] #[pt kb0 0, pt kb1 0]] 117) :: (bx kb1 [k1v0] 29) :: (row 2 k1v0 k1c0 k1.length) :: As) w) (a0h0 : SlR m a0v0 a0) (k1h0 : RepL m k1c0 k1) (hm : m_merkle_Prove_1 a0 a1 k1 = some r) :
    CallsR Tryz.prog 87 #[a0v0, vI a1, pt kb0 0, pt kb1 0] w fun v w' => ∃ (M : Mem), m ≤ M ∧ ∃ (rbv1 : Value) (rbc1 : List Value), St M ((bx kb1 [rbv1] 29) :: (row 2 rbv1 rbc1 r.length) :: (bx kb0 [.func (.func 87) #[] #[pt kb0 0, pt kb1 0]] 117) :: As) w' ∧ v = .tuple #[] ∧ RepL M rbc1 r := wr_merkle_Prove_1 FUEL S a0h0 k1h0 hm
def m_merkle_Prove (a0 : List (UInt64 × UInt64)) (a1 : Int) : Option ((List (UInt64 × UInt64)) × Int) :=
  if (((decide ((a0.length : Int) > 256)) || (decide (a1 < 0))) || (decide (a1 ≥ (a0.length : Int)))) = true then
    some (([] : List (UInt64 × UInt64)), 80)
  else
  obind (m_merkle_Prove_1 a0 a1 ([] : List (UInt64 × UInt64))) fun x1 =>
  some (x1, 0)
theorem w_merkle_Prove {m : Mem} {As : List Ow} {w : World} {a0 : List (UInt64 × UInt64)} {a0v0 : Value} {a1 : Int} {r : (List (UInt64 × UInt64)) × Int} (S : St m (As) w) (a0h0 : SlR m a0v0 a0) (hm : m_merkle_Prove a0 a1 = some r) :
    CallsR Tryz.prog 40 #[a0v0, vI a1] w fun v w' => ∃ (M : Mem), m ≤ M ∧ ∃ (rv0 : Value) (rc0 : List Value), St M ((row 2 rv0 rc0 r.1.length) :: As) w' ∧ v = .tuple #[rv0, vI r.2] ∧ RepL M rc0 r.1 := by
 unfold m_merkle_Prove at hm
 have L0 := Mem.rfl' m
 refine callsR (args := [a0v0, vI a1]) func40 rfl ntmps40 (nb rfl) <| ws <| s_asv (v := .slice none 0 0) rfl <| s_asv (v := vI 0) rfl <| wpl_nil <| nrm <| wpc_seq <| ws <| s_mvv (v := a0v0) rfl <| s_lenR (xs := a0) rfl a0h0 underlying29 <| s_gtr (m := (a0.length : Int)) (n := 256) rfl rfl <| s_mvv (v := vb (decide ((a0.length : Int) > 256))) rfl <| wpl_cut 3 [12, 13, 14] (fun f' w' => w' = w ∧ AllAt f' [(14, vb ((decide ((a0.length : Int) > 256)) || (decide (a1 < 0))))]) ?_ ?_
 · rcases bool_tf (decide ((a0.length : Int) > 256)) with hb1 | hb1
   · exact wpl_no (d := 11) rfl rfl (cb hb1) <| wpl_no (d := 11) rfl rfl (cb hb1) <| s_pickT (cb hb1) rfl <| wpl_nil (nrm ⟨outP, rfl, congrArg Value.bool (or_t hb1), trivial⟩)
   · exact wpl_yes (d := 11) rfl rfl (cb hb1) <| s_mvv (v := vI a1) rfl <| wpl_yes (d := 11) rfl rfl (cb hb1) <| s_lss (m := a1) (n := 0) rfl rfl <| s_pickF (cb hb1) rfl <| wpl_nil (nrm ⟨outP, rfl, congrArg Value.bool (or_f hb1), trivial⟩)
 rintro f1 w1 ho ⟨h1, ha⟩
 subst h1
 obtain ⟨u1, rfl⟩ := fr_of (N := 27) ho ha
 refine s_mvv (v := vb ((decide ((a0.length : Int) > 256)) || (decide (a1 < 0)))) rfl <| wpl_cut 5 [16, 17, 18, 19, 20] (fun f' w' => w' = w1 ∧ AllAt f' [(20, vb (((decide ((a0.length : Int) > 256)) || (decide (a1 < 0))) || (decide (a1 ≥ (a0.length : Int)))))]) ?_ ?_
 · rcases bool_tf ((decide ((a0.length : Int) > 256)) || (decide (a1 < 0))) with hb2 | hb2
   · exact wpl_no (d := 15) rfl rfl (cb hb2) <| wpl_no (d := 15) rfl rfl (cb hb2) <| wpl_no (d := 15) rfl rfl (cb hb2) <| wpl_no (d := 15) rfl rfl (cb hb2) <| s_pickT (cb hb2) rfl <| wpl_nil (nrm ⟨outP, rfl, congrArg Value.bool (or_t hb2), trivial⟩)
   · exact wpl_yes (d := 15) rfl rfl (cb hb2) <| s_mvv (v := vI a1) rfl <| wpl_yes (d := 15) rfl rfl (cb hb2) <| s_mvv (v := a0v0) rfl <| wpl_yes (d := 15) rfl rfl (cb hb2) <| s_lenR (xs := a0) rfl a0h0 underlying29 <| wpl_yes (d := 15) rfl rfl (cb hb2) <| s_geq (m := a1) (n := (a0.length : Int)) rfl rfl <| s_pickF (cb hb2) rfl <| wpl_nil (nrm ⟨outP, rfl, congrArg Value.bool (or_f hb2), trivial⟩)
 rintro f2 w2 ho ⟨h2, ha⟩
 subst h2
 obtain ⟨u2, rfl⟩ := fr_of (N := 27) ho ha
 refine wpl_nil <| nrm <| wpc_if (t := (((decide ((a0.length : Int) > 256)) || (decide (a1 < 0))) || (decide (a1 ≥ (a0.length : Int))))) rfl (fun hc1 => ?_) (fun hc1 => ?_)
 · replace hm := ifT hc1 hm
   refine ws <| s_asv (v := .slice none 0 0) rfl <| s_asv (v := vI 80) rfl <| wpl_nil <| nrm <| wpc_ret <| thR <| outRw fun we hpd => ?_
   replace S := St.pd S hpd
   have S1 := St.rowNil S 2
   have h3 : RepL m [] ([] : List (UInt64 × UInt64)) := RepL.nil
   replace S1 : St _ ((row 2 (.slice none 0 0) [] ([] : List (UInt64 × UInt64)).length) :: As) _ := S1
   clear S
   have e0 := Option.some.inj hm
   subst e0
   exact outR [_, _] rfl ⟨rfl, rfl, trivial⟩ ⟨_, L0, _, _, S1, rfl, h3⟩
 replace hm := ifF hc1 hm
 refine wpc_skip <| nrm <| ws <| s_alloc S zeroValue29 fun b1 w3 S2 => ?_
 replace S2 : St _ ((bx b1 [.slice none 0 0] 29) :: As) _ := S2
 clear S
 refine nx <| s_alloc S2 zeroValue117 fun b2 w4 S3 => nx <| s_funcC (caps := [pt b2 0, pt b1 0]) rfl <| s_stL (i := 0) S3 rfl rfl rfl sizeOf117 (oneC rfl oneN) rfl fun w5 S4 => ?_
 replace S4 : St _ ((bx b2 [.func (.func 87) #[] #[pt b2 0, pt b1 0]] 117) :: (bx b1 [.slice none 0 0] 29) :: As) _ := S4
 clear S2 S3
 refine nx <| s_ld (i := 0) (cs := [.func (.func 87) #[] #[pt b2 0, pt b1 0]]) S4 rfl rfl isAgg117 sizeOf117 rfl (fun _ => rfl) <| s_mvv (v := a0v0) rfl <| s_mvv (v := vI a1) rfl ?_
 have S5 := St.rowNil S4 2
 have h4 : RepL m [] ([] : List (UInt64 × UInt64)) := RepL.nil
 replace S5 : St _ ((row 2 (.slice none 0 0) [] ([] : List (UInt64 × UInt64)).length) :: (bx b2 [.func (.func 87) #[] #[pt b2 0, pt b1 0]] 117) :: (bx b1 [(.slice none 0 0)] 29) :: As) _ := S5
 clear S4
 have S6 : St _ ((bx b2 [.func (.func 87) #[] #[pt b2 0, pt b1 0]] 117) :: (bx b1 [(.slice none 0 0)] 29) :: (row 2 (.slice none 0 0) [] ([] : List (UInt64 × UInt64)).length) :: As) _ := St.perm S5 (List.Perm.trans (List.Perm.swap _ _ _) (List.Perm.cons _ (List.Perm.swap _ _ _)))
 clear S5
 obtain ⟨x1, q1, hm⟩ := obind_some hm
 refine s_callC rfl call87 (w_merkle_Prove_1 (a0 := a0) (a1 := a1) (k1 := ([] : List (UInt64 × UInt64))) S6 a0h0 h4 q1) rfl rfl ?_
 rintro _ w6 ⟨m1, l1, v1, c1, S7, rfl, h5⟩
 clear S6
 refine nx <| s_ld (i := 0) (cs := [v1]) S7 rfl rfl isAgg29 sizeOf29 rfl (fun _ => rfl) <| s_asv (v := v1) rfl <| s_asv (v := vI 0) rfl <| wpl_nil <| nrm <| wpc_ret <| outRw fun we hpd => ?_
 replace S7 := St.pd S7 hpd
 obtain ⟨m2, l2, S8⟩ := St.drop S7 0
 clear S7
 replace S8 : St _ ((row 2 v1 c1 x1.length) :: (bx b2 [.func (.func 87) #[] #[pt b2 0, pt b1 0]] 117) :: As) _ := S8
 obtain ⟨m3, l3, S9⟩ := St.drop S8 1
 clear S8
 replace S9 : St _ ((row 2 v1 c1 x1.length) :: As) _ := S9
 have e0 := Option.some.inj hm
 subst e0
 replace L0 := Mem.tr L0 (mt l1 (mt l2 l3))
 replace h5 := RepL.up (mt l2 l3) h5
 exact outR [_, _] rfl ⟨rfl, rfl, trivial⟩ ⟨_, L0, _, _, S9, rfl, h5⟩
theorem s_merkle_Prove {a0 : List (UInt64 × UInt64)} {a1 : Int} {r : (List (UInt64 × UInt64)) × Int} (hm : m_merkle_Prove a0 a1 = some r) : Sp prog 40 [sl e_a2_eU a0, .d (.i a1)] [] 0 (is (.tup [.ow 0, .d (.i r.2)]) [.row 0 2 _ e_a2_eU r.1] 1) :=
  ⟨call40, fun η m As w vs hv0 hd S => by
    have S : St m As w := S
    obtain ⟨v0, u0, rfl, r0, hv1⟩ := RelL.cons_inv hv0
    have f0 := Br.ofS b_a2_eU r0.dd
    obtain ⟨v1, u1, rfl, r1, hv2⟩ := RelL.cons_inv hv1
    obtain rfl := r1.i_inv
    obtain rfl := RelL.nil_inv hv2
    refine CallsR.mono (w_merkle_Prove S f0 hm) ?_
    rintro v w' ⟨M, hle, y0, c0, S0, rfl, h0⟩
    exact ⟨M, (envL [y0]), _, _, _, hle, dom0 hd _, ⟨rfl, rfl, rfl⟩, envL_dom rfl, (.tup' (.cons (.ow rfl (row_one S0)) (.cons (.d (.i _)) .nil))), (St.impL S0 (sepC (Br.toR b_a2_eU rfl rfl (row_one S0) h0) fun _ h => h))⟩⟩
def m_logd_Prove (a0 : g_api_Log) (a1 : Int) (a2 : Int) (a3 : Int) : Option (g_api_Place × Int) :=
  obind (m_logd_first a0 a1 a3) fun x1 =>
  if (x1.2 != 0) = true then
    some ((⟨0, 0, 0, []⟩ : g_api_Place), x1.2)
  else
  obind (m_merkle_Prove x1.1 a2) fun x2 =>
  if (x2.2 != 0) = true then
    some ((⟨0, 0, 0, []⟩ : g_api_Place), x2.2)
  else
  some ((⟨a0.Id, a2, a3, x2.1⟩ : g_api_Place), 0)
theorem w_logd_Prove {a0 : g_api_Log} {a1 : Int} {a2 : Int} {a3 : Int} {r : g_api_Place × Int} (hm : m_logd_Prove a0 a1 a2 a3 = some r) : Sf prog 10 [ag (e_api_Log a0), .d (.i a1), .d (.i a2), .d (.i a3)] (.tup [ag (e_api_Place r.1), .d (.i r.2)]) :=
  sp call10 func10 rfl ntmps10 rfl fun D0 As η0 m0 hd => by
    unfold m_logd_Prove at hm
    obtain ⟨x1, q1, hm⟩ := obind_some hm
    refine gco (s_logd_first q1) (by kernel_rfl) ?_
    refine gi hm (by kernel_rfl) (fun hc1 hm => ?_) fun hc1 hm => ?_
    · skip
      have e0 := Option.some.inj hm
      subst e0
      exact gend hd (by kernel_rfl)
    obtain ⟨x2, q2, hm⟩ := obind_some hm
    refine gco (s_merkle_Prove q2) (by kernel_rfl) ?_
    refine gi hm (by kernel_rfl) (fun hc2 hm => ?_) fun hc2 hm => ?_
    · skip
      have e0 := Option.some.inj hm
      subst e0
      exact gend hd (by kernel_rfl)
    have e0 := Option.some.inj hm
    subst e0
    exact gend hd (by kernel_rfl)
def r_ref08_way : Nat → (List (UInt64 × UInt64)) → Int → Option (List (UInt64 × UInt64))
  | 0, _, _ => none
  | n + 1, a0, a1 =>
    if ((a0.length : Int) == 1) = true then
      some ([] : List (UInt64 × UInt64))
    else
    obind (m_ref08_First (a0.length : Int)) fun x1 =>
    if (decide (a1 < x1)) = true then
      obind (cut a0 0 x1) fun x2 =>
      obind (r_ref08_way n x2 a1) fun x3 =>
      obind (cut a0 x1 (a0.length : Int)) fun x4 =>
      obind (m_ref08_Root x4) fun x5 =>
      obind (app 16 x3 ([x5] : List (UInt64 × UInt64))) fun x6 =>
      some x6
    else
    obind (cut a0 x1 (a0.length : Int)) fun x7 =>
    obind (r_ref08_way n x7 (w64 (a1 - x1))) fun x8 =>
    obind (cut a0 0 x1) fun x9 =>
    obind (m_ref08_Root x9) fun x10 =>
    obind (app 16 x8 ([x10] : List (UInt64 × UInt64))) fun x11 =>
    some x11
def m_ref08_way (a0 : List (UInt64 × UInt64)) (a1 : Int) : Option (List (UInt64 × UInt64)) := r_ref08_way FUEL a0 a1
theorem wr_ref08_way (n : Nat) : ∀ {m : Mem} {As : List Ow} {w : World} {a0 : List (UInt64 × UInt64)} {a0v0 : Value} {a1 : Int} {r : List (UInt64 × UInt64)} (S : St m (As) w) (a0h0 : SlR m a0v0 a0) (hm : r_ref08_way n a0 a1 = some r),
    CallsR Tryz.prog 89 #[a0v0, vI a1] w fun v w' => ∃ (M : Mem), m ≤ M ∧ ∃ (rv0 : Value) (rc0 : List Value), St M ((row 2 rv0 rc0 r.length) :: As) w' ∧ v = rv0 ∧ RepL M rc0 r := by
  induction n with
  | zero => intro m As w a0 a0v0 a1 r S a0h0 hm; cases hm
  | succ n ih =>
    intro m As w a0 a0v0 a1 r S a0h0 hm
    unfold r_ref08_way at hm
    have L0 := Mem.rfl' m
    refine callsR (args := [a0v0, vI a1]) Tryz.func89 rfl Tryz.ntmps89 (Nat.le_of_ble_eq_true rfl) ?_
    refine wpc_seq ?_
    refine wpc_region ?_
    refine s_asv (v := .slice none 0 0) rfl ?_
    refine wpl_nil ?_
    refine nrm ?_
    refine wpc_seq ?_
    refine wpc_seq ?_
    refine wpc_region ?_
    refine s_mvv (v := a0v0) rfl ?_
    refine s_lenR (xs := a0) rfl a0h0 Tryz.underlying29 ?_
    refine s_eql (m := (a0.length : Int)) (n := 1) rfl rfl ?_
    refine wpl_nil ?_
    refine nrm ?_
    refine wpc_if (t := ((a0.length : Int) == 1)) rfl (fun hc1 => ?_) (fun hc1 => ?_)
    · replace hm := ifT hc1 hm
      refine wpc_seq ?_
      refine wpc_region ?_
      refine s_asv (v := .slice none 0 0) rfl ?_
      refine wpl_nil ?_
      refine nrm ?_
      refine wpc_ret ?_
      refine thR ?_
      refine outRw ?_
      intro we hpd
      replace S := St.pd S hpd
      have S1 := St.rowNil S 2
      have h1 : RepL m [] ([] : List (UInt64 × UInt64)) := RepL.nil
      replace S1 : St _ ((row 2 (.slice none 0 0) [] ([] : List (UInt64 × UInt64)).length) :: As) _ := S1
      clear S
      have e0 := Option.some.inj hm
      subst e0
      exact outR [_] rfl ⟨rfl, trivial⟩ ⟨_, L0, _, _, S1, rfl, h1⟩
    replace hm := ifF hc1 hm
    refine wpc_skip ?_
    refine nrm ?_
    refine wpc_seq ?_
    refine wpc_region ?_
    refine s_mvv (v := a0v0) rfl ?_
    refine s_lenR (xs := a0) rfl a0h0 Tryz.underlying29 ?_
    obtain ⟨x1, q1, hm⟩ := obind_some hm
    refine s_call Tryz.call77 (v_ref08_First (a0 := (a0.length : Int)) S  q1) rfl ?_
    rintro _ w1 ⟨m1, l1, S2, rfl⟩
    replace a0h0 := a0h0.up l1
    replace L0 := Mem.tr L0 l1
    clear S
    replace S2 : St _ (As) _ := S2
    refine s_asv (v := vI x1) rfl ?_
    refine wpl_nil ?_
    refine nrm ?_
    refine wpc_seq ?_
    refine wpc_seq ?_
    refine wpc_region ?_
    refine s_mvv (v := vI a1) rfl ?_
    refine s_mvv (v := vI x1) rfl ?_
    refine s_lss (m := a1) (n := x1) rfl rfl ?_
    refine wpl_nil ?_
    refine nrm ?_
    refine wpc_if (t := (decide (a1 < x1))) rfl (fun hc2 => ?_) (fun hc2 => ?_)
    · replace hm := ifT hc2 hm
      refine wpc_seq ?_
      obtain ⟨x2, q2, hm⟩ := obind_some hm
      obtain ⟨x3, q3, hm⟩ := obind_some hm
      obtain ⟨x4, q4, hm⟩ := obind_some hm
      have HM : MonoAll [(15, fv a0v0), (16, fv (vI x1)), (17, fun (M : Mem) (v : Value) => ∃ (v1 : Value), v = v1 ∧ SlR M v1 x2), (18, fv (vI a1)), (19, fun _ _ => True), (20, fv a0v0), (21, fv (vI x1)), (22, fun (M : Mem) (v : Value) => ∃ (v4 : Value), v = v4 ∧ SlR M v4 x4)] := ⟨mv, mv, (fun _ _ _ l ⟨v1, e, h2⟩ => ⟨v1, e, h2.up l⟩), mv, (fun _ _ _ _ h => h), mv, mv, (fun _ _ _ l ⟨v4, e, h5⟩ => ⟨v4, e, h5.up l⟩), trivial⟩
      refine wpc_flowG HM 8 mixed rfl rfl rfl [15, 16, 17, 18, 19, 20, 21, 22] (fun L f M w => ∃ (X1 : List Ow), ((L 4 = false → X1 = []) ∧ (L 4 = true → (RowS M X1 2 (f 19) x3))) ∧ St M ((X1 ++ As)) w) (⟨[], ⟨fun _ => rfl, fun hx => ff hx⟩, St.drew S2 _⟩) ?_ ?_
      · refine ⟨?_, ?_, ?_, ?_, ?_, ?_, ?_, ?_, trivial⟩
        · exact flp HM rfl [] (fun _ _ => trivial) (fun _ _ q => s_mvv (v := a0v0) rfl q) rfl
        · exact flp HM rfl [] (fun _ _ => trivial) (fun _ _ q => s_mvv (v := vI x1) rfl q) rfl
        · intro L f3 w4 hL hd hc ⟨m4, L5, ⟨X1, C3, S5⟩, K, hO⟩
          have d0 : L 0 = true := dep hd rfl
          have e1 := K 0 d0
          have d1 : L 1 = true := dep hd rfl
          have e2 := K 1 d1
          obtain ⟨u3, rfl⟩ := fr_of (N := 39) (L := [(15, a0v0), (16, vI x1)]) hO ⟨e1, e2, trivial⟩
          replace S5 : St _ ((X1 ++ As)) _ := S5
          replace a0h0 := a0h0.up L5
          have L6 := Mem.rfl' m4
          refine s_cut (ys := x2) (l := 0) (h := x1) rfl a0h0 Tryz.underlying29 Tryz.sizeOf34 (.inl ⟨rfl, rfl⟩) (.inr ⟨_, rfl⟩) (.inl rfl) q2 ?_
          intro v1 h2
          refine wpn ?_
          refine ⟨m4, Mem.tr L5 L6, ⟨X1, C3, ?_⟩, facts_step HM rfl K L6 rfl rfl ⟨v1, rfl, h2⟩, outP⟩
          exact S5
        · exact flp HM rfl [] (fun _ _ => trivial) (fun _ _ q => s_mvv (v := vI a1) rfl q) rfl
        · intro L f5 w6 hL hd hc ⟨m6, L9, ⟨X1, C5, S7⟩, K, hO⟩
          have d2 : L 2 = true := dep hd rfl
          obtain ⟨v2, e3, h3⟩ := K 2 d2
          have d3 : L 3 = true := dep hd rfl
          have e4 := K 3 d3
          have d4 : L 4 = false := hL
          obtain ⟨u5, rfl⟩ := fr_of (N := 39) (L := [(17, v2), (18, vI a1)]) hO ⟨e3, e4, trivial⟩
          replace S7 : St _ ((X1 ++ As)) _ := S7
          obtain rfl := C5.1 d4
          replace S7 : St _ (As) _ := S7
          replace a0h0 := a0h0.up L9
          have L10 := Mem.rfl' m6
          refine s_call Tryz.call89 (ih (a0 := x2) (a1 := a1) S7 h3 q3) rfl ?_
          rintro v3 w7 ⟨m7, l2, _, c1, S8, rfl, h4⟩
          replace a0h0 := a0h0.up l2
          replace h3 := h3.up l2
          replace L10 := Mem.tr L10 l2
          clear S7
          replace S8 : St _ ((row 2 v3 c1 x3.length) :: As) _ := S8
          refine wpn ?_
          refine ⟨m7, Mem.tr L9 L10, ⟨[row 2 v3 c1 x3.length], ⟨fun hx => tf rfl hx, fun _ => ⟨_, rfl, h4⟩⟩, ?_⟩, facts_step HM rfl K L10 rfl rfl trivial, outP⟩
          exact S8
        · exact flp HM rfl [] (fun _ _ => trivial) (fun _ _ q => s_mvv (v := a0v0) rfl q) rfl
        · exact flp HM rfl [] (fun _ _ => trivial) (fun _ _ q => s_mvv (v := vI x1) rfl q) rfl
        · intro L f8 w10 hL hd hc ⟨m10, L15, ⟨X1, C8, S11⟩, K, hO⟩
          have d5 : L 5 = true := dep hd rfl
          have e5 := K 5 d5
          have d6 : L 6 = true := dep hd rfl
          have e6 := K 6 d6
          obtain ⟨u8, rfl⟩ := fr_of (N := 39) (L := [(20, a0v0), (21, vI x1)]) hO ⟨e5, e6, trivial⟩
          replace S11 : St _ ((X1 ++ As)) _ := S11
          replace a0h0 := a0h0.up L15
          have L16 := Mem.rfl' m10
          refine s_cut (ys := x4) (l := x1) (h := (a0.length : Int)) rfl a0h0 Tryz.underlying29 Tryz.sizeOf34 (.inr ⟨_, rfl⟩) (.inl ⟨rfl, rfl⟩) (.inl rfl) q4 ?_
          intro v4 h5
          refine wpn ?_
          refine ⟨m10, Mem.tr L15 L16, ⟨X1, C8, ?_⟩, facts_step HM rfl K L16 rfl rfl ⟨v4, rfl, h5⟩, outP⟩
          exact S11
      intro L f9 w11 hall ⟨m11, L17, ⟨X1, C9, S12⟩, K, hO⟩
      obtain ⟨v5, e7⟩ : ∃ x, f9 19 = x := ⟨_, rfl⟩
      have d7 : L 7 = true := hall 7 (by decide)
      obtain ⟨v6, e8, h6⟩ := K 7 d7
      have d4 : L 4 = true := hall 4 (by decide)
      obtain ⟨u9, rfl⟩ := fr_of (N := 39) (L := [(19, v5), (22, v6)]) hO ⟨e7, e8, trivial⟩
      replace S12 : St _ ((X1 ++ As)) _ := S12
      obtain ⟨c2, rfl, h7⟩ := C9.2 d4
      replace h7 : RepL _ c2 x3 := h7
      replace S12 : St _ ((row 2 v5 c2 x3.length) :: As) _ := S12
      replace a0h0 := a0h0.up L17
      replace L0 := Mem.tr L0 L17
      clear S2
      obtain ⟨x5, q5, hm⟩ := obind_some hm
      refine s_call Tryz.call37 (w_ref08_Root (a0 := x4) S12 h6 q5) rfl ?_
      rintro _ w12 ⟨m12, l3, S13, rfl⟩
      replace h7 := RepL.up l3 h7
      replace h6 := h6.up l3
      replace L0 := Mem.tr L0 l3
      clear S12
      replace S13 : St _ ((row 2 v5 c2 x3.length) :: As) _ := S13
      refine s_litC (parts := [.tmp 23]) (vs := [.agg #[vU x5.1, vU x5.2]]) (cls := [[vU x5.1, vU x5.2]]) (xs := ([x5] : List (UInt64 × UInt64))) (n := 1) S13 Tryz.underlying29 Tryz.sizeOf34 Tryz.zeroValue34 rfl ⟨rfl, trivial⟩ (RepL.cons (c := [vU x5.1, vU x5.2]) (x := x5) mk_arr2_UInt64 RepL.nil) rfl rfl rfl (by decide) (by decide) ?_
      intro v7 m13 w13 l4 S14 h8
      replace h7 := RepL.up l4 h7
      replace L0 := Mem.tr L0 l4
      clear S13
      obtain ⟨x6, q6, hm⟩ := obind_some hm
      refine s_app (i := 0) (zs := x6) (bytes := 16) (ti := Tryz.t34) S14 rfl rfl h7 rfl rfl h8 q6 Tryz.underlying29 Tryz.type34 rfl rfl rfl rfl ?_
      intro v8 c3 w14 S15 h9
      replace S15 : St _ ((row 2 v8 c3 x6.length) :: As) _ := S15
      clear S14
      refine s_asv (v := v8) rfl ?_
      refine wpl_nil ?_
      refine nrm ?_
      refine wpc_ret ?_
      refine thR ?_
      refine outRw ?_
      intro we hpd
      replace S15 := St.pd S15 hpd
      have e0 := Option.some.inj hm
      subst e0
      exact outR [_] rfl ⟨rfl, trivial⟩ ⟨_, L0, _, _, S15, rfl, h9⟩
    replace hm := ifF hc2 hm
    refine wpc_skip ?_
    refine nrm ?_
    refine wpc_seq ?_
    obtain ⟨x7, q7, hm⟩ := obind_some hm
    obtain ⟨x8, q8, hm⟩ := obind_some hm
    obtain ⟨x9, q9, hm⟩ := obind_some hm
    have HM : MonoAll [(26, fv a0v0), (27, fv (vI x1)), (28, fun (M : Mem) (v : Value) => ∃ (v9 : Value), v = v9 ∧ SlR M v9 x7), (29, fv (vI a1)), (30, fv (vI x1)), (31, fv (vI (w64 (a1 - x1)))), (32, fun _ _ => True), (33, fv a0v0), (34, fv (vI x1)), (35, fun (M : Mem) (v : Value) => ∃ (v12 : Value), v = v12 ∧ SlR M v12 x9)] := ⟨mv, mv, (fun _ _ _ l ⟨v9, e, h10⟩ => ⟨v9, e, h10.up l⟩), mv, mv, mv, (fun _ _ _ _ h => h), mv, mv, (fun _ _ _ l ⟨v12, e, h13⟩ => ⟨v12, e, h13.up l⟩), trivial⟩
    refine wpc_flowG HM 10 mixed rfl rfl rfl [26, 27, 28, 29, 30, 31, 32, 33, 34, 35] (fun L f M w => ∃ (X2 : List Ow), ((L 6 = false → X2 = []) ∧ (L 6 = true → (RowS M X2 2 (f 32) x8))) ∧ St M ((X2 ++ As)) w) (⟨[], ⟨fun _ => rfl, fun hx => ff hx⟩, St.drew S2 _⟩) ?_ ?_
    · refine ⟨?_, ?_, ?_, ?_, ?_, ?_, ?_, ?_, ?_, ?_, trivial⟩
      · exact flp HM rfl [] (fun _ _ => trivial) (fun _ _ q => s_mvv (v := a0v0) rfl q) rfl
      · exact flp HM rfl [] (fun _ _ => trivial) (fun _ _ q => s_mvv (v := vI x1) rfl q) rfl
      · intro L f12 w17 hL hd hc ⟨m16, L22, ⟨X2, C12, S18⟩, K, hO⟩
        have d0 : L 0 = true := dep hd rfl
        have e9 := K 0 d0
        have d1 : L 1 = true := dep hd rfl
        have e10 := K 1 d1
        obtain ⟨u12, rfl⟩ := fr_of (N := 39) (L := [(26, a0v0), (27, vI x1)]) hO ⟨e9, e10, trivial⟩
        replace S18 : St _ ((X2 ++ As)) _ := S18
        replace a0h0 := a0h0.up L22
        have L23 := Mem.rfl' m16
        refine s_cut (ys := x7) (l := x1) (h := (a0.length : Int)) rfl a0h0 Tryz.underlying29 Tryz.sizeOf34 (.inr ⟨_, rfl⟩) (.inl ⟨rfl, rfl⟩) (.inl rfl) q7 ?_
        intro v9 h10
        refine wpn ?_
        refine ⟨m16, Mem.tr L22 L23, ⟨X2, C12, ?_⟩, facts_step HM rfl K L23 rfl rfl ⟨v9, rfl, h10⟩, outP⟩
        exact S18
      · exact flp HM rfl [] (fun _ _ => trivial) (fun _ _ q => s_mvv (v := vI a1) rfl q) rfl
      · exact flp HM rfl [] (fun _ _ => trivial) (fun _ _ q => s_mvv (v := vI x1) rfl q) rfl
      · exact flp HM rfl [(29, _), (30, _)] (fun K _ => ⟨K 3 rfl, K 4 rfl, trivial⟩) (fun _ _ q => s_subI (m := a1) (n := x1) rfl rfl q) rfl
      · intro L f16 w21 hL hd hc ⟨m20, L30, ⟨X2, C16, S22⟩, K, hO⟩
        have d2 : L 2 = true := dep hd rfl
        obtain ⟨v10, e13, h11⟩ := K 2 d2
        have d5 : L 5 = true := dep hd rfl
        have e14 := K 5 d5
        have d6 : L 6 = false := hL
        obtain ⟨u16, rfl⟩ := fr_of (N := 39) (L := [(28, v10), (31, vI (w64 (a1 - x1)))]) hO ⟨e13, e14, trivial⟩
        replace S22 : St _ ((X2 ++ As)) _ := S22
        obtain rfl := C16.1 d6
        replace S22 : St _ (As) _ := S22
        replace a0h0 := a0h0.up L30
        have L31 := Mem.rfl' m20
        refine s_call Tryz.call89 (ih (a0 := x7) (a1 := (w64 (a1 - x1))) S22 h11 q8) rfl ?_
        rintro v11 w22 ⟨m21, l5, _, c4, S23, rfl, h12⟩
        replace a0h0 := a0h0.up l5
        replace h11 := h11.up l5
        replace L31 := Mem.tr L31 l5
        clear S22
        replace S23 : St _ ((row 2 v11 c4 x8.length) :: As) _ := S23
        refine wpn ?_
        refine ⟨m21, Mem.tr L30 L31, ⟨[row 2 v11 c4 x8.length], ⟨fun hx => tf rfl hx, fun _ => ⟨_, rfl, h12⟩⟩, ?_⟩, facts_step HM rfl K L31 rfl rfl trivial, outP⟩
        exact S23
      · exact flp HM rfl [] (fun _ _ => trivial) (fun _ _ q => s_mvv (v := a0v0) rfl q) rfl
      · exact flp HM rfl [] (fun _ _ => trivial) (fun _ _ q => s_mvv (v := vI x1) rfl q) rfl
      · intro L f19 w25 hL hd hc ⟨m24, L36, ⟨X2, C19, S26⟩, K, hO⟩
        have d7 : L 7 = true := dep hd rfl
        have e15 := K 7 d7
        have d8 : L 8 = true := dep hd rfl
        have e16 := K 8 d8
        obtain ⟨u19, rfl⟩ := fr_of (N := 39) (L := [(33, a0v0), (34, vI x1)]) hO ⟨e15, e16, trivial⟩
        replace S26 : St _ ((X2 ++ As)) _ := S26
        replace a0h0 := a0h0.up L36
        have L37 := Mem.rfl' m24
        refine s_cut (ys := x9) (l := 0) (h := x1) rfl a0h0 Tryz.underlying29 Tryz.sizeOf34 (.inl ⟨rfl, rfl⟩) (.inr ⟨_, rfl⟩) (.inl rfl) q9 ?_
        intro v12 h13
        refine wpn ?_
        refine ⟨m24, Mem.tr L36 L37, ⟨X2, C19, ?_⟩, facts_step HM rfl K L37 rfl rfl ⟨v12, rfl, h13⟩, outP⟩
        exact S26
    intro L f20 w26 hall ⟨m25, L38, ⟨X2, C20, S27⟩, K, hO⟩
    obtain ⟨v13, e17⟩ : ∃ x, f20 32 = x := ⟨_, rfl⟩
    have d9 : L 9 = true := hall 9 (by decide)
    obtain ⟨v14, e18, h14⟩ := K 9 d9
    have d6 : L 6 = true := hall 6 (by decide)
    obtain ⟨u20, rfl⟩ := fr_of (N := 39) (L := [(32, v13), (35, v14)]) hO ⟨e17, e18, trivial⟩
    replace S27 : St _ ((X2 ++ As)) _ := S27
    obtain ⟨c5, rfl, h15⟩ := C20.2 d6
    replace h15 : RepL _ c5 x8 := h15
    replace S27 : St _ ((row 2 v13 c5 x8.length) :: As) _ := S27
    replace a0h0 := a0h0.up L38
    replace L0 := Mem.tr L0 L38
    clear S2
    obtain ⟨x10, q10, hm⟩ := obind_some hm
    refine s_call Tryz.call37 (w_ref08_Root (a0 := x9) S27 h14 q10) rfl ?_
    rintro _ w27 ⟨m26, l6, S28, rfl⟩
    replace h15 := RepL.up l6 h15
    replace h14 := h14.up l6
    replace L0 := Mem.tr L0 l6
    clear S27
    replace S28 : St _ ((row 2 v13 c5 x8.length) :: As) _ := S28
    refine s_litC (parts := [.tmp 36]) (vs := [.agg #[vU x10.1, vU x10.2]]) (cls := [[vU x10.1, vU x10.2]]) (xs := ([x10] : List (UInt64 × UInt64))) (n := 1) S28 Tryz.underlying29 Tryz.sizeOf34 Tryz.zeroValue34 rfl ⟨rfl, trivial⟩ (RepL.cons (c := [vU x10.1, vU x10.2]) (x := x10) mk_arr2_UInt64 RepL.nil) rfl rfl rfl (by decide) (by decide) ?_
    intro v15 m27 w28 l7 S29 h16
    replace h15 := RepL.up l7 h15
    replace L0 := Mem.tr L0 l7
    clear S28
    obtain ⟨x11, q11, hm⟩ := obind_some hm
    refine s_app (i := 0) (zs := x11) (bytes := 16) (ti := Tryz.t34) S29 rfl rfl h15 rfl rfl h16 q11 Tryz.underlying29 Tryz.type34 rfl rfl rfl rfl ?_
    intro v16 c6 w29 S30 h17
    replace S30 : St _ ((row 2 v16 c6 x11.length) :: As) _ := S30
    clear S29
    refine s_asv (v := v16) rfl ?_
    refine wpl_nil ?_
    refine nrm ?_
    refine wpc_ret ?_
    refine outRw ?_
    intro we hpd
    replace S30 := St.pd S30 hpd
    have e0 := Option.some.inj hm
    subst e0
    exact outR [_] rfl ⟨rfl, trivial⟩ ⟨_, L0, _, _, S30, rfl, h17⟩
theorem w_ref08_way {m : Mem} {As : List Ow} {w : World} {a0 : List (UInt64 × UInt64)} {a0v0 : Value} {a1 : Int} {r : List (UInt64 × UInt64)} (S : St m (As) w) (a0h0 : SlR m a0v0 a0) (hm : m_ref08_way a0 a1 = some r) :
    CallsR Tryz.prog 89 #[a0v0, vI a1] w fun v w' => ∃ (M : Mem), m ≤ M ∧ ∃ (rv0 : Value) (rc0 : List Value), St M ((row 2 rv0 rc0 r.length) :: As) w' ∧ v = rv0 ∧ RepL M rc0 r := wr_ref08_way FUEL S a0h0 hm
theorem s_ref08_way {a0 : List (UInt64 × UInt64)} {a1 : Int} {r : List (UInt64 × UInt64)} (hm : m_ref08_way a0 a1 = some r) : Sp prog 89 [sl e_a2_eU a0, .d (.i a1)] [] 0 (is (.ow 0) [.row 0 2 _ e_a2_eU r] 1) :=
  ⟨call89, fun η m As w vs hv0 hd S => by
    have S : St m As w := S
    obtain ⟨v0, u0, rfl, r0, hv1⟩ := RelL.cons_inv hv0
    have f0 := Br.ofS b_a2_eU r0.dd
    obtain ⟨v1, u1, rfl, r1, hv2⟩ := RelL.cons_inv hv1
    obtain rfl := r1.i_inv
    obtain rfl := RelL.nil_inv hv2
    refine CallsR.mono (w_ref08_way S f0 hm) ?_
    rintro v w' ⟨M, hle, y0, c0, S0, rfl, h0⟩
    exact ⟨M, (envL [v]), _, _, _, hle, dom0 hd _, ⟨rfl, rfl, rfl⟩, envL_dom rfl, (.ow rfl (row_one S0)), (St.impL S0 (sepC (Br.toR b_a2_eU rfl rfl (row_one S0) h0) fun _ h => h))⟩⟩
def m_ref08_Prove (a0 : List (UInt64 × UInt64)) (a1 : Int) : Option ((List (UInt64 × UInt64)) × Int) :=
  if (((decide ((a0.length : Int) > 256)) || (decide (a1 < 0))) || (decide (a1 ≥ (a0.length : Int)))) = true then
    some (([] : List (UInt64 × UInt64)), 80)
  else
  obind (m_ref08_way a0 a1) fun x1 =>
  some (x1, 0)
theorem w_ref08_Prove {a0 : List (UInt64 × UInt64)} {a1 : Int} {r : (List (UInt64 × UInt64)) × Int} (hm : m_ref08_Prove a0 a1 = some r) : Sp prog 41 [sl e_a2_eU a0, .d (.i a1)] [] 0 (is (.tup [.ow 0, .d (.i r.2)]) [.row 0 2 _ e_a2_eU r.1] 1) :=
  sp call41 func41 rfl ntmps41 rfl fun D0 As η0 m0 hd => by
    unfold m_ref08_Prove at hm
    refine gi hm (by kernel_rfl) (fun hc1 hm => ?_) fun hc1 hm => ?_
    · skip
      refine gnil e_a2_eU 4 2 (by kernel_rfl) ?_
      have e0 := Option.some.inj hm
      subst e0
      exact gend hd (by kernel_rfl)
    obtain ⟨x1, q1, hm⟩ := obind_some hm
    refine gco (s_ref08_way q1) (by kernel_rfl) ?_
    have e0 := Option.some.inj hm
    subst e0
    exact gend hd (by kernel_rfl)
def m_ref24_Prove (a0 : g_api_Log) (a1 : Int) (a2 : Int) (a3 : Int) : Option (g_api_Place × Int) :=
  obind (m_ref24_some a0 a1 a3) fun x1 =>
  if (x1.2 != 0) = true then
    some ((⟨0, 0, 0, []⟩ : g_api_Place), x1.2)
  else
  obind (m_ref08_Prove x1.1 a2) fun x2 =>
  if (x2.2 != 0) = true then
    some ((⟨0, 0, 0, []⟩ : g_api_Place), x2.2)
  else
  some ((⟨a0.Id, a2, a3, x2.1⟩ : g_api_Place), 0)
theorem w_ref24_Prove {a0 : g_api_Log} {a1 : Int} {a2 : Int} {a3 : Int} {r : g_api_Place × Int} (hm : m_ref24_Prove a0 a1 a2 a3 = some r) : Sf prog 11 [ag (e_api_Log a0), .d (.i a1), .d (.i a2), .d (.i a3)] (.tup [ag (e_api_Place r.1), .d (.i r.2)]) :=
  sp call11 func11 rfl ntmps11 rfl fun D0 As η0 m0 hd => by
    unfold m_ref24_Prove at hm
    obtain ⟨x1, q1, hm⟩ := obind_some hm
    refine gco (s_ref24_some q1) (by kernel_rfl) ?_
    refine gi hm (by kernel_rfl) (fun hc1 hm => ?_) fun hc1 hm => ?_
    · skip
      have e0 := Option.some.inj hm
      subst e0
      exact gend hd (by kernel_rfl)
    obtain ⟨x2, q2, hm⟩ := obind_some hm
    refine gco (w_ref08_Prove q2) (by kernel_rfl) ?_
    refine gi hm (by kernel_rfl) (fun hc2 hm => ?_) fun hc2 hm => ?_
    · skip
      have e0 := Option.some.inj hm
      subst e0
      exact gend hd (by kernel_rfl)
    have e0 := Option.some.inj hm
    subst e0
    exact gend hd (by kernel_rfl)
def m_slices_Reverse_api_Sum_api_Sum_b1  (s1 : Int × Int × (List (UInt64 × UInt64))) : Option ((Int × Int × (List (UInt64 × UInt64))) ⊕ ((List (UInt64 × UInt64)))) :=
  if (decide (s1.1 < s1.2.1)) = true then
    obind (idx s1.2.2 s1.2.1) fun x4 =>
    obind (idx s1.2.2 s1.1) fun x5 =>
    obind (idx s1.2.2 s1.1) fun x6 =>
    bnd (s1.2.2.set s1.1.toNat x4) fun x7 =>
    obind (idx x7 s1.2.1) fun x8 =>
    bnd (x7.set s1.2.1.toNat x5) fun x9 =>
    some (.inl ((w64 (s1.1 + 1)), (w64 (s1.2.1 - 1)), x9))
  else
  some (.inr s1.2.2)
def m_slices_Reverse_api_Sum_api_Sum (a0 : List (UInt64 × UInt64)) : Option (List (UInt64 × UInt64)) :=
  bnd ((w64 ((a0.length : Int) - 1))) fun x1 =>
  obind (iter m_slices_Reverse_api_Sum_api_Sum_b1 FUEL (0, x1, a0)) fun x2 =>
  some x2
theorem w_slices_Reverse_api_Sum_api_Sum {m : Mem} {As : List Ow} {w : World} {a0 : List (UInt64 × UInt64)} {a0v0 : Value} {a0c0 : List Value} {r : List (UInt64 × UInt64)} (S : St m ((row 2 a0v0 a0c0 a0.length) :: As) w) (a0h0 : RepL m a0c0 a0) (hm : m_slices_Reverse_api_Sum_api_Sum a0 = some r) :
    CallsR Tryz.prog 90 #[a0v0] w fun v w' => ∃ (M : Mem), m ≤ M ∧ ∃ (rk0 : List Value), St M ((row 2 a0v0 rk0 r.length) :: As) w' ∧ v = .tuple #[] ∧ RepL M rk0 r := by
 unfold m_slices_Reverse_api_Sum_api_Sum at hm
 have L0 := Mem.rfl' m
 refine callsR (args := [a0v0]) func90 rfl ntmps90 (nb rfl) <| ws <| s_mvv (v := a0v0) rfl <| s_lenO (i := 0) S rfl rfl underlying29 <| s_subI (m := (a0.length : Int)) (n := 1) rfl rfl <| s_asv (v := vI 0) rfl ?_
 obtain ⟨x1, q1, hm⟩ := bnd_eq hm
 refine s_asv (v := vI x1) (congrArg (fun z => vI z) q1.symm) <| wpl_nil <| nrm ?_
 obtain ⟨x2, q2, hm⟩ := obind_some hm
 have L1 := Mem.rfl' m
 refine wpc_wrap <| wpc_join [2, 3, 7, 8, 9, 10, 11, 12, 13, 14, 15, 16, 17, 18, 19, 20, 21, 22, 23, 24, 25, 26, 27] (fun f' w' => ∃ (M1 : Mem) (c2 : List Value), m ≤ M1 ∧ St M1 ((row 2 a0v0 c2 x2.length) :: As) w' ∧ RepL M1 c2 x2 ∧ AllAt f' []) ?_ ?_
 · refine wpc_block <| wpc_rounds [2, 3, 7, 8, 9, 10, 11, 12, 13, 14, 15, 16, 17, 18, 19, 20, 21, 22, 23, 24, 25, 26, 27] (fun n1 f' w' => ∃ (s1 : Int × Int × (List (UInt64 × UInt64))) (m17 : Mem) (c1 : List Value), iter m_slices_Reverse_api_Sum_api_Sum_b1 n1 s1 = some x2 ∧ m ≤ m17 ∧ St m17 ((row 2 a0v0 c1 s1.2.2.length) :: As) w' ∧ RepL m17 c1 s1.2.2 ∧ AllAt f' [(2, vI s1.1), (3, vI s1.2.1)]) FUEL ⟨(0, x1, a0), m, _, q2, L1, S, a0h0, ⟨rfl, rfl, trivial⟩⟩ ?_
   rintro n1 f1 w1 ho ⟨s1, m1, c1, q3, L3, S1, h1, ha⟩
   obtain ⟨u1, rfl⟩ := fr_of (N := 28) ho ha
   clear ho ha
   have L2 := Mem.rfl' m1
   clear S
   cases n1 with
   | zero => exact (iter_zero q3).elim
   | succ n1 =>
    obtain ⟨y1, q5, q4⟩ := iter_succ q3
    unfold m_slices_Reverse_api_Sum_api_Sum_b1 at q5
    refine wpc_seq <| ws <| s_mvv (v := vI s1.1) rfl <| s_mvv (v := vI s1.2.1) rfl <| s_lss (m := s1.1) (n := s1.2.1) rfl rfl <| wpl_nil <| nrm <| wpc_if (t := (decide (s1.1 < s1.2.1))) rfl (fun hc1 => ?_) (fun hc1 => ?_)
    · replace q5 := ifT hc1 q5
      refine wpc_skip <| nrm <| wpc_seq <| wpc_block ?_
      obtain ⟨x4, q7, q5⟩ := obind_some q5
      obtain ⟨x5, q8, q5⟩ := obind_some q5
      obtain ⟨x6, q9, q5⟩ := obind_some q5
      obtain ⟨x7, q10, q5⟩ := bnd_eq q5
      have HM : MonoAll [(14, fv a0v0), (15, fv (vI s1.1)), (16, fv a0v0), (17, fv (vI s1.2.1)), (18, fv a0v0), (19, fv (vI s1.2.1)), (20, fun (M : Mem) (v : Value) => ∃ (p1 : Value), v = p1 ∧ PtO a0v0 p1 (s1.2.1.toNat * 2)), (21, fv (.agg #[vU x4.1, vU x4.2])), (22, fv a0v0), (23, fv (vI s1.1)), (24, fun (M : Mem) (v : Value) => ∃ (p2 : Value), v = p2 ∧ PtO a0v0 p2 (s1.1.toNat * 2)), (25, fv (.agg #[vU x5.1, vU x5.2])), (26, fun (M : Mem) (v : Value) => ∃ (p3 : Value), v = p3 ∧ PtO a0v0 p3 (s1.1.toNat * 2)), (100013, fun _ _ => True)] := ⟨mv, mv, mv, mv, mv, mv, (fun _ _ _ l ⟨p1, e, h4⟩ => ⟨p1, e, h4⟩), mv, mv, mv, (fun _ _ _ l ⟨p2, e, h8⟩ => ⟨p2, e, h8⟩), mv, (fun _ _ _ l ⟨p3, e, h12⟩ => ⟨p3, e, h12⟩), (fun _ _ _ _ h => h), trivial⟩
      refine wpc_flowG HM 14 mixed rfl rfl rfl (rg 14 13) (fun L f M w => ∃ (X1 : List Ow), ((L 13 = false → (RowS M X1 2 a0v0 s1.2.2)) ∧ (L 13 = true → (RowS M X1 2 a0v0 x7))) ∧ St M ((X1 ++ As)) w) (⟨[row 2 a0v0 c1 s1.2.2.length], ⟨fun _ => ⟨_, rfl, h1⟩, fun hx => ff hx⟩, St.drew S1 _⟩) ?_ ?_
      · refine ⟨?_, ?_, ?_, ?_, ?_, ?_, ?_, ?_, ?_, ?_, ?_, ?_, ?_, ?_, trivial⟩
        · exact flp HM rfl [] (fun _ _ => trivial) (fun _ _ q => s_mvv (v := a0v0) rfl q) rfl
        · exact flp HM rfl [] (fun _ _ => trivial) (fun _ _ q => s_mvv (v := vI s1.1) rfl q) rfl
        · exact flp HM rfl [] (fun _ _ => trivial) (fun _ _ q => s_mvv (v := a0v0) rfl q) rfl
        · exact flp HM rfl [] (fun _ _ => trivial) (fun _ _ q => s_mvv (v := vI s1.2.1) rfl q) rfl
        · exact flp HM rfl [] (fun _ _ => trivial) (fun _ _ q => s_mvv (v := a0v0) rfl q) rfl
        · exact flp HM rfl [] (fun _ _ => trivial) (fun _ _ q => s_mvv (v := vI s1.2.1) rfl q) rfl
        · intro L f8 w8 hL hd hc ⟨m8, L16, ⟨X1, C7, S8⟩, K, hO⟩
          have d13 : L 13 = false := undep hc hL rfl
          obtain ⟨u8, rfl⟩ := fr_of (N := 28) (L := [(18, _), (19, _)]) hO ⟨K 4 (dep hd rfl), K 5 (dep hd rfl), trivial⟩
          obtain ⟨c3, rfl, h3⟩ := C7.1 d13
          replace h3 : RepL _ c3 s1.2.2 := h3
          replace S8 : St _ ((row 2 a0v0 c3 s1.2.2.length) :: As) _ := S8
          have L17 := Mem.rfl' m8
          exact s_idxO (i := 0) (j := s1.2.1) S8 rfl rfl rfl (idx_rng q7).1 (idx_rng q7).2 underlying29 sizeOf34 fun p1 h4 => wpn <| ⟨m8, Mem.tr L16 L17, ⟨[row 2 a0v0 c3 s1.2.2.length], ⟨fun _ => ⟨_, rfl, h3⟩, fun hx => tf hx d13⟩, S8⟩, facts_step HM rfl K L17 rfl rfl ⟨p1, rfl, h4⟩, outP⟩
        · intro L f9 w9 hL hd hc ⟨m9, L18, ⟨X1, C8, S9⟩, K, hO⟩
          obtain ⟨v1, e3, h5⟩ := K 6 (dep hd rfl)
          have d13 : L 13 = false := undep hc hL rfl
          obtain ⟨u9, rfl⟩ := fr_of (N := 28) (L := [(20, _)]) hO ⟨e3, trivial⟩
          obtain ⟨c4, rfl, h6⟩ := C8.1 d13
          replace h6 : RepL _ c4 s1.2.2 := h6
          replace S9 : St _ ((row 2 a0v0 c4 s1.2.2.length) :: As) _ := S9
          have L19 := Mem.rfl' m9
          have e4 := rep_arr2_UInt64 (RepL.getI h6 q7)
          exact s_ldO (i := 0) (off := s1.2.1.toNat * 2) (d := [vU x4.1, vU x4.2]) S9 rfl h5 rfl e4 isAgg34 sizeOf34 (fun h => by cases h) <| wpn <| ⟨m9, Mem.tr L18 L19, ⟨[row 2 a0v0 c4 s1.2.2.length], ⟨fun _ => ⟨_, rfl, h6⟩, fun hx => tf hx d13⟩, S9⟩, facts_step HM rfl K L19 rfl rfl rfl, outP⟩
        · exact flp HM rfl [] (fun _ _ => trivial) (fun _ _ q => s_mvv (v := a0v0) rfl q) rfl
        · exact flp HM rfl [] (fun _ _ => trivial) (fun _ _ q => s_mvv (v := vI s1.1) rfl q) rfl
        · intro L f12 w12 hL hd hc ⟨m12, L24, ⟨X1, C11, S12⟩, K, hO⟩
          have d11 : L 11 = false := undep hc hL rfl
          have d13 : L 13 = false := undep hc d11 rfl
          obtain ⟨u12, rfl⟩ := fr_of (N := 28) (L := [(22, _), (23, _)]) hO ⟨K 8 (dep hd rfl), K 9 (dep hd rfl), trivial⟩
          obtain ⟨c5, rfl, h7⟩ := C11.1 d13
          replace h7 : RepL _ c5 s1.2.2 := h7
          replace S12 : St _ ((row 2 a0v0 c5 s1.2.2.length) :: As) _ := S12
          have L25 := Mem.rfl' m12
          exact s_idxO (i := 0) (j := s1.1) S12 rfl rfl rfl (idx_rng q8).1 (idx_rng q8).2 underlying29 sizeOf34 fun p2 h8 => wpn <| ⟨m12, Mem.tr L24 L25, ⟨[row 2 a0v0 c5 s1.2.2.length], ⟨fun _ => ⟨_, rfl, h7⟩, fun hx => tf hx d13⟩, S12⟩, facts_step HM rfl K L25 rfl rfl ⟨p2, rfl, h8⟩, outP⟩
        · intro L f13 w13 hL hd hc ⟨m13, L26, ⟨X1, C12, S13⟩, K, hO⟩
          obtain ⟨v2, e7, h9⟩ := K 10 (dep hd rfl)
          have d13 : L 13 = false := undep hc hL rfl
          obtain ⟨u13, rfl⟩ := fr_of (N := 28) (L := [(24, _)]) hO ⟨e7, trivial⟩
          obtain ⟨c6, rfl, h10⟩ := C12.1 d13
          replace h10 : RepL _ c6 s1.2.2 := h10
          replace S13 : St _ ((row 2 a0v0 c6 s1.2.2.length) :: As) _ := S13
          have L27 := Mem.rfl' m13
          have e8 := rep_arr2_UInt64 (RepL.getI h10 q8)
          exact s_ldO (i := 0) (off := s1.1.toNat * 2) (d := [vU x5.1, vU x5.2]) S13 rfl h9 rfl e8 isAgg34 sizeOf34 (fun h => by cases h) <| wpn <| ⟨m13, Mem.tr L26 L27, ⟨[row 2 a0v0 c6 s1.2.2.length], ⟨fun _ => ⟨_, rfl, h10⟩, fun hx => tf hx d13⟩, S13⟩, facts_step HM rfl K L27 rfl rfl rfl, outP⟩
        · intro L f14 w14 hL hd hc ⟨m14, L28, ⟨X1, C13, S14⟩, K, hO⟩
          have d13 : L 13 = false := undep hc hL rfl
          obtain ⟨u14, rfl⟩ := fr_of (N := 28) (L := [(14, _), (15, _)]) hO ⟨K 0 (dep hd rfl), K 1 (dep hd rfl), trivial⟩
          obtain ⟨c7, rfl, h11⟩ := C13.1 d13
          replace h11 : RepL _ c7 s1.2.2 := h11
          replace S14 : St _ ((row 2 a0v0 c7 s1.2.2.length) :: As) _ := S14
          have L29 := Mem.rfl' m14
          exact s_idxO (i := 0) (j := s1.1) S14 rfl rfl rfl (idx_rng q9).1 (idx_rng q9).2 underlying29 sizeOf34 fun p3 h12 => wpn <| ⟨m14, Mem.tr L28 L29, ⟨[row 2 a0v0 c7 s1.2.2.length], ⟨fun _ => ⟨_, rfl, h11⟩, fun hx => tf hx d13⟩, S14⟩, facts_step HM rfl K L29 rfl rfl ⟨p3, rfl, h12⟩, outP⟩
        · intro L f15 w15 hL hd hc ⟨m15, L30, ⟨X1, C14, S15⟩, K, hO⟩
          obtain ⟨v3, e11, h13⟩ := K 12 (dep hd rfl)
          have d13 : L 13 = false := hL
          obtain ⟨u15, rfl⟩ := fr_of (N := 28) (L := [(26, _), (21, _)]) hO ⟨e11, K 7 (dep hd rfl), trivial⟩
          obtain ⟨c8, rfl, h14⟩ := C14.1 d13
          replace h14 : RepL _ c8 s1.2.2 := h14
          replace S15 : St _ ((row 2 a0v0 c8 s1.2.2.length) :: As) _ := S15
          have L31 := Mem.rfl' m15
          refine s_stOR (i := 0) (j := s1.1) (z := x4) S15 rfl rfl h13 rfl h14 q9 sizeOf34 (oneC rfl (oneC rfl oneN)) mk_arr2_UInt64 fun w16 c9 S16 h15 => ?_
          rw [← q10] at S16 h15
          replace S16 : St _ ((row 2 a0v0 c9 x7.length) :: As) _ := S16
          clear S15
          exact wpn <| ⟨m15, Mem.tr L30 L31, ⟨[row 2 a0v0 c9 x7.length], ⟨fun hx => tf rfl hx, fun _ => ⟨_, rfl, h15⟩⟩, S16⟩, facts_none HM K L31 rfl (fun _ => trivial), outP⟩
      intro L f16 w17 hall ⟨m16, L32, ⟨X1, C15, S17⟩, K, hO⟩
      have d2 : L 2 = true := hall 2 (by decide)
      have d3 : L 3 = true := hall 3 (by decide)
      have d11 : L 11 = true := hall 11 (by decide)
      have d13 : L 13 = true := hall 13 (by decide)
      obtain ⟨u16, rfl⟩ := fr_of (N := 28) (L := [(16, _), (17, _), (25, _)]) hO ⟨K 2 d2, K 3 d3, K 11 d11, trivial⟩
      replace S17 : St _ ((X1 ++ As)) _ := S17
      obtain ⟨c10, rfl, h16⟩ := C15.2 d13
      replace h16 : RepL _ c10 x7 := h16
      replace S17 : St _ ((row 2 a0v0 c10 x7.length) :: As) _ := S17
      clear S1
      obtain ⟨x8, q11, q5⟩ := obind_some q5
      refine s_idxO (i := 0) (j := s1.2.1) S17 rfl rfl rfl (idx_rng q11).1 (idx_rng q11).2 underlying29 sizeOf34 fun p4 h17 => ?_
      obtain ⟨x9, q12, q5⟩ := bnd_eq q5
      refine s_stOR (i := 0) (j := s1.2.1) (z := x5) S17 rfl rfl h17 rfl h16 q11 sizeOf34 (oneC rfl (oneC rfl oneN)) mk_arr2_UInt64 fun w18 c11 S18 h18 => ?_
      rw [← q12] at S18 h18
      replace S18 : St _ ((row 2 a0v0 c11 x9.length) :: As) _ := S18
      clear S17
      refine wpl_nil <| nrmB <| nrm <| wpc_region <| s_mvv (v := vI s1.1) rfl <| s_addI (m := s1.1) (n := 1) rfl rfl <| s_mvv (v := vI s1.2.1) rfl <| s_subI (m := s1.2.1) (n := 1) rfl rfl <| s_asv (v := vI (w64 (s1.1 + 1))) rfl <| s_asv (v := vI (w64 (s1.2.1 - 1))) rfl <| wpl_nil <| nrm ?_
      have e0 := Option.some.inj q5
      subst e0
      rcases q4 with ⟨sn, e, q4'⟩ | e
      · cases e
        replace L2 := Mem.tr L2 L32
        exact ⟨outP, _, Nat.lt_succ_self _, ⟨_, m16, _, q4', Mem.tr L3 L2, S18, h18, ⟨rfl, rfl, trivial⟩⟩⟩
      · cases e
    replace q5 := ifF hc1 q5
    refine wpc_exit <| thE <| thE <| exB <| nrm ?_
    have e0 := Option.some.inj q5
    subst e0
    rcases q4 with ⟨sn, e, _⟩ | e
    · cases e
    · cases e
      exact ⟨outP, m1, _, Mem.tr L3 L2, S1, h1, trivial⟩
 rintro f17 w19 ho ⟨m18, c2, l1, S19, h2, ha⟩
 obtain ⟨u17, rfl⟩ := fr_of (N := 28) ho ha
 clear ho ha S
 refine outNw fun we hpd => ?_
 replace S19 := St.pd S19 hpd
 have e0 := Option.some.inj hm
 subst e0
 replace L0 := Mem.tr L0 l1
 exact outR [] rfl trivial ⟨_, L0, _, S19, rfl, h2⟩
def m_merkle_Grow_b1  (s1 : (List (UInt64 × UInt64)) × Int × (List (UInt64 × UInt64)) × Bool) : Option (((List (UInt64 × UInt64)) × Int × (List (UInt64 × UInt64)) × Bool) ⊕ ((Unit) ⊕ ((List (UInt64 × UInt64)) × Int))) :=
  if (s1.2.1 == (s1.1.length : Int)) = true then
    obind (
      if (!s1.2.2.2) = true then
        obind (m_merkle_Root s1.1) fun x4 =>
        obind (app 16 s1.2.2.1 ([x4] : List (UInt64 × UInt64))) fun x5 =>
        some x5
      else
      some s1.2.2.1
    ) fun x3 =>
    obind (m_slices_Reverse_api_Sum_api_Sum x3) fun x6 =>
    some (.inr (.inr (x6, 0)))
  else
  obind (m_merkle_half (s1.1.length : Int)) fun x7 =>
  if (decide (s1.2.1 ≤ x7)) = true then
    obind (cut s1.1 x7 (s1.1.length : Int)) fun x8 =>
    obind (m_merkle_Root x8) fun x9 =>
    obind (app 16 s1.2.2.1 ([x9] : List (UInt64 × UInt64))) fun x10 =>
    obind (cut s1.1 0 x7) fun x11 =>
    some (.inl (x11, s1.2.1, x10, s1.2.2.2))
  else
  obind (cut s1.1 0 x7) fun x12 =>
  obind (m_merkle_Root x12) fun x13 =>
  obind (app 16 s1.2.2.1 ([x13] : List (UInt64 × UInt64))) fun x14 =>
  obind (cut s1.1 x7 (s1.1.length : Int)) fun x15 =>
  some (.inl (x15, (w64 (s1.2.1 - x7)), x14, false))
def m_merkle_Grow (a0 : List (UInt64 × UInt64)) (a1 : Int) : Option ((List (UInt64 × UInt64)) × Int) :=
  if (((decide ((a0.length : Int) > 256)) || (decide (a1 < 0))) || (decide (a1 > (a0.length : Int)))) = true then
    some (([] : List (UInt64 × UInt64)), 80)
  else
  if (a1 == 0) = true then
    some (([] : List (UInt64 × UInt64)), 0)
  else
  obind (iter m_merkle_Grow_b1 FUEL (a0, a1, ([] : List (UInt64 × UInt64)), true)) fun x1 => match x1 with
  | .inr r => some r
  | .inl _ => none
theorem w_merkle_Grow {m : Mem} {As : List Ow} {w : World} {a0 : List (UInt64 × UInt64)} {a0v0 : Value} {a1 : Int} {r : (List (UInt64 × UInt64)) × Int} (S : St m (As) w) (a0h0 : SlR m a0v0 a0) (hm : m_merkle_Grow a0 a1 = some r) :
    CallsR Tryz.prog 42 #[a0v0, vI a1] w fun v w' => ∃ (M : Mem), m ≤ M ∧ ∃ (rv0 : Value) (rc0 : List Value), St M ((row 2 rv0 rc0 r.1.length) :: As) w' ∧ v = .tuple #[rv0, vI r.2] ∧ RepL M rc0 r.1 := by
 unfold m_merkle_Grow at hm
 have L0 := Mem.rfl' m
 refine callsR (args := [a0v0, vI a1]) func42 rfl ntmps42 (nb rfl) <| ws <| s_asv (v := .slice none 0 0) rfl <| s_asv (v := vI 0) rfl <| wpl_nil <| nrm <| wpc_seq <| ws <| s_mvv (v := a0v0) rfl <| s_lenR (xs := a0) rfl a0h0 underlying29 <| s_gtr (m := (a0.length : Int)) (n := 256) rfl rfl <| s_mvv (v := vb (decide ((a0.length : Int) > 256))) rfl <| wpl_cut 3 [13, 14, 15] (fun f' w' => w' = w ∧ AllAt f' [(15, vb ((decide ((a0.length : Int) > 256)) || (decide (a1 < 0))))]) ?_ ?_
 · rcases bool_tf (decide ((a0.length : Int) > 256)) with hb1 | hb1
   · exact wpl_no (d := 12) rfl rfl (cb hb1) <| wpl_no (d := 12) rfl rfl (cb hb1) <| s_pickT (cb hb1) rfl <| wpl_nil (nrm ⟨outP, rfl, congrArg Value.bool (or_t hb1), trivial⟩)
   · exact wpl_yes (d := 12) rfl rfl (cb hb1) <| s_mvv (v := vI a1) rfl <| wpl_yes (d := 12) rfl rfl (cb hb1) <| s_lss (m := a1) (n := 0) rfl rfl <| s_pickF (cb hb1) rfl <| wpl_nil (nrm ⟨outP, rfl, congrArg Value.bool (or_f hb1), trivial⟩)
 rintro f1 w1 ho ⟨h1, ha⟩
 subst h1
 obtain ⟨u1, rfl⟩ := fr_of (N := 67) ho ha
 refine s_mvv (v := vb ((decide ((a0.length : Int) > 256)) || (decide (a1 < 0)))) rfl <| wpl_cut 5 [17, 18, 19, 20, 21] (fun f' w' => w' = w1 ∧ AllAt f' [(21, vb (((decide ((a0.length : Int) > 256)) || (decide (a1 < 0))) || (decide (a1 > (a0.length : Int)))))]) ?_ ?_
 · rcases bool_tf ((decide ((a0.length : Int) > 256)) || (decide (a1 < 0))) with hb2 | hb2
   · exact wpl_no (d := 16) rfl rfl (cb hb2) <| wpl_no (d := 16) rfl rfl (cb hb2) <| wpl_no (d := 16) rfl rfl (cb hb2) <| wpl_no (d := 16) rfl rfl (cb hb2) <| s_pickT (cb hb2) rfl <| wpl_nil (nrm ⟨outP, rfl, congrArg Value.bool (or_t hb2), trivial⟩)
   · exact wpl_yes (d := 16) rfl rfl (cb hb2) <| s_mvv (v := vI a1) rfl <| wpl_yes (d := 16) rfl rfl (cb hb2) <| s_mvv (v := a0v0) rfl <| wpl_yes (d := 16) rfl rfl (cb hb2) <| s_lenR (xs := a0) rfl a0h0 underlying29 <| wpl_yes (d := 16) rfl rfl (cb hb2) <| s_gtr (m := a1) (n := (a0.length : Int)) rfl rfl <| s_pickF (cb hb2) rfl <| wpl_nil (nrm ⟨outP, rfl, congrArg Value.bool (or_f hb2), trivial⟩)
 rintro f2 w2 ho ⟨h2, ha⟩
 subst h2
 obtain ⟨u2, rfl⟩ := fr_of (N := 67) ho ha
 refine wpl_nil <| nrm <| wpc_if (t := (((decide ((a0.length : Int) > 256)) || (decide (a1 < 0))) || (decide (a1 > (a0.length : Int))))) rfl (fun hc1 => ?_) (fun hc1 => ?_)
 · replace hm := ifT hc1 hm
   refine ws <| s_asv (v := .slice none 0 0) rfl <| s_asv (v := vI 80) rfl <| wpl_nil <| nrm <| wpc_ret <| thR <| outRw fun we hpd => ?_
   replace S := St.pd S hpd
   have S1 := St.rowNil S 2
   have h3 : RepL m [] ([] : List (UInt64 × UInt64)) := RepL.nil
   replace S1 : St _ ((row 2 (.slice none 0 0) [] ([] : List (UInt64 × UInt64)).length) :: As) _ := S1
   clear S
   have e0 := Option.some.inj hm
   subst e0
   exact outR [_, _] rfl ⟨rfl, rfl, trivial⟩ ⟨_, L0, _, _, S1, rfl, h3⟩
 replace hm := ifF hc1 hm
 refine wpc_skip <| nrm <| wpc_seq <| ws <| s_mvv (v := vI a1) rfl <| s_eql (m := a1) (n := 0) rfl rfl <| wpl_nil <| nrm <| wpc_if (t := (a1 == 0)) rfl (fun hc2 => ?_) (fun hc2 => ?_)
 · replace hm := ifT hc2 hm
   refine ws <| s_asv (v := .slice none 0 0) rfl <| s_asv (v := vI 0) rfl <| wpl_nil <| nrm <| wpc_ret <| thR <| outRw fun we hpd => ?_
   replace S := St.pd S hpd
   have S2 := St.rowNil S 2
   have h4 : RepL m [] ([] : List (UInt64 × UInt64)) := RepL.nil
   replace S2 : St _ ((row 2 (.slice none 0 0) [] ([] : List (UInt64 × UInt64)).length) :: As) _ := S2
   clear S
   have e0 := Option.some.inj hm
   subst e0
   exact outR [_, _] rfl ⟨rfl, rfl, trivial⟩ ⟨_, L0, _, _, S2, rfl, h4⟩
 replace hm := ifF hc2 hm
 refine wpc_skip <| nrm <| ws <| s_asv (v := .slice none 0 0) rfl <| nx <| s_asv (v := vb true) rfl <| wpl_nil <| nrm ?_
 obtain ⟨x1, q1, hm⟩ := obind_some hm
 have L1 := Mem.rfl' m
 have S3 := St.rowNil S 2
 have h7 : RepL m [] ([] : List (UInt64 × UInt64)) := RepL.nil
 replace S3 : St _ ((row 2 (.slice none 0 0) [] ([] : List (UInt64 × UInt64)).length) :: As) _ := S3
 clear S
 refine wpc_wrap <| wpc_join [0, 1, 4, 5, 6, 7, 8, 24, 25, 26, 27, 28, 29, 30, 31, 32, 33, 34, 35, 36, 37, 38, 39, 40, 41, 42, 43, 44, 45, 46, 47, 48, 49, 50, 51, 52, 53, 54, 55, 56, 57, 58, 59, 60, 61, 62, 63, 64, 65, 66] (fun _ _ => False) ?_ ?_
 · refine wpc_block <| wpc_rounds [0, 1, 4, 5, 6, 7, 8, 24, 25, 26, 27, 28, 29, 30, 31, 32, 33, 34, 35, 36, 37, 38, 39, 40, 41, 42, 43, 44, 45, 46, 47, 48, 49, 50, 51, 52, 53, 54, 55, 56, 57, 58, 59, 60, 61, 62, 63, 64, 65, 66] (fun n1 f' w' => ∃ (s1 : (List (UInt64 × UInt64)) × Int × (List (UInt64 × UInt64)) × Bool) (m11 : Mem) (v1 : Value) (v2 : Value) (c1 : List Value), iter m_merkle_Grow_b1 n1 s1 = some x1 ∧ m ≤ m11 ∧ St m11 ((row 2 v2 c1 s1.2.2.1.length) :: As) w' ∧ SlR m11 v1 s1.1 ∧ RepL m11 c1 s1.2.2.1 ∧ AllAt f' [(0, v1), (1, vI s1.2.1), (6, v2), (7, vb s1.2.2.2)]) FUEL ⟨(a0, a1, ([] : List (UInt64 × UInt64)), true), m, _, _, _, q1, L1, S3, a0h0, h7, ⟨rfl, rfl, rfl, rfl, trivial⟩⟩ ?_
   rintro n1 f3 w3 ho ⟨s1, m1, v1, v2, c1, q2, L3, S4, h5, h6, ha⟩
   obtain ⟨u3, rfl⟩ := fr_of (N := 67) ho ha
   clear ho ha
   have L2 := Mem.rfl' m1
   clear S3
   cases n1 with
   | zero => exact (iter_zero q2).elim
   | succ n1 =>
    obtain ⟨y2, q4, q3⟩ := iter_succ q2
    unfold m_merkle_Grow_b1 at q4
    refine wpc_block <| wpc_seq <| ws <| s_mvv (v := vI s1.2.1) rfl <| s_mvv (v := v1) rfl <| s_lenR (xs := s1.1) rfl h5 underlying29 <| s_eql (m := s1.2.1) (n := (s1.1.length : Int)) rfl rfl <| wpl_nil <| nrm <| wpc_if (t := (s1.2.1 == (s1.1.length : Int))) rfl (fun hc3 => ?_) (fun hc3 => ?_)
    · replace q4 := ifT hc3 q4
      obtain ⟨x3, q6, q4⟩ := obind_some q4
      have L4 := Mem.rfl' m1
      refine wpc_seq <| wpc_join [6, 28, 29, 30, 31, 32, 33, 34] (fun f' w' => ∃ (M2 : Mem) (v3 : Value) (c2 : List Value), m1 ≤ M2 ∧ St M2 ((row 2 v3 c2 x3.length) :: As) w' ∧ RepL M2 c2 x3 ∧ AllAt f' [(6, v3)]) ?_ ?_
      · refine ws <| s_mvv (v := vb s1.2.2.2) rfl <| s_not rfl <| wpl_nil <| nrm <| wpc_if (t := (!s1.2.2.2)) rfl (fun hc4 => ?_) (fun hc4 => ?_)
        · replace q6 := ifT hc4 q6
          refine wpc_region <| s_mvv (v := v2) rfl <| s_mvv (v := v1) rfl ?_
          obtain ⟨x4, q7, q6⟩ := obind_some q6
          refine s_call call32 (w_merkle_Root (a0 := s1.1) S4 h5 q7) rfl ?_
          rintro _ w4 ⟨m2, l1, S5, rfl⟩
          clear S4
          refine s_litC (parts := [.tmp 32]) (vs := [.agg #[vU x4.1, vU x4.2]]) (cls := [[vU x4.1, vU x4.2]]) (xs := ([x4] : List (UInt64 × UInt64))) (n := 1) S5 underlying29 sizeOf34 zeroValue34 rfl ⟨rfl, trivial⟩ (RepL.cons (c := [vU x4.1, vU x4.2]) (x := x4) mk_arr2_UInt64 RepL.nil) rfl rfl rfl (by decide) (by decide) fun v4 m3 w5 l2 S6 h9 => ?_
          clear S5
          obtain ⟨x5, q8, q6⟩ := obind_some q6
          replace h6 := RepL.up (mt l1 l2) h6
          refine s_app (i := 0) (zs := x5) (bytes := 16) (ti := Tryz.t34) S6 rfl rfl h6 rfl rfl h9 q8 underlying29 type34 rfl rfl rfl rfl fun v5 c3 w6 S7 h10 => ?_
          replace S7 : St _ ((row 2 v5 c3 x5.length) :: As) _ := S7
          clear S6
          refine s_asv (v := v5) rfl <| wpl_nil <| nrm ?_
          have e0 := Option.some.inj q6
          subst e0
          replace L4 := Mem.tr L4 (mt l1 l2)
          exact ⟨outP, m3, _, _, L4, S7, h10, ⟨rfl, trivial⟩⟩
        replace q6 := ifF hc4 q6
        refine wpc_skip <| nrm ?_
        have e0 := Option.some.inj q6
        subst e0
        exact ⟨outP, m1, _, _, L4, S4, h6, ⟨rfl, trivial⟩⟩
      rintro f4 w7 ho ⟨m4, v3, c2, l3, S8, h8, ha⟩
      obtain ⟨u4, rfl⟩ := fr_of (N := 67) ho ha
      clear S4
      refine ws <| s_mvv (v := v3) rfl ?_
      obtain ⟨x6, q9, q4⟩ := obind_some q4
      refine s_call call90 (w_slices_Reverse_api_Sum_api_Sum (a0 := x3) S8 h8 q9) rfl ?_
      rintro _ w8 ⟨m5, l4, c4, S9, rfl, h11⟩
      clear S8
      refine nx <| s_mvv (v := v3) rfl <| s_asv (v := v3) rfl <| s_asv (v := vI 0) rfl <| wpl_nil <| nrm <| wpc_ret <| thR <| blR <| thR <| blR <| thR <| outRw fun we hpd => ?_
      replace S9 := St.pd S9 hpd
      cases q4
      rcases q3 with ⟨sn, e, _⟩ | e
      · cases e
      cases e
      dsimp only at hm
      have e0 := Option.some.inj hm
      subst e0
      replace L2 := Mem.tr L2 (mt l3 l4)
      exact outR [_, _] rfl ⟨rfl, rfl, trivial⟩ ⟨_, (Mem.tr L0 (Mem.tr L3 L2)), _, _, S9, rfl, h11⟩
    replace q4 := ifF hc3 q4
    refine wpc_skip <| nrm <| ws <| s_mvv (v := v1) rfl <| s_lenR (xs := s1.1) rfl h5 underlying29 ?_
    obtain ⟨x7, q10, q4⟩ := obind_some q4
    refine s_call call88 (v_merkle_half (a0 := (s1.1.length : Int)) S4  q10) rfl ?_
    rintro _ w9 ⟨m6, l5, S10, rfl⟩
    clear S4
    refine s_asv (v := vI x7) rfl <| wpl_nil <| nrm <| wpc_seq <| ws <| s_mvv (v := vI s1.2.1) rfl <| s_mvv (v := vI x7) rfl <| s_leq (m := s1.2.1) (n := x7) rfl rfl <| wpl_nil <| nrm <| wpc_if (t := (decide (s1.2.1 ≤ x7))) rfl (fun hc5 => ?_) (fun hc5 => ?_)
    · replace q4 := ifT hc5 q4
      refine ws <| s_mvv (v := v2) rfl <| s_mvv (v := v1) rfl <| s_mvv (v := vI x7) rfl ?_
      obtain ⟨x8, q11, q4⟩ := obind_some q4
      refine s_cut (ys := x8) (l := x7) (h := (s1.1.length : Int)) rfl (h5.up l5) underlying29 sizeOf34 (.inr ⟨_, rfl⟩) (.inl ⟨rfl, rfl⟩) (.inl rfl) q11 fun v6 h12 => ?_
      obtain ⟨x9, q12, q4⟩ := obind_some q4
      refine s_call call32 (w_merkle_Root (a0 := x8) S10 h12 q12) rfl ?_
      rintro _ w10 ⟨m7, l6, S11, rfl⟩
      clear S10
      refine s_litC (parts := [.tmp 48]) (vs := [.agg #[vU x9.1, vU x9.2]]) (cls := [[vU x9.1, vU x9.2]]) (xs := ([x9] : List (UInt64 × UInt64))) (n := 1) S11 underlying29 sizeOf34 zeroValue34 rfl ⟨rfl, trivial⟩ (RepL.cons (c := [vU x9.1, vU x9.2]) (x := x9) mk_arr2_UInt64 RepL.nil) rfl rfl rfl (by decide) (by decide) fun v7 m8 w11 l7 S12 h13 => ?_
      clear S11
      obtain ⟨x10, q13, q4⟩ := obind_some q4
      replace h6 := RepL.up (mt l5 (mt l6 l7)) h6
      refine s_app (i := 0) (zs := x10) (bytes := 16) (ti := Tryz.t34) S12 rfl rfl h6 rfl rfl h13 q13 underlying29 type34 rfl rfl rfl rfl fun v8 c5 w12 S13 h14 => ?_
      replace S13 : St _ ((row 2 v8 c5 x10.length) :: As) _ := S13
      clear S12
      refine s_asv (v := v8) rfl <| nx <| s_mvv (v := v1) rfl <| s_mvv (v := vI x7) rfl ?_
      obtain ⟨x11, q14, q4⟩ := obind_some q4
      replace h5 := h5.up (mt l5 (mt l6 l7))
      refine s_cut (ys := x11) (l := 0) (h := x7) rfl h5 underlying29 sizeOf34 (.inl ⟨rfl, rfl⟩) (.inr ⟨_, rfl⟩) (.inl rfl) q14 fun v9 h15 => s_asv (v := v9) rfl <| wpl_nil <| nrm <| wpc_exit <| thE <| exB <| nrm ?_
      have e0 := Option.some.inj q4
      subst e0
      rcases q3 with ⟨sn, e, q3'⟩ | e
      · cases e
        replace L2 := Mem.tr L2 (mt l5 (mt l6 l7))
        exact ⟨outP, _, Nat.lt_succ_self _, ⟨_, m8, _, _, _, q3', Mem.tr L3 L2, S13, h15, h14, ⟨rfl, rfl, rfl, rfl, trivial⟩⟩⟩
      · cases e
    replace q4 := ifF hc5 q4
    refine wpc_skip <| nrm <| ws <| s_mvv (v := v2) rfl <| s_mvv (v := v1) rfl <| s_mvv (v := vI x7) rfl ?_
    obtain ⟨x12, q15, q4⟩ := obind_some q4
    refine s_cut (ys := x12) (l := 0) (h := x7) rfl (h5.up l5) underlying29 sizeOf34 (.inl ⟨rfl, rfl⟩) (.inr ⟨_, rfl⟩) (.inl rfl) q15 fun v10 h16 => ?_
    obtain ⟨x13, q16, q4⟩ := obind_some q4
    refine s_call call32 (w_merkle_Root (a0 := x12) S10 h16 q16) rfl ?_
    rintro _ w13 ⟨m9, l8, S14, rfl⟩
    clear S10
    refine s_litC (parts := [.tmp 58]) (vs := [.agg #[vU x13.1, vU x13.2]]) (cls := [[vU x13.1, vU x13.2]]) (xs := ([x13] : List (UInt64 × UInt64))) (n := 1) S14 underlying29 sizeOf34 zeroValue34 rfl ⟨rfl, trivial⟩ (RepL.cons (c := [vU x13.1, vU x13.2]) (x := x13) mk_arr2_UInt64 RepL.nil) rfl rfl rfl (by decide) (by decide) fun v11 m10 w14 l9 S15 h17 => ?_
    clear S14
    obtain ⟨x14, q17, q4⟩ := obind_some q4
    replace h6 := RepL.up (mt l5 (mt l8 l9)) h6
    refine s_app (i := 0) (zs := x14) (bytes := 16) (ti := Tryz.t34) S15 rfl rfl h6 rfl rfl h17 q17 underlying29 type34 rfl rfl rfl rfl fun v12 c6 w15 S16 h18 => ?_
    replace S16 : St _ ((row 2 v12 c6 x14.length) :: As) _ := S16
    clear S15
    refine s_asv (v := v12) rfl <| wpl_nil <| nrm <| wpc_region <| s_mvv (v := v1) rfl <| s_mvv (v := vI x7) rfl ?_
    obtain ⟨x15, q18, q4⟩ := obind_some q4
    replace h5 := h5.up (mt l5 (mt l8 l9))
    refine s_cut (ys := x15) (l := x7) (h := (s1.1.length : Int)) rfl h5 underlying29 sizeOf34 (.inr ⟨_, rfl⟩) (.inl ⟨rfl, rfl⟩) (.inl rfl) q18 fun v13 h19 => s_mvv (v := vI s1.2.1) rfl <| s_mvv (v := vI x7) rfl <| s_subI (m := s1.2.1) (n := x7) rfl rfl <| s_asv (v := v13) rfl <| s_asv (v := vI (w64 (s1.2.1 - x7))) rfl <| s_asv (v := vb false) rfl <| wpl_nil <| nrmB <| nrm ?_
    have e0 := Option.some.inj q4
    subst e0
    rcases q3 with ⟨sn, e, q3'⟩ | e
    · cases e
      replace L2 := Mem.tr L2 (mt l5 (mt l8 l9))
      exact ⟨outP, _, Nat.lt_succ_self _, ⟨_, m10, _, _, _, q3', Mem.tr L3 L2, S16, h19, h18, ⟨rfl, rfl, rfl, rfl, trivial⟩⟩⟩
    · cases e
 rintro _ _ _ hF
 exact hF.elim
theorem s_merkle_Grow {a0 : List (UInt64 × UInt64)} {a1 : Int} {r : (List (UInt64 × UInt64)) × Int} (hm : m_merkle_Grow a0 a1 = some r) : Sp prog 42 [sl e_a2_eU a0, .d (.i a1)] [] 0 (is (.tup [.ow 0, .d (.i r.2)]) [.row 0 2 _ e_a2_eU r.1] 1) :=
  ⟨call42, fun η m As w vs hv0 hd S => by
    have S : St m As w := S
    obtain ⟨v0, u0, rfl, r0, hv1⟩ := RelL.cons_inv hv0
    have f0 := Br.ofS b_a2_eU r0.dd
    obtain ⟨v1, u1, rfl, r1, hv2⟩ := RelL.cons_inv hv1
    obtain rfl := r1.i_inv
    obtain rfl := RelL.nil_inv hv2
    refine CallsR.mono (w_merkle_Grow S f0 hm) ?_
    rintro v w' ⟨M, hle, y0, c0, S0, rfl, h0⟩
    exact ⟨M, (envL [y0]), _, _, _, hle, dom0 hd _, ⟨rfl, rfl, rfl⟩, envL_dom rfl, (.tup' (.cons (.ow rfl (row_one S0)) (.cons (.d (.i _)) .nil))), (St.impL S0 (sepC (Br.toR b_a2_eU rfl rfl (row_one S0) h0) fun _ h => h))⟩⟩
def m_logd_Grow (a0 : g_api_Log) (a1 : Int) (a2 : Int) (a3 : Int) : Option ((List (UInt64 × UInt64)) × Int) :=
  obind (m_logd_first a0 a1 a3) fun x1 =>
  if (x1.2 != 0) = true then
    some (([] : List (UInt64 × UInt64)), x1.2)
  else
  obind (m_merkle_Grow x1.1 a2) fun x2 =>
  some (x2.1, x2.2)
theorem w_logd_Grow {a0 : g_api_Log} {a1 : Int} {a2 : Int} {a3 : Int} {r : (List (UInt64 × UInt64)) × Int} (hm : m_logd_Grow a0 a1 a2 a3 = some r) : Sp prog 12 [ag (e_api_Log a0), .d (.i a1), .d (.i a2), .d (.i a3)] [] 0 (is (.tup [.ow 0, .d (.i r.2)]) [.row 0 2 _ e_a2_eU r.1] 1) :=
  sp call12 func12 rfl ntmps12 rfl fun D0 As η0 m0 hd => by
    unfold m_logd_Grow at hm
    obtain ⟨x1, q1, hm⟩ := obind_some hm
    refine gco (s_logd_first q1) (by kernel_rfl) ?_
    refine gi hm (by kernel_rfl) (fun hc1 hm => ?_) fun hc1 hm => ?_
    · skip
      refine gnil e_a2_eU 8 2 (by kernel_rfl) ?_
      have e0 := Option.some.inj hm
      subst e0
      exact gend hd (by kernel_rfl)
    obtain ⟨x2, q2, hm⟩ := obind_some hm
    refine gco (s_merkle_Grow q2) (by kernel_rfl) ?_
    have e0 := Option.some.inj hm
    subst e0
    exact gend hd (by kernel_rfl)
theorem d_logd_Grow {a0 : g_api_Log} {a1 : Int} {a2 : Int} {a3 : Int} {r : (List (UInt64 × UInt64)) × Int} (hm : m_logd_Grow a0 a1 a2 a3 = some r) : Sf prog 12 [ag (e_api_Log a0), .d (.i a1), .d (.i a2), .d (.i a3)] (.tup [sl e_a2_eU r.1, .d (.i r.2)]) := Sp.fz (w_logd_Grow hm) (by kernel_rfl)
def r_ref08_shows : Nat → (List (UInt64 × UInt64)) → Int → Bool → Option (List (UInt64 × UInt64))
  | 0, _, _, _ => none
  | n + 1, a0, a1, a2 =>
    if (a1 == (a0.length : Int)) = true then
      if a2 = true then
        some ([] : List (UInt64 × UInt64))
      else
      obind (m_ref08_Root a0) fun x1 =>
      some ([x1] : List (UInt64 × UInt64))
    else
    obind (m_ref08_First (a0.length : Int)) fun x2 =>
    if (decide (a1 ≤ x2)) = true then
      obind (cut a0 0 x2) fun x3 =>
      obind (r_ref08_shows n x3 a1 a2) fun x4 =>
      obind (cut a0 x2 (a0.length : Int)) fun x5 =>
      obind (m_ref08_Root x5) fun x6 =>
      obind (app 16 x4 ([x6] : List (UInt64 × UInt64))) fun x7 =>
      some x7
    else
    obind (cut a0 x2 (a0.length : Int)) fun x8 =>
    obind (r_ref08_shows n x8 (w64 (a1 - x2)) false) fun x9 =>
    obind (cut a0 0 x2) fun x10 =>
    obind (m_ref08_Root x10) fun x11 =>
    obind (app 16 x9 ([x11] : List (UInt64 × UInt64))) fun x12 =>
    some x12
def m_ref08_shows (a0 : List (UInt64 × UInt64)) (a1 : Int) (a2 : Bool) : Option (List (UInt64 × UInt64)) := r_ref08_shows FUEL a0 a1 a2
theorem wr_ref08_shows (n : Nat) : ∀ {m : Mem} {As : List Ow} {w : World} {a0 : List (UInt64 × UInt64)} {a0v0 : Value} {a1 : Int} {a2 : Bool} {r : List (UInt64 × UInt64)} (S : St m (As) w) (a0h0 : SlR m a0v0 a0) (hm : r_ref08_shows n a0 a1 a2 = some r),
    CallsR Tryz.prog 91 #[a0v0, vI a1, vb a2] w fun v w' => ∃ (M : Mem), m ≤ M ∧ ∃ (rv0 : Value) (rc0 : List Value), St M ((row 2 rv0 rc0 r.length) :: As) w' ∧ v = rv0 ∧ RepL M rc0 r := by
  induction n with
  | zero => intro m As w a0 a0v0 a1 a2 r S a0h0 hm; cases hm
  | succ n ih =>
    intro m As w a0 a0v0 a1 a2 r S a0h0 hm
    unfold r_ref08_shows at hm
    have L0 := Mem.rfl' m
    refine callsR (args := [a0v0, vI a1, vb a2]) Tryz.func91 rfl Tryz.ntmps91 (Nat.le_of_ble_eq_true rfl) ?_
    refine wpc_seq ?_
    refine wpc_region ?_
    refine s_asv (v := .slice none 0 0) rfl ?_
    refine wpl_nil ?_
    refine nrm ?_
    refine wpc_seq ?_
    refine wpc_seq ?_
    refine wpc_region ?_
    refine s_mvv (v := vI a1) rfl ?_
    refine s_mvv (v := a0v0) rfl ?_
    refine s_lenR (xs := a0) rfl a0h0 Tryz.underlying29 ?_
    refine s_eql (m := a1) (n := (a0.length : Int)) rfl rfl ?_
    refine wpl_nil ?_
    refine nrm ?_
    refine wpc_if (t := (a1 == (a0.length : Int))) rfl (fun hc1 => ?_) (fun hc1 => ?_)
    · replace hm := ifT hc1 hm
      refine wpc_seq ?_
      refine wpc_seq ?_
      refine wpc_region ?_
      refine s_mvv (v := vb a2) rfl ?_
      refine wpl_nil ?_
      refine nrm ?_
      refine wpc_if (t := a2) rfl (fun hc2 => ?_) (fun hc2 => ?_)
      · replace hm := ifT hc2 hm
        refine wpc_seq ?_
        refine wpc_region ?_
        refine s_asv (v := .slice none 0 0) rfl ?_
        refine wpl_nil ?_
        refine nrm ?_
        refine wpc_ret ?_
        refine thR ?_
        refine thR ?_
        refine outRw ?_
        intro we hpd
        replace S := St.pd S hpd
        have S1 := St.rowNil S 2
        have h1 : RepL m [] ([] : List (UInt64 × UInt64)) := RepL.nil
        replace S1 : St _ ((row 2 (.slice none 0 0) [] ([] : List (UInt64 × UInt64)).length) :: As) _ := S1
        clear S
        have e0 := Option.some.inj hm
        subst e0
        exact outR [_] rfl ⟨rfl, trivial⟩ ⟨_, L0, _, _, S1, rfl, h1⟩
      replace hm := ifF hc2 hm
      refine wpc_skip ?_
      refine nrm ?_
      refine wpc_seq ?_
      refine wpc_region ?_
      refine s_mvv (v := a0v0) rfl ?_
      obtain ⟨x1, q1, hm⟩ := obind_some hm
      refine s_call Tryz.call37 (w_ref08_Root (a0 := a0) S a0h0 q1) rfl ?_
      rintro _ w1 ⟨m1, l1, S2, rfl⟩
      replace a0h0 := a0h0.up l1
      replace L0 := Mem.tr L0 l1
      clear S
      replace S2 : St _ (As) _ := S2
      refine s_litOC (parts := [.tmp 14]) (vs := [.agg #[vU x1.1, vU x1.2]]) (cls := [[vU x1.1, vU x1.2]]) (n := 1) (sz := 2) S2 Tryz.underlying29 Tryz.sizeOf34 Tryz.zeroValue34 rfl ⟨rfl, trivial⟩ rfl rfl (by decide) (by decide) ?_
      intro v1 w2 S3
      have h2 : RepL m1 [vU x1.1, vU x1.2] ([x1] : List (UInt64 × UInt64)) := (RepL.cons (c := [vU x1.1, vU x1.2]) (x := x1) mk_arr2_UInt64 RepL.nil)
      replace S3 : St _ ((row 2 v1 [vU x1.1, vU x1.2] ([x1] : List (UInt64 × UInt64)).length) :: As) _ := S3
      clear S2
      refine s_asv (v := v1) rfl ?_
      refine wpl_nil ?_
      refine nrm ?_
      refine wpc_ret ?_
      refine thR ?_
      refine outRw ?_
      intro we hpd
      replace S3 := St.pd S3 hpd
      have e0 := Option.some.inj hm
      subst e0
      exact outR [_] rfl ⟨rfl, trivial⟩ ⟨_, L0, _, _, S3, rfl, h2⟩
    replace hm := ifF hc1 hm
    refine wpc_skip ?_
    refine nrm ?_
    refine wpc_seq ?_
    refine wpc_region ?_
    refine s_mvv (v := a0v0) rfl ?_
    refine s_lenR (xs := a0) rfl a0h0 Tryz.underlying29 ?_
    obtain ⟨x2, q2, hm⟩ := obind_some hm
    refine s_call Tryz.call77 (v_ref08_First (a0 := (a0.length : Int)) S  q2) rfl ?_
    rintro _ w3 ⟨m2, l2, S4, rfl⟩
    replace a0h0 := a0h0.up l2
    replace L0 := Mem.tr L0 l2
    clear S
    replace S4 : St _ (As) _ := S4
    refine s_asv (v := vI x2) rfl ?_
    refine wpl_nil ?_
    refine nrm ?_
    refine wpc_seq ?_
    refine wpc_seq ?_
    refine wpc_region ?_
    refine s_mvv (v := vI a1) rfl ?_
    refine s_mvv (v := vI x2) rfl ?_
    refine s_leq (m := a1) (n := x2) rfl rfl ?_
    refine wpl_nil ?_
    refine nrm ?_
    refine wpc_if (t := (decide (a1 ≤ x2))) rfl (fun hc3 => ?_) (fun hc3 => ?_)
    · replace hm := ifT hc3 hm
      refine wpc_seq ?_
      obtain ⟨x3, q3, hm⟩ := obind_some hm
      obtain ⟨x4, q4, hm⟩ := obind_some hm
      obtain ⟨x5, q5, hm⟩ := obind_some hm
      have HM : MonoAll [(22, fv a0v0), (23, fv (vI x2)), (24, fun (M : Mem) (v : Value) => ∃ (v2 : Value), v = v2 ∧ SlR M v2 x3), (25, fv (vI a1)), (26, fv (vb a2)), (27, fun _ _ => True), (28, fv a0v0), (29, fv (vI x2)), (30, fun (M : Mem) (v : Value) => ∃ (v5 : Value), v = v5 ∧ SlR M v5 x5)] := ⟨mv, mv, (fun _ _ _ l ⟨v2, e, h3⟩ => ⟨v2, e, h3.up l⟩), mv, mv, (fun _ _ _ _ h => h), mv, mv, (fun _ _ _ l ⟨v5, e, h6⟩ => ⟨v5, e, h6.up l⟩), trivial⟩
      refine wpc_flowG HM 9 mixed rfl rfl rfl [22, 23, 24, 25, 26, 27, 28, 29, 30] (fun L f M w => ∃ (X1 : List Ow), ((L 5 = false → X1 = []) ∧ (L 5 = true → (RowS M X1 2 (f 27) x4))) ∧ St M ((X1 ++ As)) w) (⟨[], ⟨fun _ => rfl, fun hx => ff hx⟩, St.drew S4 _⟩) ?_ ?_
      · refine ⟨?_, ?_, ?_, ?_, ?_, ?_, ?_, ?_, ?_, trivial⟩
        · exact flp HM rfl [] (fun _ _ => trivial) (fun _ _ q => s_mvv (v := a0v0) rfl q) rfl
        · exact flp HM rfl [] (fun _ _ => trivial) (fun _ _ q => s_mvv (v := vI x2) rfl q) rfl
        · intro L f3 w6 hL hd hc ⟨m5, L5, ⟨X1, C3, S7⟩, K, hO⟩
          have d0 : L 0 = true := dep hd rfl
          have e1 := K 0 d0
          have d1 : L 1 = true := dep hd rfl
          have e2 := K 1 d1
          obtain ⟨u3, rfl⟩ := fr_of (N := 47) (L := [(22, a0v0), (23, vI x2)]) hO ⟨e1, e2, trivial⟩
          replace S7 : St _ ((X1 ++ As)) _ := S7
          replace a0h0 := a0h0.up L5
          have L6 := Mem.rfl' m5
          refine s_cut (ys := x3) (l := 0) (h := x2) rfl a0h0 Tryz.underlying29 Tryz.sizeOf34 (.inl ⟨rfl, rfl⟩) (.inr ⟨_, rfl⟩) (.inl rfl) q3 ?_
          intro v2 h3
          refine wpn ?_
          refine ⟨m5, Mem.tr L5 L6, ⟨X1, C3, ?_⟩, facts_step HM rfl K L6 rfl rfl ⟨v2, rfl, h3⟩, outP⟩
          exact S7
        · exact flp HM rfl [] (fun _ _ => trivial) (fun _ _ q => s_mvv (v := vI a1) rfl q) rfl
        · exact flp HM rfl [] (fun _ _ => trivial) (fun _ _ q => s_mvv (v := vb a2) rfl q) rfl
        · intro L f6 w9 hL hd hc ⟨m8, L11, ⟨X1, C6, S10⟩, K, hO⟩
          have d2 : L 2 = true := dep hd rfl
          obtain ⟨v3, e3, h4⟩ := K 2 d2
          have d3 : L 3 = true := dep hd rfl
          have e4 := K 3 d3
          have d4 : L 4 = true := dep hd rfl
          have e5 := K 4 d4
          have d5 : L 5 = false := hL
          obtain ⟨u6, rfl⟩ := fr_of (N := 47) (L := [(24, v3), (25, vI a1), (26, vb a2)]) hO ⟨e3, e4, e5, trivial⟩
          replace S10 : St _ ((X1 ++ As)) _ := S10
          obtain rfl := C6.1 d5
          replace S10 : St _ (As) _ := S10
          replace a0h0 := a0h0.up L11
          have L12 := Mem.rfl' m8
          refine s_call Tryz.call91 (ih (a0 := x3) (a1 := a1) (a2 := a2) S10 h4 q4) rfl ?_
          rintro v4 w10 ⟨m9, l3, _, c1, S11, rfl, h5⟩
          replace a0h0 := a0h0.up l3
          replace h4 := h4.up l3
          replace L12 := Mem.tr L12 l3
          clear S10
          replace S11 : St _ ((row 2 v4 c1 x4.length) :: As) _ := S11
          refine wpn ?_
          refine ⟨m9, Mem.tr L11 L12, ⟨[row 2 v4 c1 x4.length], ⟨fun hx => tf rfl hx, fun _ => ⟨_, rfl, h5⟩⟩, ?_⟩, facts_step HM rfl K L12 rfl rfl trivial, outP⟩
          exact S11
        · exact flp HM rfl [] (fun _ _ => trivial) (fun _ _ q => s_mvv (v := a0v0) rfl q) rfl
        · exact flp HM rfl [] (fun _ _ => trivial) (fun _ _ q => s_mvv (v := vI x2) rfl q) rfl
        · intro L f9 w13 hL hd hc ⟨m12, L17, ⟨X1, C9, S14⟩, K, hO⟩
          have d6 : L 6 = true := dep hd rfl
          have e6 := K 6 d6
          have d7 : L 7 = true := dep hd rfl
          have e7 := K 7 d7
          obtain ⟨u9, rfl⟩ := fr_of (N := 47) (L := [(28, a0v0), (29, vI x2)]) hO ⟨e6, e7, trivial⟩
          replace S14 : St _ ((X1 ++ As)) _ := S14
          replace a0h0 := a0h0.up L17
          have L18 := Mem.rfl' m12
          refine s_cut (ys := x5) (l := x2) (h := (a0.length : Int)) rfl a0h0 Tryz.underlying29 Tryz.sizeOf34 (.inr ⟨_, rfl⟩) (.inl ⟨rfl, rfl⟩) (.inl rfl) q5 ?_
          intro v5 h6
          refine wpn ?_
          refine ⟨m12, Mem.tr L17 L18, ⟨X1, C9, ?_⟩, facts_step HM rfl K L18 rfl rfl ⟨v5, rfl, h6⟩, outP⟩
          exact S14
      intro L f10 w14 hall ⟨m13, L19, ⟨X1, C10, S15⟩, K, hO⟩
      obtain ⟨v6, e8⟩ : ∃ x, f10 27 = x := ⟨_, rfl⟩
      have d8 : L 8 = true := hall 8 (by decide)
      obtain ⟨v7, e9, h7⟩ := K 8 d8
      have d5 : L 5 = true := hall 5 (by decide)
      obtain ⟨u10, rfl⟩ := fr_of (N := 47) (L := [(27, v6), (30, v7)]) hO ⟨e8, e9, trivial⟩
      replace S15 : St _ ((X1 ++ As)) _ := S15
      obtain ⟨c2, rfl, h8⟩ := C10.2 d5
      replace h8 : RepL _ c2 x4 := h8
      replace S15 : St _ ((row 2 v6 c2 x4.length) :: As) _ := S15
      replace a0h0 := a0h0.up L19
      replace L0 := Mem.tr L0 L19
      clear S4
      obtain ⟨x6, q6, hm⟩ := obind_some hm
      refine s_call Tryz.call37 (w_ref08_Root (a0 := x5) S15 h7 q6) rfl ?_
      rintro _ w15 ⟨m14, l4, S16, rfl⟩
      replace h8 := RepL.up l4 h8
      replace h7 := h7.up l4
      replace L0 := Mem.tr L0 l4
      clear S15
      replace S16 : St _ ((row 2 v6 c2 x4.length) :: As) _ := S16
      refine s_litC (parts := [.tmp 31]) (vs := [.agg #[vU x6.1, vU x6.2]]) (cls := [[vU x6.1, vU x6.2]]) (xs := ([x6] : List (UInt64 × UInt64))) (n := 1) S16 Tryz.underlying29 Tryz.sizeOf34 Tryz.zeroValue34 rfl ⟨rfl, trivial⟩ (RepL.cons (c := [vU x6.1, vU x6.2]) (x := x6) mk_arr2_UInt64 RepL.nil) rfl rfl rfl (by decide) (by decide) ?_
      intro v8 m15 w16 l5 S17 h9
      replace h8 := RepL.up l5 h8
      replace L0 := Mem.tr L0 l5
      clear S16
      obtain ⟨x7, q7, hm⟩ := obind_some hm
      refine s_app (i := 0) (zs := x7) (bytes := 16) (ti := Tryz.t34) S17 rfl rfl h8 rfl rfl h9 q7 Tryz.underlying29 Tryz.type34 rfl rfl rfl rfl ?_
      intro v9 c3 w17 S18 h10
      replace S18 : St _ ((row 2 v9 c3 x7.length) :: As) _ := S18
      clear S17
      refine s_asv (v := v9) rfl ?_
      refine wpl_nil ?_
      refine nrm ?_
      refine wpc_ret ?_
      refine thR ?_
      refine outRw ?_
      intro we hpd
      replace S18 := St.pd S18 hpd
      have e0 := Option.some.inj hm
      subst e0
      exact outR [_] rfl ⟨rfl, trivial⟩ ⟨_, L0, _, _, S18, rfl, h10⟩
    replace hm := ifF hc3 hm
    refine wpc_skip ?_
    refine nrm ?_
    refine wpc_seq ?_
    obtain ⟨x8, q8, hm⟩ := obind_some hm
    obtain ⟨x9, q9, hm⟩ := obind_some hm
    obtain ⟨x10, q10, hm⟩ := obind_some hm
    have HM : MonoAll [(34, fv a0v0), (35, fv (vI x2)), (36, fun (M : Mem) (v : Value) => ∃ (v10 : Value), v = v10 ∧ SlR M v10 x8), (37, fv (vI a1)), (38, fv (vI x2)), (39, fv (vI (w64 (a1 - x2)))), (40, fun _ _ => True), (41, fv a0v0), (42, fv (vI x2)), (43, fun (M : Mem) (v : Value) => ∃ (v13 : Value), v = v13 ∧ SlR M v13 x10)] := ⟨mv, mv, (fun _ _ _ l ⟨v10, e, h11⟩ => ⟨v10, e, h11.up l⟩), mv, mv, mv, (fun _ _ _ _ h => h), mv, mv, (fun _ _ _ l ⟨v13, e, h14⟩ => ⟨v13, e, h14.up l⟩), trivial⟩
    refine wpc_flowG HM 10 mixed rfl rfl rfl [34, 35, 36, 37, 38, 39, 40, 41, 42, 43] (fun L f M w => ∃ (X2 : List Ow), ((L 6 = false → X2 = []) ∧ (L 6 = true → (RowS M X2 2 (f 40) x9))) ∧ St M ((X2 ++ As)) w) (⟨[], ⟨fun _ => rfl, fun hx => ff hx⟩, St.drew S4 _⟩) ?_ ?_
    · refine ⟨?_, ?_, ?_, ?_, ?_, ?_, ?_, ?_, ?_, ?_, trivial⟩
      · exact flp HM rfl [] (fun _ _ => trivial) (fun _ _ q => s_mvv (v := a0v0) rfl q) rfl
      · exact flp HM rfl [] (fun _ _ => trivial) (fun _ _ q => s_mvv (v := vI x2) rfl q) rfl
      · intro L f13 w20 hL hd hc ⟨m18, L24, ⟨X2, C13, S21⟩, K, hO⟩
        have d0 : L 0 = true := dep hd rfl
        have e10 := K 0 d0
        have d1 : L 1 = true := dep hd rfl
        have e11 := K 1 d1
        obtain ⟨u13, rfl⟩ := fr_of (N := 47) (L := [(34, a0v0), (35, vI x2)]) hO ⟨e10, e11, trivial⟩
        replace S21 : St _ ((X2 ++ As)) _ := S21
        replace a0h0 := a0h0.up L24
        have L25 := Mem.rfl' m18
        refine s_cut (ys := x8) (l := x2) (h := (a0.length : Int)) rfl a0h0 Tryz.underlying29 Tryz.sizeOf34 (.inr ⟨_, rfl⟩) (.inl ⟨rfl, rfl⟩) (.inl rfl) q8 ?_
        intro v10 h11
        refine wpn ?_
        refine ⟨m18, Mem.tr L24 L25, ⟨X2, C13, ?_⟩, facts_step HM rfl K L25 rfl rfl ⟨v10, rfl, h11⟩, outP⟩
        exact S21
      · exact flp HM rfl [] (fun _ _ => trivial) (fun _ _ q => s_mvv (v := vI a1) rfl q) rfl
      · exact flp HM rfl [] (fun _ _ => trivial) (fun _ _ q => s_mvv (v := vI x2) rfl q) rfl
      · exact flp HM rfl [(37, _), (38, _)] (fun K _ => ⟨K 3 rfl, K 4 rfl, trivial⟩) (fun _ _ q => s_subI (m := a1) (n := x2) rfl rfl q) rfl
      · intro L f17 w24 hL hd hc ⟨m22, L32, ⟨X2, C17, S25⟩, K, hO⟩
        have d2 : L 2 = true := dep hd rfl
        obtain ⟨v11, e14, h12⟩ := K 2 d2
        have d5 : L 5 = true := dep hd rfl
        have e15 := K 5 d5
        have d6 : L 6 = false := hL
        obtain ⟨u17, rfl⟩ := fr_of (N := 47) (L := [(36, v11), (39, vI (w64 (a1 - x2)))]) hO ⟨e14, e15, trivial⟩
        replace S25 : St _ ((X2 ++ As)) _ := S25
        obtain rfl := C17.1 d6
        replace S25 : St _ (As) _ := S25
        replace a0h0 := a0h0.up L32
        have L33 := Mem.rfl' m22
        refine s_call Tryz.call91 (ih (a0 := x8) (a1 := (w64 (a1 - x2))) (a2 := false) S25 h12 q9) rfl ?_
        rintro v12 w25 ⟨m23, l6, _, c4, S26, rfl, h13⟩
        replace a0h0 := a0h0.up l6
        replace h12 := h12.up l6
        replace L33 := Mem.tr L33 l6
        clear S25
        replace S26 : St _ ((row 2 v12 c4 x9.length) :: As) _ := S26
        refine wpn ?_
        refine ⟨m23, Mem.tr L32 L33, ⟨[row 2 v12 c4 x9.length], ⟨fun hx => tf rfl hx, fun _ => ⟨_, rfl, h13⟩⟩, ?_⟩, facts_step HM rfl K L33 rfl rfl trivial, outP⟩
        exact S26
      · exact flp HM rfl [] (fun _ _ => trivial) (fun _ _ q => s_mvv (v := a0v0) rfl q) rfl
      · exact flp HM rfl [] (fun _ _ => trivial) (fun _ _ q => s_mvv (v := vI x2) rfl q) rfl
      · intro L f20 w28 hL hd hc ⟨m26, L38, ⟨X2, C20, S29⟩, K, hO⟩
        have d7 : L 7 = true := dep hd rfl
        have e16 := K 7 d7
        have d8 : L 8 = true := dep hd rfl
        have e17 := K 8 d8
        obtain ⟨u20, rfl⟩ := fr_of (N := 47) (L := [(41, a0v0), (42, vI x2)]) hO ⟨e16, e17, trivial⟩
        replace S29 : St _ ((X2 ++ As)) _ := S29
        replace a0h0 := a0h0.up L38
        have L39 := Mem.rfl' m26
        refine s_cut (ys := x10) (l := 0) (h := x2) rfl a0h0 Tryz.underlying29 Tryz.sizeOf34 (.inl ⟨rfl, rfl⟩) (.inr ⟨_, rfl⟩) (.inl rfl) q10 ?_
        intro v13 h14
        refine wpn ?_
        refine ⟨m26, Mem.tr L38 L39, ⟨X2, C20, ?_⟩, facts_step HM rfl K L39 rfl rfl ⟨v13, rfl, h14⟩, outP⟩
        exact S29
    intro L f21 w29 hall ⟨m27, L40, ⟨X2, C21, S30⟩, K, hO⟩
    obtain ⟨v14, e18⟩ : ∃ x, f21 40 = x := ⟨_, rfl⟩
    have d9 : L 9 = true := hall 9 (by decide)
    obtain ⟨v15, e19, h15⟩ := K 9 d9
    have d6 : L 6 = true := hall 6 (by decide)
    obtain ⟨u21, rfl⟩ := fr_of (N := 47) (L := [(40, v14), (43, v15)]) hO ⟨e18, e19, trivial⟩
    replace S30 : St _ ((X2 ++ As)) _ := S30
    obtain ⟨c5, rfl, h16⟩ := C21.2 d6
    replace h16 : RepL _ c5 x9 := h16
    replace S30 : St _ ((row 2 v14 c5 x9.length) :: As) _ := S30
    replace a0h0 := a0h0.up L40
    replace L0 := Mem.tr L0 L40
    clear S4
    obtain ⟨x11, q11, hm⟩ := obind_some hm
    refine s_call Tryz.call37 (w_ref08_Root (a0 := x10) S30 h15 q11) rfl ?_
    rintro _ w30 ⟨m28, l7, S31, rfl⟩
    replace h16 := RepL.up l7 h16
    replace h15 := h15.up l7
    replace L0 := Mem.tr L0 l7
    clear S30
    replace S31 : St _ ((row 2 v14 c5 x9.length) :: As) _ := S31
    refine s_litC (parts := [.tmp 44]) (vs := [.agg #[vU x11.1, vU x11.2]]) (cls := [[vU x11.1, vU x11.2]]) (xs := ([x11] : List (UInt64 × UInt64))) (n := 1) S31 Tryz.underlying29 Tryz.sizeOf34 Tryz.zeroValue34 rfl ⟨rfl, trivial⟩ (RepL.cons (c := [vU x11.1, vU x11.2]) (x := x11) mk_arr2_UInt64 RepL.nil) rfl rfl rfl (by decide) (by decide) ?_
    intro v16 m29 w31 l8 S32 h17
    replace h16 := RepL.up l8 h16
    replace L0 := Mem.tr L0 l8
    clear S31
    obtain ⟨x12, q12, hm⟩ := obind_some hm
    refine s_app (i := 0) (zs := x12) (bytes := 16) (ti := Tryz.t34) S32 rfl rfl h16 rfl rfl h17 q12 Tryz.underlying29 Tryz.type34 rfl rfl rfl rfl ?_
    intro v17 c6 w32 S33 h18
    replace S33 : St _ ((row 2 v17 c6 x12.length) :: As) _ := S33
    clear S32
    refine s_asv (v := v17) rfl ?_
    refine wpl_nil ?_
    refine nrm ?_
    refine wpc_ret ?_
    refine outRw ?_
    intro we hpd
    replace S33 := St.pd S33 hpd
    have e0 := Option.some.inj hm
    subst e0
    exact outR [_] rfl ⟨rfl, trivial⟩ ⟨_, L0, _, _, S33, rfl, h18⟩
theorem w_ref08_shows {m : Mem} {As : List Ow} {w : World} {a0 : List (UInt64 × UInt64)} {a0v0 : Value} {a1 : Int} {a2 : Bool} {r : List (UInt64 × UInt64)} (S : St m (As) w) (a0h0 : SlR m a0v0 a0) (hm : m_ref08_shows a0 a1 a2 = some r) :
    CallsR Tryz.prog 91 #[a0v0, vI a1, vb a2] w fun v w' => ∃ (M : Mem), m ≤ M ∧ ∃ (rv0 : Value) (rc0 : List Value), St M ((row 2 rv0 rc0 r.length) :: As) w' ∧ v = rv0 ∧ RepL M rc0 r := wr_ref08_shows FUEL S a0h0 hm
theorem s_ref08_shows {a0 : List (UInt64 × UInt64)} {a1 : Int} {a2 : Bool} {r : List (UInt64 × UInt64)} (hm : m_ref08_shows a0 a1 a2 = some r) : Sp prog 91 [sl e_a2_eU a0, .d (.i a1), .d (.t a2)] [] 0 (is (.ow 0) [.row 0 2 _ e_a2_eU r] 1) :=
  ⟨call91, fun η m As w vs hv0 hd S => by
    have S : St m As w := S
    obtain ⟨v0, u0, rfl, r0, hv1⟩ := RelL.cons_inv hv0
    have f0 := Br.ofS b_a2_eU r0.dd
    obtain ⟨v1, u1, rfl, r1, hv2⟩ := RelL.cons_inv hv1
    obtain rfl := r1.i_inv
    obtain ⟨v2, u2, rfl, r2, hv3⟩ := RelL.cons_inv hv2
    obtain rfl := r2.t_inv
    obtain rfl := RelL.nil_inv hv3
    refine CallsR.mono (w_ref08_shows S f0 hm) ?_
    rintro v w' ⟨M, hle, y0, c0, S0, rfl, h0⟩
    exact ⟨M, (envL [v]), _, _, _, hle, dom0 hd _, ⟨rfl, rfl, rfl⟩, envL_dom rfl, (.ow rfl (row_one S0)), (St.impL S0 (sepC (Br.toR b_a2_eU rfl rfl (row_one S0) h0) fun _ h => h))⟩⟩
def m_ref08_Grow (a0 : List (UInt64 × UInt64)) (a1 : Int) : Option ((List (UInt64 × UInt64)) × Int) :=
  if (((decide ((a0.length : Int) > 256)) || (decide (a1 < 0))) || (decide (a1 > (a0.length : Int)))) = true then
    some (([] : List (UInt64 × UInt64)), 80)
  else
  if (a1 == 0) = true then
    some (([] : List (UInt64 × UInt64)), 0)
  else
  obind (m_ref08_shows a0 a1 true) fun x1 =>
  some (x1, 0)
theorem w_ref08_Grow {a0 : List (UInt64 × UInt64)} {a1 : Int} {r : (List (UInt64 × UInt64)) × Int} (hm : m_ref08_Grow a0 a1 = some r) : Sp prog 43 [sl e_a2_eU a0, .d (.i a1)] [] 0 (is (.tup [.ow 0, .d (.i r.2)]) [.row 0 2 _ e_a2_eU r.1] 1) :=
  sp call43 func43 rfl ntmps43 rfl fun D0 As η0 m0 hd => by
    unfold m_ref08_Grow at hm
    refine gi hm (by kernel_rfl) (fun hc1 hm => ?_) fun hc1 hm => ?_
    · skip
      refine gnil e_a2_eU 4 2 (by kernel_rfl) ?_
      have e0 := Option.some.inj hm
      subst e0
      exact gend hd (by kernel_rfl)
    refine gi hm (by kernel_rfl) (fun hc2 hm => ?_) fun hc2 hm => ?_
    · skip
      refine gnil e_a2_eU 4 2 (by kernel_rfl) ?_
      have e0 := Option.some.inj hm
      subst e0
      exact gend hd (by kernel_rfl)
    obtain ⟨x1, q1, hm⟩ := obind_some hm
    refine gco (s_ref08_shows q1) (by kernel_rfl) ?_
    have e0 := Option.some.inj hm
    subst e0
    exact gend hd (by kernel_rfl)
def m_ref24_Grow (a0 : g_api_Log) (a1 : Int) (a2 : Int) (a3 : Int) : Option ((List (UInt64 × UInt64)) × Int) :=
  obind (m_ref24_some a0 a1 a3) fun x1 =>
  if (x1.2 != 0) = true then
    some (([] : List (UInt64 × UInt64)), x1.2)
  else
  obind (m_ref08_Grow x1.1 a2) fun x2 =>
  some (x2.1, x2.2)
theorem w_ref24_Grow {a0 : g_api_Log} {a1 : Int} {a2 : Int} {a3 : Int} {r : (List (UInt64 × UInt64)) × Int} (hm : m_ref24_Grow a0 a1 a2 a3 = some r) : Sp prog 13 [ag (e_api_Log a0), .d (.i a1), .d (.i a2), .d (.i a3)] [] 0 (is (.tup [.ow 0, .d (.i r.2)]) [.row 0 2 _ e_a2_eU r.1] 1) :=
  sp call13 func13 rfl ntmps13 rfl fun D0 As η0 m0 hd => by
    unfold m_ref24_Grow at hm
    obtain ⟨x1, q1, hm⟩ := obind_some hm
    refine gco (s_ref24_some q1) (by kernel_rfl) ?_
    refine gi hm (by kernel_rfl) (fun hc1 hm => ?_) fun hc1 hm => ?_
    · skip
      refine gnil e_a2_eU 8 2 (by kernel_rfl) ?_
      have e0 := Option.some.inj hm
      subst e0
      exact gend hd (by kernel_rfl)
    obtain ⟨x2, q2, hm⟩ := obind_some hm
    refine gco (w_ref08_Grow q2) (by kernel_rfl) ?_
    have e0 := Option.some.inj hm
    subst e0
    exact gend hd (by kernel_rfl)
theorem d_ref24_Grow {a0 : g_api_Log} {a1 : Int} {a2 : Int} {a3 : Int} {r : (List (UInt64 × UInt64)) × Int} (hm : m_ref24_Grow a0 a1 a2 a3 = some r) : Sf prog 13 [ag (e_api_Log a0), .d (.i a1), .d (.i a2), .d (.i a3)] (.tup [sl e_a2_eU r.1, .d (.i r.2)]) := Sp.fz (w_ref24_Grow hm) (by kernel_rfl)
def m_ref08_Sums_b1 (a0 : List (UInt64 × UInt64)) (a1 : List (UInt64 × UInt64)) (s1 : Int) : Option ((Int) ⊕ ((Unit) ⊕ Bool)) :=
  if (decide (s1 < (a0.length : Int))) = true then
    obind (idx a0 s1) fun x3 =>
    obind (idx a1 s1) fun x4 =>
    if (!eqSum x3 x4) = true then
      some (.inr (.inr false))
    else
    some (.inl (w64 (s1 + 1)))
  else
  some (.inr (.inl ()))
def m_ref08_Sums (a0 : List (UInt64 × UInt64)) (a1 : List (UInt64 × UInt64)) : Option Bool :=
  if ((a0.length : Int) != (a1.length : Int)) = true then
    some false
  else
  obind (iter (m_ref08_Sums_b1 a0 a1) FUEL 0) fun x1 => match x1 with
  | .inr r => some r
  | .inl y1 =>
  some true
theorem w_ref08_Sums {a0 : List (UInt64 × UInt64)} {a1 : List (UInt64 × UInt64)} {r : Bool} (hm : m_ref08_Sums a0 a1 = some r) : Sf prog 14 [sl e_a2_eU a0, sl e_a2_eU a1] (.d (.t r)) :=
  sp call14 func14 rfl ntmps14 rfl fun D0 As η0 m0 hd => by
    unfold m_ref08_Sums at hm
    refine gi hm (by kernel_rfl) (fun hc1 hm => ?_) fun hc1 hm => ?_
    · skip
      have e0 := Option.some.inj hm
      subst e0
      exact gend hd (by kernel_rfl)
    obtain ⟨x1, q1, hm⟩ := obind_some hm
    refine gjU 0 (fun (y1 : Unit) => ⟨[], [], [], 0⟩) (fun y1 => x1 = .inl y1) (by kernel_rfl) (fun Jp bk1 => ?_) fun y1 hy => ?_
    · refine gl hd (fun (p : Nat × (Int)) => let (p0, p_0) := p; ⟨[(0, sl e_a2_eU a0), (1, sl e_a2_eU a1), (5, .d (.i p_0))], [], [], 0⟩) (fun p => iter (m_ref08_Sums_b1 a0 a1) p.1 p.2 = some x1) (fun p => p.1) (FUEL, 0) q1 (by kernel_rfl) ?_
      rintro ⟨n1, s1⟩ q2 Jl bl1
      cases n1 with
      | zero => exact (iter_zero q2).elim
      | succ n1 =>
        obtain ⟨y2, q4, q3⟩ := iter_succ q2
        unfold m_ref08_Sums_b1 at q4
        refine gi q4 (by kernel_rfl) (fun hc2 q4 => ?_) fun hc2 q4 => ?_
        · skip
          obtain ⟨x3, q6, q4⟩ := obind_some q4
          refine gidx (k := 2) (E := e_a2_eU) (fun _ => rfl) (fun _ => q6) (by kernel_rfl) ?_
          obtain ⟨x4, q7, q4⟩ := obind_some q4
          refine gidx (k := 2) (E := e_a2_eU) (fun _ => rfl) (fun _ => q7) (by kernel_rfl) ?_
          refine gi q4 (by kernel_rfl) (fun hc3 q4 => ?_) fun hc3 q4 => ?_
          · skip
            cases q4
            rcases q3 with ⟨sn, e, _⟩ | e
            · cases e
            cases e
            dsimp only at hm
            have e0 := Option.some.inj hm
            subst e0
            exact gend hd (by kernel_rfl)
          have e0 := Option.some.inj q4
          subst e0
          rcases q3 with ⟨sn, e, q3'⟩ | e
          · have e := Sum.inl.inj e
            subst e
            exact gb bl1 hd (n1, _) ⟨q3', Nat.lt_succ_self _⟩ (by kernel_rfl)
          cases sum_lr e
        have e0 := Option.some.inj q4
        subst e0
        rcases q3 with ⟨sn, e, _⟩ | e
        · cases sum_rl e
        have e := Sum.inr.inj e
        subst e
        exact gb bk1 hd () rfl (by kernel_rfl)
    subst hy
    dsimp only at hm
    have e0 := Option.some.inj hm
    subst e0
    exact gend hd (by kernel_rfl)
def m_ref24_SamePlace (a0 : g_api_Place) (a1 : g_api_Place) : Option Bool :=
  obind (gu (((a0.Log == a1.Log) && (a0.At == a1.At)) && (a0.Size == a1.Size)) (m_ref08_Sums a0.Proof a1.Proof)) fun x1 =>
  bnd (((((a0.Log == a1.Log) && (a0.At == a1.At)) && (a0.Size == a1.Size)) && x1)) fun x2 =>
  some x2
theorem w_ref24_SamePlace {a0 : g_api_Place} {a1 : g_api_Place} {r : Bool} (hm : m_ref24_SamePlace a0 a1 = some r) : Sf prog 15 [ag (e_api_Place a0), ag (e_api_Place a1)] (.d (.t r)) :=
  sp call15 func15 rfl ntmps15 rfl fun D0 As η0 m0 hd => by
    unfold m_ref24_SamePlace at hm
    obtain ⟨x1, q1, hm⟩ := obind_some hm
    refine gcG (fun h => w_ref08_Sums (gu_t h q1)) (by kernel_rfl) ?_
    have hm := bnd_is hm
    let x2 : Bool := (((((a0.Log == a1.Log) && (a0.At == a1.At)) && (a0.Size == a1.Size)) && x1))
    have e0 := Option.some.inj hm
    subst e0
    exact gend hd (by kernel_rfl)
def m_law24_LogdViews (a0 : g_api_Log) (a1 : Int) (a2 : Int) (a3 : Int) (a4 : Int) : Option Bool :=
  obind (m_law24_live ) fun x1 =>
  if (!x1) = true then
    some false
  else
  obind (m_law24_few a0 ([] : List UInt8)) fun x2 =>
  if (!x2) = true then
    some true
  else
  obind (m_logd_Leaves a0 a1) fun x3 =>
  obind (m_ref24_Leaves a0 a1) fun x4 =>
  obind (m_logd_Head a0 a1 a3 a4) fun x5 =>
  obind (m_ref24_Head a0 a1 a3 a4) fun x6 =>
  obind (m_logd_Prove a0 a1 a2 a3) fun x7 =>
  obind (m_ref24_Prove a0 a1 a2 a3) fun x8 =>
  obind (m_logd_Grow a0 a1 a2 a3) fun x9 =>
  obind (m_ref24_Grow a0 a1 a2 a3) fun x10 =>
  obind (m_ref08_Sums x3.1 x4.1) fun x11 =>
  obind (gu (((x11 && (x3.2 == x4.2)) && (eq_api_Head x5.1 x6.1)) && (x5.2 == x6.2)) (m_ref24_SamePlace x7.1 x8.1)) fun x12 =>
  obind (gu (((((x11 && (x3.2 == x4.2)) && (eq_api_Head x5.1 x6.1)) && (x5.2 == x6.2)) && x12) && (x7.2 == x8.2)) (m_ref08_Sums x9.1 x10.1)) fun x13 =>
  bnd ((((((((x11 && (x3.2 == x4.2)) && (eq_api_Head x5.1 x6.1)) && (x5.2 == x6.2)) && x12) && (x7.2 == x8.2)) && x13) && (x9.2 == x10.2))) fun x14 =>
  some x14
theorem w_law24_LogdViews {a0 : g_api_Log} {a1 : Int} {a2 : Int} {a3 : Int} {a4 : Int} {r : Bool} (hm : m_law24_LogdViews a0 a1 a2 a3 a4 = some r) : Sf prog 3 [ag (e_api_Log a0), .d (.i a1), .d (.i a2), .d (.i a3), .d (.i a4)] (.d (.t r)) :=
  sp call3 func3 rfl ntmps3 rfl fun D0 As η0 m0 hd => by
    unfold m_law24_LogdViews at hm
    obtain ⟨x1, q1, hm⟩ := obind_some hm
    refine gc (fun _ => w_law24_live q1) (by kernel_rfl) ?_
    refine gi hm (by kernel_rfl) (fun hc1 hm => ?_) fun hc1 hm => ?_
    · skip
      have e0 := Option.some.inj hm
      subst e0
      exact gend hd (by kernel_rfl)
    obtain ⟨x2, q2, hm⟩ := obind_some hm
    refine gc (fun _ => w_law24_few q2) (by kernel_rfl) ?_
    refine gi hm (by kernel_rfl) (fun hc2 hm => ?_) fun hc2 hm => ?_
    · skip
      have e0 := Option.some.inj hm
      subst e0
      exact gend hd (by kernel_rfl)
    obtain ⟨x3, q3, hm⟩ := obind_some hm
    refine gco (w_logd_Leaves q3) (by kernel_rfl) ?_
    obtain ⟨x4, q4, hm⟩ := obind_some hm
    refine gco (w_ref24_Leaves q4) (by kernel_rfl) ?_
    obtain ⟨x5, q5, hm⟩ := obind_some hm
    refine gc (fun _ => w_logd_Head q5) (by kernel_rfl) ?_
    obtain ⟨x6, q6, hm⟩ := obind_some hm
    refine gc (fun _ => w_ref24_Head q6) (by kernel_rfl) ?_
    obtain ⟨x7, q7, hm⟩ := obind_some hm
    refine gc (fun _ => w_logd_Prove q7) (by kernel_rfl) ?_
    obtain ⟨x8, q8, hm⟩ := obind_some hm
    refine gc (fun _ => w_ref24_Prove q8) (by kernel_rfl) ?_
    obtain ⟨x9, q9, hm⟩ := obind_some hm
    refine gc (fun _ => d_logd_Grow q9) (by kernel_rfl) ?_
    obtain ⟨x10, q10, hm⟩ := obind_some hm
    refine gc (fun _ => d_ref24_Grow q10) (by kernel_rfl) ?_
    obtain ⟨x11, q11, hm⟩ := obind_some hm
    refine gco (w_ref08_Sums q11) (by kernel_rfl) ?_
    obtain ⟨x12, q12, hm⟩ := obind_some hm
    refine gcG (fun h => w_ref24_SamePlace (gu_t h q12)) (by kernel_rfl) ?_
    obtain ⟨x13, q13, hm⟩ := obind_some hm
    refine gcG (fun h => w_ref08_Sums (gu_t h q13)) (by kernel_rfl) ?_
    have hm := bnd_is hm
    let x14 : Bool := ((((((((x11 && (x3.2 == x4.2)) && (eq_api_Head x5.1 x6.1)) && (x5.2 == x6.2)) && x12) && (x7.2 == x8.2)) && x13) && (x9.2 == x10.2)))
    have e0 := Option.some.inj hm
    subst e0
    exact gend hd (by kernel_rfl)
end Go.Proofs.YtojlmhmiknocmaaGreat
