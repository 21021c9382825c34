/- The walks of some functions, by the executor, written by program. Conditions: none. -/
import Derived.Test.YtgnklegamndglaaGreatZg
set_option linter.unusedSimpArgs false
set_option linter.unusedVariables false
set_option maxHeartbeats 20000000
set_option maxRecDepth 100000
namespace Go.Proofs.YtgnklegamndglaaGreat
open Go Go.Gw Go.Ax Tryz
def m_logd_number (a0 : Int) : Option Bool :=
  bnd (((decide (a0 ≥ 0)) && (decide (a0 ≤ 1099511627776)))) fun x1 =>
  some x1
theorem w_logd_number {a0 : Int} {r : Bool} (hm : m_logd_number a0 = some r) : Sf prog 61 [.d (.i a0)] (.d (.t r)) :=
  sp call61 func61 rfl ntmps61 rfl fun D0 As η0 m0 hd => by
    unfold m_logd_number at hm
    have hm := bnd_is hm
    let x1 : Bool := (((decide (a0 ≥ 0)) && (decide (a0 ≤ 1099511627776))))
    have e0 := Option.some.inj hm
    subst e0
    exact gend hd (by kernel_rfl)
theorem v_logd_number {m : Mem} {As : List Ow} {w : World} {a0 : Int} {r : Bool} (S : St m As w) (hm : m_logd_number a0 = some r) :
    CallsR prog 61 #[vI a0] w fun v w' => ∃ (M : Mem), m ≤ M ∧ St M (As) w' ∧ v = vb r := by
  refine CallsR.mono ((w_logd_number hm).2 none0 m As w [vI a0] (.cons (.d (.i _)) .nil) (fun n h => absurd rfl h) S) ?_
  rintro v w' ⟨M, η', r', obs', n1, hle, _, ⟨rfl, rfl, rfl⟩, hdom, hR, S'⟩
  obtain rfl := hR.t_inv
  exact ⟨M, hle, S', rfl⟩
def m_bits_Mul64 (a0 : UInt64) (a1 : UInt64) : Option (UInt64 × UInt64) :=
  bnd (((a0 &&& 4294967295) * (a1 &&& 4294967295))) fun x1 =>
  bnd ((((shrU a0 32) * (a1 &&& 4294967295)) + (shrU x1 32))) fun x2 =>
  bnd (((x2 &&& 4294967295) + ((a0 &&& 4294967295) * (shrU a1 32)))) fun x3 =>
  bnd (((((shrU a0 32) * (shrU a1 32)) + (shrU x2 32)) + (shrU x3 32))) fun x4 =>
  some (x4, (a0 * a1))
theorem w_bits_Mul64 {a0 : UInt64} {a1 : UInt64} {r : UInt64 × UInt64} (hm : m_bits_Mul64 a0 a1 = some r) : Sf prog 131 [.d (.u a0), .d (.u a1)] (.tup [.d (.u r.1), .d (.u r.2)]) :=
  sp call131 func131 rfl ntmps131 rfl fun D0 As η0 m0 hd => by
    unfold m_bits_Mul64 at hm
    have hm := bnd_is hm
    let x1 : UInt64 := (((a0 &&& 4294967295) * (a1 &&& 4294967295)))
    have hm := bnd_is hm
    let x2 : UInt64 := ((((shrU a0 32) * (a1 &&& 4294967295)) + (shrU x1 32)))
    have hm := bnd_is hm
    let x3 : UInt64 := (((x2 &&& 4294967295) + ((a0 &&& 4294967295) * (shrU a1 32))))
    have hm := bnd_is hm
    let x4 : UInt64 := (((((shrU a0 32) * (shrU a1 32)) + (shrU x2 32)) + (shrU x3 32)))
    have e0 := Option.some.inj hm
    subst e0
    exact gend hd (by kernel_rfl)
theorem v_bits_Mul64 {m : Mem} {As : List Ow} {w : World} {a0 : UInt64} {a1 : UInt64} {r : UInt64 × UInt64} (S : St m As w) (hm : m_bits_Mul64 a0 a1 = some r) :
    CallsR prog 131 #[vU a0, vU a1] w fun v w' => ∃ (M : Mem), m ≤ M ∧ St M (As) w' ∧ v = .tuple #[vU r.1, vU r.2] := by
  refine CallsR.mono ((w_bits_Mul64 hm).2 none0 m As w [vU a0, vU a1] (.cons (.d (.u _)) (.cons (.d (.u _)) .nil)) (fun n h => absurd rfl h) S) ?_
  rintro v w' ⟨M, η', r', obs', n1, hle, _, ⟨rfl, rfl, rfl⟩, hdom, hR, S'⟩
  obtain ⟨us, rfl, hR0⟩ := hR.tup_inv
  obtain ⟨v0, u0, rfl, q0, hR1⟩ := RelL.cons_inv hR0
  obtain ⟨v1, u1, rfl, q1, hR2⟩ := RelL.cons_inv hR1
  obtain rfl := RelL.nil_inv hR2
  obtain rfl := q0.u_inv
  obtain rfl := q1.u_inv
  exact ⟨M, hle, S', rfl⟩
def m_bits_Len64 (a0 : UInt64) : Option Int :=
  obind (
    if (decide ((a0.toNat : Int) ≥ 4294967296)) = true then
      some ((shrU a0 32), 32)
    else
    some (a0, 0)
  ) fun x1 =>
  obind (
    if (decide ((x1.1.toNat : Int) ≥ 65536)) = true then
      some ((shrU x1.1 16), (w64 (x1.2 + 16)))
    else
    some (x1.1, x1.2)
  ) fun x2 =>
  obind (
    if (decide ((x2.1.toNat : Int) ≥ 256)) = true then
      some ((shrU x2.1 8), (w64 (x2.2 + 8)))
    else
    some (x2.1, x2.2)
  ) fun x3 =>
  obind (idx str_0.data.toList ((toB (x3.1.toNat : Int)).toNat : Int)) fun x4 =>
  bnd ((w64 (x3.2 + (w64 (x4.toNat : Int))))) fun x5 =>
  some x5
theorem w_bits_Len64 {a0 : UInt64} {r : Int} (hm : m_bits_Len64 a0 = some r) : Sf prog 136 [.d (.u a0)] (.d (.i r)) :=
  sp call136 func136 rfl ntmps136 rfl fun D0 As η0 m0 hd => by
    unfold m_bits_Len64 at hm
    obtain ⟨x1, q1, hm⟩ := obind_some hm
    refine gj (fun (_ : Unit) => let (y_0, y_1) := x1; ⟨[(0, .d (.u y_0)), (2, .d (.i y_1))], [], [], 0⟩) (fun _ => True) (by kernel_rfl) (fun Jp bk1 => ?_) fun _ _ => ?_
    · refine gi q1 (by kernel_rfl) (fun hc1 q1 => ?_) fun hc1 q1 => ?_
      · skip
        have e0 := Option.some.inj q1
        subst e0
        exact gb bk1 hd () trivial (by kernel_rfl)
      have e0 := Option.some.inj q1
      subst e0
      exact gb bk1 hd () trivial (by kernel_rfl)
    obtain ⟨x2, q2, hm⟩ := obind_some hm
    refine gj (fun (_ : Unit) => let (y_0, y_1) := x2; ⟨[(0, .d (.u y_0)), (2, .d (.i y_1))], [], [], 0⟩) (fun _ => True) (by kernel_rfl) (fun Jp bk2 => ?_) fun _ _ => ?_
    · refine gi q2 (by kernel_rfl) (fun hc2 q2 => ?_) fun hc2 q2 => ?_
      · skip
        have e0 := Option.some.inj q2
        subst e0
        exact gb bk2 hd () trivial (by kernel_rfl)
      have e0 := Option.some.inj q2
      subst e0
      exact gb bk2 hd () trivial (by kernel_rfl)
    obtain ⟨x3, q3, hm⟩ := obind_some hm
    refine gj (fun (_ : Unit) => let (y_0, y_1) := x3; ⟨[(0, .d (.u y_0)), (2, .d (.i y_1))], [], [], 0⟩) (fun _ => True) (by kernel_rfl) (fun Jp bk3 => ?_) fun _ _ => ?_
    · refine gi q3 (by kernel_rfl) (fun hc3 q3 => ?_) fun hc3 q3 => ?_
      · skip
        have e0 := Option.some.inj q3
        subst e0
        exact gb bk3 hd () trivial (by kernel_rfl)
      have e0 := Option.some.inj q3
      subst e0
      exact gb bk3 hd () trivial (by kernel_rfl)
    obtain ⟨x4, q4, hm⟩ := obind_some hm
    refine gidxS (fun _ => q4) (by kernel_rfl) ?_
    have hm := bnd_is hm
    let x5 : Int := ((w64 (x3.2 + (w64 (x4.toNat : Int)))))
    have e0 := Option.some.inj hm
    subst e0
    exact gend hd (by kernel_rfl)
theorem v_bits_Len64 {m : Mem} {As : List Ow} {w : World} {a0 : UInt64} {r : Int} (S : St m As w) (hm : m_bits_Len64 a0 = some r) :
    CallsR prog 136 #[vU a0] w fun v w' => ∃ (M : Mem), m ≤ M ∧ St M (As) w' ∧ v = vI r := by
  refine CallsR.mono ((w_bits_Len64 hm).2 none0 m As w [vU a0] (.cons (.d (.u _)) .nil) (fun n h => absurd rfl h) S) ?_
  rintro v w' ⟨M, η', r', obs', n1, hle, _, ⟨rfl, rfl, rfl⟩, hdom, hR, S'⟩
  obtain rfl := hR.i_inv
  exact ⟨M, hle, S', rfl⟩
def m_bits_LeadingZeros64 (a0 : UInt64) : Option Int :=
  obind (m_bits_Len64 a0) fun x1 =>
  some (w64 (64 - x1))
theorem w_bits_LeadingZeros64 {a0 : UInt64} {r : Int} (hm : m_bits_LeadingZeros64 a0 = some r) : Sf prog 147 [.d (.u a0)] (.d (.i r)) :=
  sp call147 func147 rfl ntmps147 rfl fun D0 As η0 m0 hd => by
    unfold m_bits_LeadingZeros64 at hm
    obtain ⟨x1, q1, hm⟩ := obind_some hm
    refine gc (fun _ => w_bits_Len64 q1) (by kernel_rfl) ?_
    have e0 := Option.some.inj hm
    subst e0
    exact gend hd (by kernel_rfl)
def m_bits_Div64_b1 (x4 : UInt64) (x5 : UInt64) (x7 : UInt64) (s1 : UInt64 × UInt64) : Option ((UInt64 × UInt64) ⊕ (UInt64)) :=
  if ((decide ((s1.1.toNat : Int) ≥ 4294967296)) || (decide (((s1.1 * x5).toNat : Int) > (((4294967296 * s1.2) + x7).toNat : Int)))) = true then
    if (decide (((s1.2 + x4).toNat : Int) ≥ 4294967296)) = true then
      some (.inr (s1.1 - 1))
    else
    some (.inl ((s1.1 - 1), (s1.2 + x4)))
  else
  some (.inr s1.1)
def m_bits_Div64_b2 (x4 : UInt64) (x5 : UInt64) (x8 : UInt64) (s2 : UInt64 × UInt64) : Option ((UInt64 × UInt64) ⊕ (UInt64)) :=
  if ((decide ((s2.2.toNat : Int) ≥ 4294967296)) || (decide (((s2.2 * x5).toNat : Int) > (((4294967296 * s2.1) + x8).toNat : Int)))) = true then
    if (decide (((s2.1 + x4).toNat : Int) ≥ 4294967296)) = true then
      some (.inr (s2.2 - 1))
    else
    some (.inl ((s2.1 + x4), (s2.2 - 1)))
  else
  some (.inr s2.2)
def m_bits_Div64 (a0 : UInt64) (a1 : UInt64) (a2 : UInt64) : Option (UInt64 × UInt64) :=
  obind (
    if ((a2.toNat : Int) == 0) = true then
      none
    else
    some ()
  ) fun x1 =>
  obind (
    if (decide ((a2.toNat : Int) ≤ (a0.toNat : Int))) = true then
      none
    else
    some ()
  ) fun x2 =>
  if ((a0.toNat : Int) == 0) = true then
    if a2 ≠ 0 then
      if a2 ≠ 0 then
        some ((a1 / a2), (a1 % a2))
      else none
    else none
  else
  obind (m_bits_LeadingZeros64 a2) fun x3 =>
  bnd ((shrU (shlU a2 ((toU x3).toNat)) 32)) fun x4 =>
  bnd (((shlU a2 ((toU x3).toNat)) &&& 4294967295)) fun x5 =>
  bnd (((shlU a0 ((toU x3).toNat)) ||| (shrU a1 ((64 - (toU x3)).toNat)))) fun x6 =>
  bnd ((shrU (shlU a1 ((toU x3).toNat)) 32)) fun x7 =>
  bnd (((shlU a1 ((toU x3).toNat)) &&& 4294967295)) fun x8 =>
  if x4 ≠ 0 then
    obind (
      obind (iter (m_bits_Div64_b1 x4 x5 x7) FUEL ((x6 / x4), (x6 - ((x6 / x4) * x4)))) fun x10 =>
      some x10
    ) fun x9 =>
    bnd ((((x6 * 4294967296) + x7) - (x9 * (shlU a2 ((toU x3).toNat))))) fun x12 =>
    if x4 ≠ 0 then
      obind (
        obind (iter (m_bits_Div64_b2 x4 x5 x8) FUEL ((x12 - ((x12 / x4) * x4)), (x12 / x4))) fun x14 =>
        some x14
      ) fun x13 =>
      bnd ((shrU (((x12 * 4294967296) + x8) - (x13 * (shlU a2 ((toU x3).toNat)))) ((toU x3).toNat))) fun x16 =>
      some (((x9 * 4294967296) + x13), x16)
    else none
  else none
theorem w_bits_Div64 {a0 : UInt64} {a1 : UInt64} {a2 : UInt64} {r : UInt64 × UInt64} (hm : m_bits_Div64 a0 a1 a2 = some r) : Sf prog 133 [.d (.u a0), .d (.u a1), .d (.u a2)] (.tup [.d (.u r.1), .d (.u r.2)]) :=
  sp call133 func133 rfl ntmps133 rfl fun D0 As η0 m0 hd => by
    unfold m_bits_Div64 at hm
    obtain ⟨x1, q1, hm⟩ := obind_some hm
    refine gj (fun (_ : Unit) => ⟨[(0, .d (.u a0)), (1, .d (.u a1)), (2, .d (.u a2))], [], [], 0⟩) (fun _ => True) (by kernel_rfl) (fun Jp bk1 => ?_) fun _ _ => ?_
    · refine gi q1 (by kernel_rfl) (fun hc1 q1 => ?_) fun hc1 q1 => ?_
      · cases q1
      have e0 := Option.some.inj q1
      subst e0
      exact gb bk1 hd () trivial (by kernel_rfl)
    obtain ⟨x2, q2, hm⟩ := obind_some hm
    refine gj (fun (_ : Unit) => ⟨[(0, .d (.u a0)), (1, .d (.u a1)), (2, .d (.u a2))], [], [], 0⟩) (fun _ => True) (by kernel_rfl) (fun Jp bk2 => ?_) fun _ _ => ?_
    · refine gi q2 (by kernel_rfl) (fun hc2 q2 => ?_) fun hc2 q2 => ?_
      · cases q2
      have e0 := Option.some.inj q2
      subst e0
      exact gb bk2 hd () trivial (by kernel_rfl)
    refine gi hm (by kernel_rfl) (fun hc3 hm => ?_) fun hc3 hm => ?_
    · skip
      obtain ⟨q3, hm⟩ := if_some hm
      refine gquo (d := .u a2) (r := .u (a1 / a2)) (fun h => q3) (by kernel_rfl) ?_
      obtain ⟨q4, hm⟩ := if_some hm
      refine gquo (d := .u a2) (r := .u (a1 % a2)) (fun h => q4) (by kernel_rfl) ?_
      have e0 := Option.some.inj hm
      subst e0
      exact gend hd (by kernel_rfl)
    obtain ⟨x3, q5, hm⟩ := obind_some hm
    refine gc (fun _ => w_bits_LeadingZeros64 q5) (by kernel_rfl) ?_
    have hm := bnd_is hm
    let x4 : UInt64 := ((shrU (shlU a2 ((toU x3).toNat)) 32))
    have hm := bnd_is hm
    let x5 : UInt64 := (((shlU a2 ((toU x3).toNat)) &&& 4294967295))
    have hm := bnd_is hm
    let x6 : UInt64 := (((shlU a0 ((toU x3).toNat)) ||| (shrU a1 ((64 - (toU x3)).toNat))))
    have hm := bnd_is hm
    let x7 : UInt64 := ((shrU (shlU a1 ((toU x3).toNat)) 32))
    have hm := bnd_is hm
    let x8 : UInt64 := (((shlU a1 ((toU x3).toNat)) &&& 4294967295))
    obtain ⟨q11, hm⟩ := if_some hm
    refine gquo (d := .u x4) (r := .u (x6 / x4)) (fun h => q11) (by kernel_rfl) ?_
    obtain ⟨x9, q12, hm⟩ := obind_some hm
    obtain ⟨x10, q13, q12⟩ := obind_some q12
    refine gjU 0 (fun (_ : Unit) => ⟨[(2, .d (.u (shlU a2 ((toU x3).toNat)))), (8, .d (.u (toU x3))), (9, .d (.u x4)), (10, .d (.u x5)), (11, .d (.u x6)), (13, .d (.u x7)), (14, .d (.u x8)), (15, .d (.u x9))], [], [], 0⟩) (fun _ => True) (by kernel_rfl) (fun Jp bk3 => ?_) fun _ _ => ?_
    · refine gjU 0 (fun (_ : Unit) => ⟨[(2, .d (.u (shlU a2 ((toU x3).toNat)))), (8, .d (.u (toU x3))), (9, .d (.u x4)), (10, .d (.u x5)), (11, .d (.u x6)), (13, .d (.u x7)), (14, .d (.u x8)), (15, .d (.u x10))], [], [], 0⟩) (fun _ => True) (by kernel_rfl) (fun Jp bk4 => ?_) fun _ _ => ?_
      · refine gl hd (fun (p : Nat × (UInt64 × UInt64)) => let (p0, p_0, p_1) := p; ⟨[(2, .d (.u (shlU a2 ((toU x3).toNat)))), (8, .d (.u (toU x3))), (9, .d (.u x4)), (10, .d (.u x5)), (11, .d (.u x6)), (13, .d (.u x7)), (14, .d (.u x8)), (15, .d (.u p_0)), (16, .d (.u p_1))], [], [], 0⟩) (fun p => iter (m_bits_Div64_b1 x4 x5 x7) p.1 p.2 = some x10) (fun p => p.1) (FUEL, ((x6 / x4), (x6 - ((x6 / x4) * x4)))) q13 (by kernel_rfl) ?_
        rintro ⟨n1, s1⟩ q14 Jl bl1
        cases n1 with
        | zero => exact (iter_zero q14).elim
        | succ n1 =>
          obtain ⟨y1, q16, q15⟩ := iter_succ q14
          unfold m_bits_Div64_b1 at q16
          refine gi q16 (by kernel_rfl) (fun hc4 q16 => ?_) fun hc4 q16 => ?_
          · skip
            refine gi q16 (by kernel_rfl) (fun hc5 q16 => ?_) fun hc5 q16 => ?_
            · skip
              have e0 := Option.some.inj q16
              subst e0
              rcases q15 with ⟨sn, e, _⟩ | e
              · cases sum_rl e
              have e := Sum.inr.inj e
              subst e
              exact gb bk4 hd () trivial (by kernel_rfl)
            have e0 := Option.some.inj q16
            subst e0
            rcases q15 with ⟨sn, e, q15'⟩ | e
            · have e := Sum.inl.inj e
              subst e
              exact gb bl1 hd (n1, _) ⟨q15', Nat.lt_succ_self _⟩ (by kernel_rfl)
            cases sum_lr e
          have e0 := Option.some.inj q16
          subst e0
          rcases q15 with ⟨sn, e, _⟩ | e
          · cases sum_rl e
          have e := Sum.inr.inj e
          subst e
          exact gb bk4 hd () trivial (by kernel_rfl)
      have e0 := Option.some.inj q12
      subst e0
      exact gb bk3 hd () trivial (by kernel_rfl)
    have hm := bnd_is hm
    let x12 : UInt64 := ((((x6 * 4294967296) + x7) - (x9 * (shlU a2 ((toU x3).toNat)))))
    obtain ⟨q19, hm⟩ := if_some hm
    refine gquo (d := .u x4) (r := .u (x12 / x4)) (fun h => q19) (by kernel_rfl) ?_
    obtain ⟨x13, q20, hm⟩ := obind_some hm
    obtain ⟨x14, q21, q20⟩ := obind_some q20
    refine gjU 2 (fun (_ : Unit) => ⟨[(2, .d (.u (shlU a2 ((toU x3).toNat)))), (8, .d (.u (toU x3))), (14, .d (.u x8)), (15, .d (.u x9)), (17, .d (.u x12)), (18, .d (.u x13))], [], [], 0⟩) (fun _ => True) (by kernel_rfl) (fun Jp bk5 => ?_) fun _ _ => ?_
    · refine gjU 2 (fun (_ : Unit) => ⟨[(2, .d (.u (shlU a2 ((toU x3).toNat)))), (8, .d (.u (toU x3))), (14, .d (.u x8)), (15, .d (.u x9)), (17, .d (.u x12)), (18, .d (.u x14))], [], [], 0⟩) (fun _ => True) (by kernel_rfl) (fun Jp bk6 => ?_) fun _ _ => ?_
      · refine gl hd (fun (p : Nat × (UInt64 × UInt64)) => let (p0, p_0, p_1) := p; ⟨[(2, .d (.u (shlU a2 ((toU x3).toNat)))), (8, .d (.u (toU x3))), (9, .d (.u x4)), (10, .d (.u x5)), (14, .d (.u x8)), (15, .d (.u x9)), (16, .d (.u p_0)), (17, .d (.u x12)), (18, .d (.u p_1))], [], [], 0⟩) (fun p => iter (m_bits_Div64_b2 x4 x5 x8) p.1 p.2 = some x14) (fun p => p.1) (FUEL, ((x12 - ((x12 / x4) * x4)), (x12 / x4))) q21 (by kernel_rfl) ?_
        rintro ⟨n2, s2⟩ q22 Jl bl2
        cases n2 with
        | zero => exact (iter_zero q22).elim
        | succ n2 =>
          obtain ⟨y2, q24, q23⟩ := iter_succ q22
          unfold m_bits_Div64_b2 at q24
          refine gi q24 (by kernel_rfl) (fun hc6 q24 => ?_) fun hc6 q24 => ?_
          · skip
            refine gi q24 (by kernel_rfl) (fun hc7 q24 => ?_) fun hc7 q24 => ?_
            · skip
              have e0 := Option.some.inj q24
              subst e0
              rcases q23 with ⟨sn, e, _⟩ | e
              · cases sum_rl e
              have e := Sum.inr.inj e
              subst e
              exact gb bk6 hd () trivial (by kernel_rfl)
            have e0 := Option.some.inj q24
            subst e0
            rcases q23 with ⟨sn, e, q23'⟩ | e
            · have e := Sum.inl.inj e
              subst e
              exact gb bl2 hd (n2, _) ⟨q23', Nat.lt_succ_self _⟩ (by kernel_rfl)
            cases sum_lr e
          have e0 := Option.some.inj q24
          subst e0
          rcases q23 with ⟨sn, e, _⟩ | e
          · cases sum_rl e
          have e := Sum.inr.inj e
          subst e
          exact gb bk6 hd () trivial (by kernel_rfl)
      have e0 := Option.some.inj q20
      subst e0
      exact gb bk5 hd () trivial (by kernel_rfl)
    have hm := bnd_is hm
    let x16 : UInt64 := ((shrU (((x12 * 4294967296) + x8) - (x13 * (shlU a2 ((toU x3).toNat)))) ((toU x3).toNat)))
    have e0 := Option.some.inj hm
    subst e0
    exact gend hd (by kernel_rfl)
def m_bits_Rem64 (a0 : UInt64) (a1 : UInt64) (a2 : UInt64) : Option UInt64 :=
  if a2 ≠ 0 then
    obind (m_bits_Div64 (a0 % a2) a1 a2) fun x1 =>
    some x1.2
  else none
theorem w_bits_Rem64 {a0 : UInt64} {a1 : UInt64} {a2 : UInt64} {r : UInt64} (hm : m_bits_Rem64 a0 a1 a2 = some r) : Sf prog 140 [.d (.u a0), .d (.u a1), .d (.u a2)] (.d (.u r)) :=
  sp call140 func140 rfl ntmps140 rfl fun D0 As η0 m0 hd => by
    unfold m_bits_Rem64 at hm
    obtain ⟨q1, hm⟩ := if_some hm
    refine gquo (d := .u a2) (r := .u (a0 % a2)) (fun h => q1) (by kernel_rfl) ?_
    obtain ⟨x1, q2, hm⟩ := obind_some hm
    refine gc (fun _ => w_bits_Div64 q2) (by kernel_rfl) ?_
    have e0 := Option.some.inj hm
    subst e0
    exact gend hd (by kernel_rfl)
theorem v_bits_Rem64 {m : Mem} {As : List Ow} {w : World} {a0 : UInt64} {a1 : UInt64} {a2 : UInt64} {r : UInt64} (S : St m As w) (hm : m_bits_Rem64 a0 a1 a2 = some r) :
    CallsR prog 140 #[vU a0, vU a1, vU a2] w fun v w' => ∃ (M : Mem), m ≤ M ∧ St M (As) w' ∧ v = vU r := by
  refine CallsR.mono ((w_bits_Rem64 hm).2 none0 m As w [vU a0, vU a1, vU a2] (.cons (.d (.u _)) (.cons (.d (.u _)) (.cons (.d (.u _)) .nil))) (fun n h => absurd rfl h) S) ?_
  rintro v w' ⟨M, η', r', obs', n1, hle, _, ⟨rfl, rfl, rfl⟩, hdom, hR, S'⟩
  obtain rfl := hR.u_inv
  exact ⟨M, hle, S', rfl⟩
def m_cyclic_ring_mul (a0 : UInt64) (a1 : UInt64) (a2 : UInt64) : Option UInt64 :=
  obind (m_bits_Mul64 a1 a2) fun x1 =>
  obind (m_bits_Rem64 x1.1 x1.2 a0) fun x2 =>
  some x2
theorem w_cyclic_ring_mul {m : Mem} {As : List Ow} {w : World} {a0 : UInt64} {a1 : UInt64} {a2 : UInt64} {r : UInt64} (S : St m (As) w) (hm : m_cyclic_ring_mul a0 a1 a2 = some r) :
    CallsR Tryz.prog 118 #[vU a0, vU a1, vU a2] w fun v w' => ∃ (M : Mem), m ≤ M ∧ St M (As) w' ∧ v = vU r := by
 unfold m_cyclic_ring_mul at hm
 have L0 := Mem.rfl' m
 refine callsR (args := [vU a0, vU a1, vU a2]) func118 rfl ntmps118 (nb rfl) <| ws <| s_asv (v := vU 0) rfl <| nx <| s_mvv (v := vU a1) rfl <| s_mvv (v := vU a2) rfl ?_
 obtain ⟨x1, q1, hm⟩ := obind_some hm
 refine s_call call131 (v_bits_Mul64 (a0 := a1) (a1 := a2) S  q1) rfl ?_
 rintro _ w1 ⟨m1, l1, S1, rfl⟩
 clear S
 refine s_mvv (v := .tuple #[vU x1.1, vU x1.2]) rfl <| s_ext (i := 0) rfl rfl <| s_ext (i := 1) rfl rfl <| s_asv (v := vU x1.1) rfl <| s_asv (v := vU x1.2) rfl <| nx <| s_mvv (v := vU x1.1) rfl <| s_mvv (v := vU x1.2) rfl <| s_mvv (v := vU a0) rfl ?_
 obtain ⟨x2, q2, hm⟩ := obind_some hm
 refine s_call call140 (v_bits_Rem64 (a0 := x1.1) (a1 := x1.2) (a2 := a0) S1  q2) rfl ?_
 rintro _ w2 ⟨m2, l2, S2, rfl⟩
 clear S1
 refine s_asv (v := vU x2) rfl <| wpl_nil <| nrm <| wpc_ret <| outRw fun we hpd => ?_
 replace S2 := St.pd S2 hpd
 have e0 := Option.some.inj hm
 subst e0
 replace L0 := Mem.tr L0 (mt l1 l2)
 exact outR [_] rfl ⟨rfl, trivial⟩ ⟨_, L0, S2, rfl⟩
theorem s_cyclic_ring_mul {a0 : UInt64} {a1 : UInt64} {a2 : UInt64} {r : UInt64} (hm : m_cyclic_ring_mul a0 a1 a2 = some r) : Sf prog 118 [.d (.u a0), .d (.u a1), .d (.u a2)] (.d (.u r)) :=
  ⟨call118, fun η m As w vs hv0 hd S => by
    have S : St m As w := S
    obtain ⟨v0, u0, rfl, r0, hv1⟩ := RelL.cons_inv hv0
    obtain rfl := r0.u_inv
    obtain ⟨v1, u1, rfl, r1, hv2⟩ := RelL.cons_inv hv1
    obtain rfl := r1.u_inv
    obtain ⟨v2, u2, rfl, r2, hv3⟩ := RelL.cons_inv hv2
    obtain rfl := r2.u_inv
    obtain rfl := RelL.nil_inv hv3
    refine CallsR.mono (w_cyclic_ring_mul S  hm) ?_
    rintro v w' ⟨M, hle, S0, rfl⟩
    exact ⟨M, none0, _, _, _, hle, dom0 hd _, ⟨rfl, rfl, rfl⟩, fun n h => absurd rfl h, (.d (.u _)), S0⟩⟩
def m_cyclic_places_1_b1 {σ : Type} (p0 : σ → Bool → Option (Bool × σ)) (k0 : UInt64) (s1 : Int × σ) : Option ((Int × σ) ⊕ ((σ) ⊕ (UInt64 × σ))) :=
  if (decide (s1.1 ≥ 0)) = true then
    if (0 : Int) ≤ s1.1 then
      obind (p0 s1.2 (((k0 &&& (shlU 1 s1.1.toNat)).toNat : Int) != 0)) fun x4 =>
      if (!x4.1) = true then
        some (.inr (.inr (k0, x4.2)))
      else
      some (.inl ((w64 (s1.1 - 1)), x4.2))
    else none
  else
  some (.inr (.inl s1.2))
def m_cyclic_places_1 {σ : Type} (p0 : σ → Bool → Option (Bool × σ)) (k0 : UInt64) (s0 : σ) : Option (UInt64 × σ) :=
  obind (m_bits_Len64 k0) fun x1 =>
  obind (iter (m_cyclic_places_1_b1 p0 k0) FUEL ((w64 (x1 - 1)), s0)) fun x2 => match x2 with
  | .inr r => some r
  | .inl y1 =>
  some (k0, y1)
theorem w_cyclic_places_1 {m : Mem} {As : List Ow} {w : World} {σ : Type} {R : σ → Mem → List Ow → Prop} {p0 : σ → Bool → Option (Bool × σ)} {f0 : Value} {kb0 : Nat} {k0 : UInt64} {s0 : σ} {X0 : List Ow} {r : UInt64 × σ} (S : St m ((bx kb0 [vU k0] 25) :: (X0 ++ As)) w) (hup : ∀ {s M M' X}, M ≤ M' → R s M X → R s M' X) (hX0 : R s0 m X0) (cb0 : ∀ {m' : Mem} {As' : List Ow} {w' : World} {s : σ} {X : List Ow} {b0 : Bool} {r : Bool × σ}, St m' (X ++ As') w' → R s m' X → p0 s b0 = some r → CallV Tryz.prog f0 [vb b0] w' fun v w'' => ∃ (M : Mem) (X' : List Ow), m' ≤ M ∧ St M (X' ++ As') w'' ∧ R r.2 M X' ∧ v = vb r.1) (fc0 : f0.cells = #[f0]) (hm : m_cyclic_places_1 p0 k0 s0 = some r) :
    CallsR Tryz.prog 158 #[f0, pt kb0 0] w fun v w' => ∃ (M : Mem), m ≤ M ∧ ∃ (X : List Ow), St M ((bx kb0 [vU r.1] 25) :: (X ++ As)) w' ∧ v = .tuple #[] ∧ R r.2 M X := by
 unfold m_cyclic_places_1 at hm
 have L0 := Mem.rfl' m
 refine callsR (args := [f0, pt kb0 0]) func158 rfl ntmps158 (nb rfl) <| ws <| s_ld (i := 0) (cs := [vU k0]) S rfl rfl isAgg25 sizeOf25 rfl (fun _ => rfl) ?_
 obtain ⟨x1, q1, hm⟩ := obind_some hm
 refine s_call call136 (v_bits_Len64 (a0 := k0) S  q1) rfl ?_
 rintro _ w1 ⟨m1, l1, S1, rfl⟩
 replace hX0 := hup l1 hX0
 clear S
 refine s_subI (m := x1) (n := 1) rfl rfl <| s_asv (v := vI (w64 (x1 - 1))) rfl <| wpl_nil <| nrm ?_
 obtain ⟨x2, q2, hm⟩ := obind_some hm
 have L1 := Mem.rfl' m1
 refine wpc_wrap <| wpc_join [3, 7, 8, 9, 10, 11, 12, 13, 14, 15, 16, 17, 18] (fun f' w' => ∃ (M1 : Mem) (y1 : σ) (X2 : List Ow), x2 = .inl y1 ∧ m1 ≤ M1 ∧ St M1 ((bx kb0 [vU k0] 25) :: (X2 ++ As)) w' ∧ R y1 M1 X2 ∧ AllAt f' []) ?_ ?_
 · refine wpc_block <| wpc_rounds [3, 7, 8, 9, 10, 11, 12, 13, 14, 15, 16, 17, 18] (fun n1 f' w' => ∃ (s1 : Int × σ) (m11 : Mem) (X1 : List Ow), iter (m_cyclic_places_1_b1 p0 k0) n1 s1 = some x2 ∧ m1 ≤ m11 ∧ St m11 ((bx kb0 [vU k0] 25) :: (X1 ++ As)) w' ∧ R s1.2 m11 X1 ∧ AllAt f' [(3, vI s1.1)]) FUEL ⟨((w64 (x1 - 1)), s0), m1, _, q2, L1, S1, hX0, ⟨rfl, trivial⟩⟩ ?_
   rintro n1 f1 w2 ho ⟨s1, m2, X1, q3, L3, S2, h1, ha⟩
   obtain ⟨u1, rfl⟩ := fr_of (N := 19) ho ha
   clear ho ha
   have L2 := Mem.rfl' m2
   clear S1
   cases n1 with
   | zero => exact (iter_zero q3).elim
   | succ n1 =>
    obtain ⟨y2, q5, q4⟩ := iter_succ q3
    unfold m_cyclic_places_1_b1 at q5
    refine wpc_seq <| ws <| s_mvv (v := vI s1.1) rfl <| s_geq (m := s1.1) (n := 0) rfl rfl <| wpl_nil <| nrm <| wpc_if (t := (decide (s1.1 ≥ 0))) rfl (fun hc1 => ?_) (fun hc1 => ?_)
    · replace q5 := ifT hc1 q5
      refine wpc_skip <| nrm <| wpc_seq <| wpc_block <| wpc_seq ?_
      obtain ⟨q7, q5⟩ := if_some q5
      have HM : MonoAll [(11, fv f0), (12, fv (vU k0)), (13, fv (vI s1.1)), (14, fv (vU (shlU 1 s1.1.toNat))), (15, fv (vU (k0 &&& (shlU 1 s1.1.toNat)))), (16, fv (vb (((k0 &&& (shlU 1 s1.1.toNat)).toNat : Int) != 0)))] := ⟨mv, mv, mv, mv, mv, mv, trivial⟩
      refine wpc_flowG HM 6 mixed rfl rfl rfl (rg 11 6) (fun L f M w => St M ((bx kb0 [vU k0] 25) :: (X1 ++ As)) w) (St.drew S2 _) ?_ ?_
      · refine ⟨?_, ?_, ?_, ?_, ?_, ?_, trivial⟩
        · exact flp HM rfl [] (fun _ _ => trivial) (fun _ _ q => s_mvv (v := f0) rfl q) rfl
        · exact flp HM rfl [] (fun _ _ => trivial) (fun _ S4 q => s_ld (i := 0) (cs := [vU k0]) S4 rfl rfl isAgg25 sizeOf25 rfl (fun _ => rfl) q) rfl
        · exact flp HM rfl [] (fun _ _ => trivial) (fun _ _ q => s_mvv (v := vI s1.1) rfl q) rfl
        · exact flp HM rfl [(13, _)] (fun K _ => ⟨K 2 rfl, trivial⟩) (fun _ _ q => s_shlU (m := 1) (n := s1.1) rfl rfl q7 q) rfl
        · exact flp HM rfl [(12, _), (14, _)] (fun K _ => ⟨K 1 rfl, K 3 rfl, trivial⟩) (fun _ _ q => s_andU (m := k0) (n := (shlU 1 s1.1.toNat)) rfl rfl q) rfl
        · exact flp HM rfl [(15, _)] (fun K _ => ⟨K 4 rfl, trivial⟩) (fun _ _ q => s_neq (m := ((k0 &&& (shlU 1 s1.1.toNat)).toNat : Int)) (n := 0) rfl rfl q) rfl
      intro L f8 w9 hall ⟨m9, L16, S9, K, hO⟩
      have d0 : L 0 = true := hall 0 (by decide)
      have d5 : L 5 = true := hall 5 (by decide)
      obtain ⟨u8, rfl⟩ := fr_of (N := 19) (L := [(11, _), (16, _)]) hO ⟨K 0 d0, K 5 d5, trivial⟩
      replace S9 : St _ ((bx kb0 [vU k0] 25) :: (X1 ++ As)) _ := S9
      replace h1 := hup L16 h1
      clear S2
      obtain ⟨x4, q8, q5⟩ := obind_some q5
      have S10 := St.absF (L := [bx kb0 [vU k0] 25]) (X := X1) (As := As) S9
      refine s_callV rfl (cb0 S10 h1 q8) rfl ?_
      rintro _ w10 ⟨m10, X3, l2, S11, h3, rfl⟩
      replace S11 := St.absF (L := X3) (X := [bx kb0 [vU k0] 25]) (As := As) S11
      clear S10
      replace S11 : St _ ((bx kb0 [vU k0] 25) :: (X3 ++ As)) _ := S11
      clear S9
      refine s_not rfl <| wpl_nil <| nrm <| wpc_if (t := (!x4.1)) rfl (fun hc2 => ?_) (fun hc2 => ?_)
      · replace q5 := ifT hc2 q5
        refine wpc_ret <| blR <| thR <| thR <| blR <| thR <| outRw fun we hpd => ?_
        replace S11 := St.pd S11 hpd
        cases q5
        rcases q4 with ⟨sn, e, _⟩ | e
        · cases e
        cases e
        dsimp only at hm
        have e0 := Option.some.inj hm
        subst e0
        replace L0 := Mem.tr L0 l1
        replace L2 := Mem.tr L2 (mt L16 l2)
        exact outR [] rfl trivial ⟨_, (Mem.tr L0 (Mem.tr L3 L2)), _, S11, rfl, h3⟩
      replace q5 := ifF hc2 q5
      refine wpc_skip <| nrmB <| nrm <| wpc_region <| s_mvv (v := vI s1.1) rfl <| s_subI (m := s1.1) (n := 1) rfl rfl <| s_asv (v := vI (w64 (s1.1 - 1))) rfl <| wpl_nil <| nrm ?_
      have e0 := Option.some.inj q5
      subst e0
      rcases q4 with ⟨sn, e, q4'⟩ | e
      · cases e
        replace L2 := Mem.tr L2 (mt L16 l2)
        exact ⟨outP, _, Nat.lt_succ_self _, ⟨_, m10, _, q4', Mem.tr L3 L2, S11, h3, ⟨rfl, trivial⟩⟩⟩
      · cases e
    replace q5 := ifF hc1 q5
    refine wpc_exit <| thE <| thE <| exB <| nrm ?_
    have e0 := Option.some.inj q5
    subst e0
    rcases q4 with ⟨sn, e, _⟩ | e
    · cases e
    · cases e
      exact ⟨outP, m2, _, _, rfl, Mem.tr L3 L2, S2, h1, trivial⟩
 rintro f9 w11 ho ⟨m12, y1, X2, rfl, l3, S12, h2, ha⟩
 obtain ⟨u9, rfl⟩ := fr_of (N := 19) ho ha
 clear ho ha
 dsimp only at hm
 clear S1
 refine outNw fun we hpd => ?_
 replace S12 := St.pd S12 hpd
 have e0 := Option.some.inj hm
 subst e0
 replace L0 := Mem.tr L0 (mt l1 l3)
 exact outR [] rfl trivial ⟨_, L0, _, S12, rfl, h2⟩
def m_cyclic_places (a0 : UInt64) : Option UInt64 :=
  some a0
theorem w_cyclic_places {m : Mem} {As : List Ow} {w : World} {a0 : UInt64} {r : UInt64} (S : St m (As) w) (hm : m_cyclic_places a0 = some r) :
    CallsR Tryz.prog 146 #[vU a0] w fun v w' => ∃ (M : Mem), m ≤ M ∧ ∃ (rk0_0 : Nat), St M ((bx rk0_0 [vU r] 25) :: As) w' ∧ v = .func (.func 158) #[] #[pt rk0_0 0] := by
 unfold m_cyclic_places at hm
 have L0 := Mem.rfl' m
 refine callsR (args := [vU a0]) func146 rfl ntmps146 (nb rfl) <| ws <| s_box S rfl fun b1 w1 S1 => ?_
 replace S1 : St _ ((bx b1 [vU a0] 25) :: As) _ := S1
 clear S
 refine s_asv (v := .nilFunc) rfl <| nx <| s_funcC (caps := [pt b1 0]) rfl <| s_asv (v := .func (.func 158) #[] #[pt b1 0]) rfl <| wpl_nil <| nrm <| wpc_ret <| outRw fun we hpd => ?_
 replace S1 := St.pd S1 hpd
 have e0 := Option.some.inj hm
 subst e0
 exact outR [_] rfl ⟨rfl, trivial⟩ ⟨_, L0, _, S1, rfl⟩
def m_cyclic_power_b5 {σ : Type} (p0 : σ → UInt64 → UInt64 → Option (UInt64 × σ)) (a1 : UInt64) (b6 : Bool) (s1 : UInt64 × σ) : Option (UInt64 × σ) :=
  obind (p0 ((s1).2) ((s1).1) ((s1).1)) fun x3 =>
  if b6 = true then
    obind (p0 x3.2 x3.1 a1) fun x4 =>
    some (x4.1, x4.2)
  else
  some (x3.1, x3.2)
def m_cyclic_power {σ : Type} (p0 : σ → UInt64 → UInt64 → Option (UInt64 × σ)) (a1 : UInt64) (a2 : UInt64) (s0 : σ) : Option (UInt64 × σ) :=
  obind (m_cyclic_places a2) fun x1 =>
  obind (m_cyclic_places_1 (fun (s : UInt64 × σ) (b0 : Bool) => obind (m_cyclic_power_b5 p0 a1 b0 s) fun y => some (true, y)) x1 (1, s0)) fun x2 =>
  some (x2.2.1, x2.2.2)
theorem w_cyclic_power {m : Mem} {As : List Ow} {w : World} {σ : Type} {R : σ → Mem → List Ow → Prop} {p0 : σ → UInt64 → UInt64 → Option (UInt64 × σ)} {f0 : Value} {a1 : UInt64} {a2 : UInt64} {s0 : σ} {X0 : List Ow} {r : UInt64 × σ} (S : St m ((X0 ++ As)) w) (hup : ∀ {s M M' X}, M ≤ M' → R s M X → R s M' X) (hX0 : R s0 m X0) (cb0 : ∀ {m' : Mem} {As' : List Ow} {w' : World} {s : σ} {X : List Ow} {b0 : UInt64} {b1 : UInt64} {r : UInt64 × σ}, St m' (X ++ As') w' → R s m' X → p0 s b0 b1 = some r → CallV Tryz.prog f0 [vU b0, vU b1] w' fun v w'' => ∃ (M : Mem) (X' : List Ow), m' ≤ M ∧ St M (X' ++ As') w'' ∧ R r.2 M X' ∧ v = vU r.1) (fc0 : f0.cells = #[f0]) (hm : m_cyclic_power p0 a1 a2 s0 = some r) :
    CallsR Tryz.prog 129 #[f0, vU a1, vU a2] w fun v w' => ∃ (M : Mem), m ≤ M ∧ ∃ (X : List Ow), St M ((X ++ As)) w' ∧ v = vU r.1 ∧ R r.2 M X := by
 unfold m_cyclic_power at hm
 have L0 := Mem.rfl' m
 refine callsR (args := [f0, vU a1, vU a2]) func129 rfl ntmps129 (nb rfl) <| ws <| s_boxS S rfl fc0 fun b1 w1 S1 => ?_
 replace S1 : St _ ((bx b1 [f0] 143) :: (X0 ++ As)) _ := S1
 clear S
 refine s_box S1 rfl fun b2 w2 S2 => s_asv (v := vU 0) rfl <| nx <| s_alloc S2 zeroValue25 fun b3 w3 S3 => s_stL (i := 0) S3 rfl rfl rfl sizeOf25 (oneC rfl oneN) rfl fun w4 S4 => ?_
 replace S4 : St _ ((bx b3 [vU 1] 25) :: (bx b2 [vU a1] 25) :: (bx b1 [f0] 143) :: (X0 ++ As)) _ := S4
 clear S1 S2 S3
 refine wpl_nil <| nrm <| wpc_seq <| ws <| s_mvv (v := vU a2) rfl ?_
 obtain ⟨x1, q1, hm⟩ := obind_some hm
 refine s_call call146 (w_cyclic_places (a0 := a2) S4  q1) rfl ?_
 rintro _ w5 ⟨m1, l1, b4, S5, rfl⟩
 replace hX0 := hup l1 hX0
 clear S4
 refine wpl_nil <| nrm <| wpc_block ?_
 obtain ⟨x2, q2, hm⟩ := obind_some hm
 refine wpc_rangeFunc S5 rfl call158 fun lp1 rip2 w6 h1 S6 => ?_
 replace S6 : St _ ((Lp lp1 rip2 .ready none) :: (bx b4 [vU x1] 25) :: (bx b3 [vU 1] 25) :: (bx b2 [vU a1] 25) :: (bx b1 [f0] 143) :: (X0 ++ As)) _ := S6
 clear S5
 have S7 : St _ ((bx b4 [vU x1] 25) :: (Lp lp1 rip2 .ready none) :: (bx b3 [vU 1] 25) :: (bx b2 [vU a1] 25) :: (bx b1 [f0] 143) :: (X0 ++ As)) _ := St.perm S6 (List.Perm.swap _ _ _)
 clear S6
 have hcb1 : ∀ {m' : Mem} {As' : List Ow} {w' : World} {s : UInt64 × σ} {X : List Ow} {b0 : Bool} {r : Bool × (UInt64 × σ)}, St m' (X ++ As') w' → (∃ (X2 : List Ow), m1 ≤ m' ∧ X = Lp lp1 rip2 .ready none :: (bx b3 [vU ((s).1)] 25) :: (bx b2 [vU a1] 25) :: (bx b1 [f0] 143) :: X2 ∧ R ((s).2) m' X2) → (fun (s : UInt64 × σ) (b0 : Bool) => obind (m_cyclic_power_b5 p0 a1 b0 s) fun y => some (true, y)) s b0 = some r → CallV Tryz.prog (.func (.yield lp1) #[] #[]) [vb b0] w' fun v w'' => ∃ (M : Mem) (X' : List Ow), m' ≤ M ∧ St M (X' ++ As') w'' ∧ (∃ (X2 : List Ow), m1 ≤ M ∧ X' = Lp lp1 rip2 .ready none :: (bx b3 [vU ((r.2).1)] 25) :: (bx b2 [vU a1] 25) :: (bx b1 [f0] 143) :: X2 ∧ R ((r.2).2) M X2) ∧ v = vb r.1 := by
   intro m2 As1 w7 s1 X3 b6 r1 S8 h4 hm1
   obtain ⟨X4, L2, rfl, h5⟩ := h4
   obtain ⟨y1, q3, hm1⟩ := obind_some hm1
   cases hm1
   unfold m_cyclic_power_b5 at q3
   replace S8 : St _ ((Lp lp1 rip2 .ready none) :: (bx b3 [vU ((s1).1)] 25) :: (bx b2 [vU a1] 25) :: (bx b1 [f0] 143) :: (X4 ++ As1)) _ := S8
   have L1 := Mem.rfl' m2
   refine CallV.round h1 rfl S8 ?_
   refine wpc_region ?_
   refine s_asv (v := vb b6) rfl ?_
   refine wpl_nil ?_
   refine nrm ?_
   refine ⟨_, _, S8, ?_⟩
   intro w8 S9
   clear S8
   replace S9 : St _ ((Lp lp1 rip2 .busy none) :: (bx b3 [vU ((s1).1)] 25) :: (bx b2 [vU a1] 25) :: (bx b1 [f0] 143) :: (X4 ++ As1)) _ := S9
   refine wpc_block ?_
   refine wpc_seq ?_
   refine wpc_region ?_
   refine s_ld (i := 3) (cs := [f0]) S9 rfl rfl isAgg143 sizeOf143 rfl (fun _ => rfl) ?_
   refine s_ld (i := 1) (cs := [vU ((s1).1)]) S9 rfl rfl isAgg25 sizeOf25 rfl (fun _ => rfl) ?_
   refine s_ld (i := 1) (cs := [vU ((s1).1)]) S9 rfl rfl isAgg25 sizeOf25 rfl (fun _ => rfl) ?_
   obtain ⟨x3, q4, q3⟩ := obind_some q3
   have S10 := St.absF (L := [Lp lp1 rip2 .busy none, bx b3 [vU ((s1).1)] 25, bx b2 [vU a1] 25, bx b1 [f0] 143]) (X := X4) (As := As1) S9
   refine s_callV rfl (cb0 S10 h5 q4) rfl ?_
   rintro _ w9 ⟨m3, X5, l2, S11, h6, rfl⟩
   replace S11 := St.absF (L := X5) (X := [Lp lp1 rip2 .busy none, bx b3 [vU ((s1).1)] 25, bx b2 [vU a1] 25, bx b1 [f0] 143]) (As := As1) S11
   clear S10
   replace L1 := Mem.tr L1 l2
   replace S11 : St _ ((Lp lp1 rip2 .busy none) :: (bx b3 [vU ((s1).1)] 25) :: (bx b2 [vU a1] 25) :: (bx b1 [f0] 143) :: (X5 ++ As1)) _ := S11
   clear S9
   refine s_stL (i := 1) S11 rfl rfl rfl sizeOf25 (oneC rfl oneN) rfl ?_
   intro w10 S12
   replace S12 : St _ ((Lp lp1 rip2 .busy none) :: (bx b3 [vU x3.1] 25) :: (bx b2 [vU a1] 25) :: (bx b1 [f0] 143) :: (X5 ++ As1)) _ := S12
   clear S11
   refine wpl_nil ?_
   refine nrm ?_
   refine wpc_seq ?_
   refine wpc_region ?_
   refine s_mvv (v := vb b6) rfl ?_
   refine wpl_nil ?_
   refine nrm ?_
   refine wpc_if (t := b6) rfl (fun hc1 => ?_) (fun hc1 => ?_)
   · replace q3 := ifT hc1 q3
     refine wpc_region ?_
     refine s_ld (i := 3) (cs := [f0]) S12 rfl rfl isAgg143 sizeOf143 rfl (fun _ => rfl) ?_
     refine s_ld (i := 1) (cs := [vU x3.1]) S12 rfl rfl isAgg25 sizeOf25 rfl (fun _ => rfl) ?_
     refine s_ld (i := 2) (cs := [vU a1]) S12 rfl rfl isAgg25 sizeOf25 rfl (fun _ => rfl) ?_
     obtain ⟨x4, q5, q3⟩ := obind_some q3
     have S13 := St.absF (L := [Lp lp1 rip2 .busy none, bx b3 [vU x3.1] 25, bx b2 [vU a1] 25, bx b1 [f0] 143]) (X := X5) (As := As1) S12
     refine s_callV rfl (cb0 S13 h6 q5) rfl ?_
     rintro _ w11 ⟨m4, X6, l3, S14, h7, rfl⟩
     replace S14 := St.absF (L := X6) (X := [Lp lp1 rip2 .busy none, bx b3 [vU x3.1] 25, bx b2 [vU a1] 25, bx b1 [f0] 143]) (As := As1) S14
     clear S13
     replace L1 := Mem.tr L1 l3
     replace S14 : St _ ((Lp lp1 rip2 .busy none) :: (bx b3 [vU x3.1] 25) :: (bx b2 [vU a1] 25) :: (bx b1 [f0] 143) :: (X6 ++ As1)) _ := S14
     clear S12
     refine s_stL (i := 1) S14 rfl rfl rfl sizeOf25 (oneC rfl oneN) rfl ?_
     intro w12 S15
     replace S15 : St _ ((Lp lp1 rip2 .busy none) :: (bx b3 [vU x4.1] 25) :: (bx b2 [vU a1] 25) :: (bx b1 [f0] 143) :: (X6 ++ As1)) _ := S15
     clear S14
     refine wpl_nil ?_
     refine nrmB ?_
     refine ⟨_, _, S15, ?_⟩
     intro w13 S16
     have e0 := Option.some.inj q3
     subst e0
     exact ⟨_, Lp lp1 rip2 .ready none :: (bx b3 [vU x4.1] 25) :: (bx b2 [vU a1] 25) :: (bx b1 [f0] 143) :: X6, L1, S16, ⟨_, Mem.tr L2 L1, rfl, h7⟩, rfl⟩
   replace q3 := ifF hc1 q3
   refine wpc_skip ?_
   refine nrmB ?_
   refine ⟨_, _, S12, ?_⟩
   intro w14 S17
   have e0 := Option.some.inj q3
   subst e0
   exact ⟨_, Lp lp1 rip2 .ready none :: (bx b3 [vU x3.1] 25) :: (bx b2 [vU a1] 25) :: (bx b1 [f0] 143) :: X5, L1, S17, ⟨_, Mem.tr L2 L1, rfl, h6⟩, rfl⟩
 refine CallsR.mono (w_cyclic_places_1 (p0 := (fun (s : UInt64 × σ) (b0 : Bool) => obind (m_cyclic_power_b5 p0 a1 b0 s) fun y => some (true, y))) (k0 := x1) (s0 := (1, s0)) (R := (fun (s : UInt64 × σ) (M : Mem) (X : List Ow) => (∃ (X2 : List Ow), m1 ≤ M ∧ X = Lp lp1 rip2 .ready none :: (bx b3 [vU ((s).1)] 25) :: (bx b2 [vU a1] 25) :: (bx b1 [f0] 143) :: X2 ∧ R ((s).2) M X2))) (X0 := ((Lp lp1 rip2 .ready none) :: (bx b3 [vU 1] 25) :: (bx b2 [vU a1] 25) :: (bx b1 [f0] 143) :: X0)) (As := As) S7 (fun l h => by obtain ⟨X2, Lm, e, h3⟩ := h; exact ⟨_, Mem.tr Lm l, e, hup l h3⟩) ⟨_, Mem.rfl' _, rfl, hX0⟩ @hcb1 rfl q2) ?_
 rintro _ w15 ⟨m5, l4, X7, S18, rfl, ⟨X8, L3, rfl, h8⟩⟩
 have S19 : St _ ((Lp lp1 rip2 .ready none) :: (bx b4 [vU x2.1] 25) :: (bx b3 [vU x2.2.1] 25) :: (bx b2 [vU a1] 25) :: (bx b1 [f0] 143) :: (X8 ++ As)) _ := St.perm S18 (List.Perm.swap _ _ _)
 clear S18
 refine ⟨_, .ready, none, _, l4, (fun h => by cases h), S19, ?_⟩
 intro m6 w16 l5 S20
 have l6 := Mem.tr l4 l5
 replace h8 := hup l5 h8
 replace S20 : St _ ((bx b4 [vU x2.1] 25) :: (bx b3 [vU x2.2.1] 25) :: (bx b2 [vU a1] 25) :: (bx b1 [f0] 143) :: (X8 ++ As)) _ := S20
 refine nrmB <| nrm <| ws <| s_ld (i := 1) (cs := [vU x2.2.1]) S20 rfl rfl isAgg25 sizeOf25 rfl (fun _ => rfl) <| s_asv (v := vU x2.2.1) rfl <| wpl_nil <| nrm <| wpc_ret <| outRw fun we hpd => ?_
 replace S20 := St.pd S20 hpd
 obtain ⟨m7, l7, S21⟩ := St.drop S20 0
 replace h8 := hup l7 h8
 clear S20
 replace S21 : St _ ((bx b3 [vU x2.2.1] 25) :: (bx b2 [vU a1] 25) :: (bx b1 [f0] 143) :: (X8 ++ As)) _ := S21
 obtain ⟨m8, l8, S22⟩ := St.drop S21 0
 replace h8 := hup l8 h8
 clear S21
 replace S22 : St _ ((bx b2 [vU a1] 25) :: (bx b1 [f0] 143) :: (X8 ++ As)) _ := S22
 obtain ⟨m9, l9, S23⟩ := St.drop S22 0
 replace h8 := hup l9 h8
 clear S22
 replace S23 : St _ ((bx b1 [f0] 143) :: (X8 ++ As)) _ := S23
 obtain ⟨m10, l10, S24⟩ := St.drop S23 0
 replace h8 := hup l10 h8
 clear S23
 replace S24 : St _ ((X8 ++ As)) _ := S24
 have e0 := Option.some.inj hm
 subst e0
 replace L0 := Mem.tr L0 (mt l1 (mt l6 (mt l7 (mt l8 (mt l9 l10)))))
 exact outR [_] rfl ⟨rfl, trivial⟩ ⟨_, L0, _, S24, rfl, h8⟩
def m_cyclic_Pow (a0 : UInt64) (a1 : UInt64) : Option UInt64 :=
  obind (m_cyclic_power (fun (s1 : Unit) (b1 : UInt64) (b2 : UInt64) => obind (m_cyclic_ring_mul 2305843009213691579 b1 b2) fun x1 => some (x1, ())) a0 a1 ()) fun x2 =>
  some x2.1
theorem w_cyclic_Pow {m : Mem} {As : List Ow} {w : World} {a0 : UInt64} {a1 : UInt64} {r : UInt64} (S : St m (As) w) (hm : m_cyclic_Pow a0 a1 = some r) :
    CallsR Tryz.prog 105 #[vU a0, vU a1] w fun v w' => ∃ (M : Mem), m ≤ M ∧ St M (As) w' ∧ v = vU r := by
 unfold m_cyclic_Pow at hm
 have L0 := Mem.rfl' m
 refine callsR (args := [vU a0, vU a1]) func105 rfl ntmps105 (nb rfl) <| ws <| s_asv (v := vU 0) rfl <| nx <| s_funcP (pre := [vU 2305843009213691579]) (caps := []) rfl rfl <| s_mvv (v := vU a0) rfl <| s_mvv (v := vU a1) rfl ?_
 have hcb1 : ∀ {m' : Mem} {As' : List Ow} {w' : World} {s : Unit} {X : List Ow} {b0 : UInt64} {b1 : UInt64} {r : UInt64 × Unit}, St m' (X ++ As') w' → (X = []) → (fun (s1 : Unit) (b1 : UInt64) (b2 : UInt64) => obind (m_cyclic_ring_mul 2305843009213691579 b1 b2) fun x1 => some (x1, ())) s b0 b1 = some r → CallV Tryz.prog (.func (.func 118) #[vU 2305843009213691579] #[]) [vU b0, vU b1] w' fun v w'' => ∃ (M : Mem) (X' : List Ow), m' ≤ M ∧ St M (X' ++ As') w'' ∧ (X' = []) ∧ v = vU r.1 := by
   intro m1 As1 w1 s1 X1 b1 b2 r1 S1 h1 hm1
   subst h1
   replace S1 : St _ (As1) _ := S1
   have L1 := Mem.rfl' m1
   obtain ⟨x1, q1, hm1⟩ := obind_some hm1
   refine CallV.mono (CallV.clo (pre := [vU 2305843009213691579]) call118 rfl (w_cyclic_ring_mul (a0 := 2305843009213691579) (a1 := b1) (a2 := b2) S1  q1)) ?_
   rintro _ w2 ⟨m2, l1, S2, rfl⟩
   replace L1 := Mem.tr L1 l1
   clear S1
   replace S2 : St _ (As1) _ := S2
   have e0 := Option.some.inj hm1
   subst e0
   exact ⟨_, [], L1, S2, rfl, rfl⟩
 obtain ⟨x2, q2, hm⟩ := obind_some hm
 refine s_call call129 (w_cyclic_power (p0 := (fun (s1 : Unit) (b1 : UInt64) (b2 : UInt64) => obind (m_cyclic_ring_mul 2305843009213691579 b1 b2) fun x1 => some (x1, ()))) (a1 := a0) (a2 := a1) (s0 := ()) (R := (fun (s : Unit) (M : Mem) (X : List Ow) => (X = []))) (X0 := []) (As := As) S (fun {_ _ _ _} _ h => h) rfl @hcb1 rfl q2) rfl ?_
 rintro _ w3 ⟨m3, l2, X2, S3, rfl, rfl⟩
 clear S
 refine s_asv (v := vU x2.1) rfl <| wpl_nil <| nrm <| wpc_ret <| outRw fun we hpd => ?_
 replace S3 := St.pd S3 hpd
 have e0 := Option.some.inj hm
 subst e0
 replace L0 := Mem.tr L0 l2
 exact outR [_] rfl ⟨rfl, trivial⟩ ⟨_, L0, S3, rfl⟩
theorem s_cyclic_Pow {a0 : UInt64} {a1 : UInt64} {r : UInt64} (hm : m_cyclic_Pow a0 a1 = some r) : Sf prog 105 [.d (.u a0), .d (.u a1)] (.d (.u r)) :=
  ⟨call105, fun η m As w vs hv0 hd S => by
    have S : St m As w := S
    obtain ⟨v0, u0, rfl, r0, hv1⟩ := RelL.cons_inv hv0
    obtain rfl := r0.u_inv
    obtain ⟨v1, u1, rfl, r1, hv2⟩ := RelL.cons_inv hv1
    obtain rfl := r1.u_inv
    obtain rfl := RelL.nil_inv hv2
    refine CallsR.mono (w_cyclic_Pow S  hm) ?_
    rintro v w' ⟨M, hle, S0, rfl⟩
    exact ⟨M, none0, _, _, _, hle, dom0 hd _, ⟨rfl, rfl, rfl⟩, fun n h => absurd rfl h, (.d (.u _)), S0⟩⟩
def m_cyclic_Base (a0 : UInt64) : Option UInt64 :=
  obind (m_cyclic_Pow 4 a0) fun x1 =>
  some x1
theorem w_cyclic_Base {a0 : UInt64} {r : UInt64} (hm : m_cyclic_Base a0 = some r) : Sf prog 87 [.d (.u a0)] (.d (.u r)) :=
  sp call87 func87 rfl ntmps87 rfl fun D0 As η0 m0 hd => by
    unfold m_cyclic_Base at hm
    obtain ⟨x1, q1, hm⟩ := obind_some hm
    refine gc (fun _ => s_cyclic_Pow q1) (by kernel_rfl) ?_
    have e0 := Option.some.inj hm
    subst e0
    exact gend hd (by kernel_rfl)
def m_hash_put_b1 (a1 : UInt64) (s1 : (List UInt8) × Int) : Option (((List UInt8) × Int) ⊕ ((List UInt8))) :=
  if (decide (s1.2 ≥ 0)) = true then
    if (0 : Int) ≤ (w64 (8 * s1.2)) then
      obind (app 1 s1.1 ([(toB ((shrU a1 ((w64 (8 * s1.2)).toNat)).toNat : Int))] : List UInt8)) fun x4 =>
      some (.inl (x4, (w64 (s1.2 - 1))))
    else none
  else
  some (.inr s1.1)
def m_hash_put (a0 : List UInt8) (a1 : UInt64) (a2 : Int) : Option (List UInt8) :=
  obind (
    obind (iter (m_hash_put_b1 a1) FUEL (a0, (w64 (a2 - 1)))) fun x2 =>
    some x2
  ) fun x1 =>
  some x1
theorem w_hash_put {a0 : List UInt8} {a1 : UInt64} {a2 : Int} {r : List UInt8} (hm : m_hash_put a0 a1 a2 = some r) : Sp prog 108 [.ow 0, .d (.u a1), .d (.i a2)] [.row 0 1 _ eB a0] 1 (is (.ow 1) [.row 1 1 _ eB r] 2) :=
  sp call108 func108 rfl ntmps108 rfl fun D0 As η0 m0 hd => by
    unfold m_hash_put at hm
    obtain ⟨x1, q1, hm⟩ := obind_some hm
    obtain ⟨x2, q2, q1⟩ := obind_some q1
    refine gjU 0 (fun (_ : Unit) => ⟨[(0, .ow 1)], [(0, .row 1 1 _ eB x1)], [], 2⟩) (fun _ => True) (by kernel_rfl) (fun Jp bk1 => ?_) fun _ _ => ?_
    · refine gjU 0 (fun (_ : Unit) => ⟨[(0, .ow 1)], [(0, .row 1 1 _ eB x2)], [], 2⟩) (fun _ => True) (by kernel_rfl) (fun Jp bk2 => ?_) fun _ _ => ?_
      · refine gl hd (fun (p : Nat × ((List UInt8) × Int)) => let (p0, p_0, p_1) := p; ⟨[(0, .ow 1), (1, .d (.u a1)), (2, .d (.i p_1))], [(0, .row 1 1 _ eB p_0)], [], 2⟩) (fun p => iter (m_hash_put_b1 a1) p.1 p.2 = some x2) (fun p => p.1) (FUEL, (a0, (w64 (a2 - 1)))) q2 (by kernel_rfl) ?_
        rintro ⟨n1, s1⟩ q3 Jl bl1
        cases n1 with
        | zero => exact (iter_zero q3).elim
        | succ n1 =>
          obtain ⟨y1, q5, q4⟩ := iter_succ q3
          unfold m_hash_put_b1 at q5
          refine gi q5 (by kernel_rfl) (fun hc1 q5 => ?_) fun hc1 q5 => ?_
          · skip
            obtain ⟨q7, q5⟩ := if_some q5
            refine gsh (r := .u (shrU a1 ((w64 (8 * s1.2)).toNat))) (fun h => q7) (by kernel_rfl) ?_
            refine glitF (k := 1) eB ([(toB ((shrU a1 ((w64 (8 * s1.2)).toNat)).toNat : Int))] : List UInt8) (fun _ => rfl) (by kernel_rfl) ?_
            obtain ⟨x4, q8, q5⟩ := obind_some q5
            refine gapp (k := 1) (E := eB) (fun _ => rfl) q8 (by kernel_rfl) ?_
            have e0 := Option.some.inj q5
            subst e0
            rcases q4 with ⟨sn, e, q4'⟩ | e
            · have e := Sum.inl.inj e
              subst e
              exact gb bl1 hd (n1, _) ⟨q4', Nat.lt_succ_self _⟩ (by kernel_rfl)
            cases sum_lr e
          have e0 := Option.some.inj q5
          subst e0
          rcases q4 with ⟨sn, e, _⟩ | e
          · cases sum_rl e
          have e := Sum.inr.inj e
          subst e
          exact gb bk2 hd () trivial (by kernel_rfl)
      have e0 := Option.some.inj q1
      subst e0
      exact gb bk1 hd () trivial (by kernel_rfl)
    have e0 := Option.some.inj hm
    subst e0
    exact gend hd (by kernel_rfl)
def m_slices_Chunk_byte_byte_1_b1 {σ : Type} (p0 : σ → (List UInt8) → Option (Bool × σ)) (k0 : List UInt8) (k1 : Int) (s1 : Int × σ) : Option ((Int × σ) ⊕ ((σ) ⊕ ((List UInt8) × Int × σ))) :=
  if (decide (s1.1 < (k0.length : Int))) = true then
    obind (cut k0 s1.1 (k0.length : Int)) fun x3 =>
    obind (cut k0 s1.1 (w64 (s1.1 + (minI k1 (x3.length : Int))))) fun x4 =>
    obind (p0 s1.2 x4) fun x5 =>
    if (!x5.1) = true then
      some (.inr (.inr (k0, k1, x5.2)))
    else
    some (.inl ((w64 (s1.1 + k1)), x5.2))
  else
  some (.inr (.inl s1.2))
def m_slices_Chunk_byte_byte_1 {σ : Type} (p0 : σ → (List UInt8) → Option (Bool × σ)) (k0 : List UInt8) (k1 : Int) (s0 : σ) : Option ((List UInt8) × Int × σ) :=
  obind (iter (m_slices_Chunk_byte_byte_1_b1 p0 k0 k1) FUEL (0, s0)) fun x1 => match x1 with
  | .inr r => some r
  | .inl y1 =>
  some (k0, k1, y1)
theorem w_slices_Chunk_byte_byte_1 {m : Mem} {As : List Ow} {w : World} {σ : Type} {R : σ → Mem → List Ow → Prop} {p0 : σ → (List UInt8) → Option (Bool × σ)} {f0 : Value} {kb0 : Nat} {k0 : List UInt8} {k0v0 : Value} {kb1 : Nat} {k1 : Int} {s0 : σ} {X0 : List Ow} {r : (List UInt8) × Int × σ} (S : St m ((bx kb0 [k0v0] 68) :: (bx kb1 [vI k1] 3) :: (X0 ++ As)) w) (hup : ∀ {s M M' X}, M ≤ M' → R s M X → R s M' X) (hX0 : R s0 m X0) (cb0 : ∀ {m' : Mem} {As' : List Ow} {w' : World} {s : σ} {X : List Ow} {b0 : List UInt8} {b0v0 : Value} {r : Bool × σ}, St m' (X ++ As') w' → R s m' X → SlR m' b0v0 b0 → p0 s b0 = some r → CallV Tryz.prog f0 [b0v0] w' fun v w'' => ∃ (M : Mem) (X' : List Ow), m' ≤ M ∧ St M (X' ++ As') w'' ∧ R r.2 M X' ∧ v = vb r.1) (fc0 : f0.cells = #[f0]) (k0h0 : SlR m k0v0 k0) (hm : m_slices_Chunk_byte_byte_1 p0 k0 k1 s0 = some r) :
    CallsR Tryz.prog 159 #[f0, pt kb0 0, pt kb1 0] w fun v w' => ∃ (M : Mem), m ≤ M ∧ ∃ (rb0_0 : Value) (X : List Ow), St M ((bx kb0 [rb0_0] 68) :: (bx kb1 [vI r.2.1] 3) :: (X ++ As)) w' ∧ v = .tuple #[] ∧ SlR M rb0_0 r.1 ∧ R r.2.2 M X := by
 unfold m_slices_Chunk_byte_byte_1 at hm
 have L0 := Mem.rfl' m
 refine callsR (args := [f0, pt kb0 0, pt kb1 0]) func159 rfl ntmps159 (nb rfl) <| ws <| s_asv (v := vI 0) rfl <| wpl_nil <| nrm ?_
 obtain ⟨x1, q1, hm⟩ := obind_some hm
 have L1 := Mem.rfl' m
 refine wpc_wrap <| wpc_join (rg 4 27) (fun f' w' => ∃ (M1 : Mem) (y1 : σ) (X2 : List Ow), x1 = .inl y1 ∧ m ≤ M1 ∧ St M1 ((bx kb0 [k0v0] 68) :: (bx kb1 [vI k1] 3) :: (X2 ++ As)) w' ∧ R y1 M1 X2 ∧ AllAt f' []) ?_ ?_
 · refine wpc_block <| wpc_rounds (rg 4 27) (fun n1 f' w' => ∃ (s1 : Int × σ) (m9 : Mem) (X1 : List Ow), iter (m_slices_Chunk_byte_byte_1_b1 p0 k0 k1) n1 s1 = some x1 ∧ m ≤ m9 ∧ St m9 ((bx kb0 [k0v0] 68) :: (bx kb1 [vI k1] 3) :: (X1 ++ As)) w' ∧ R s1.2 m9 X1 ∧ AllAt f' [(4, vI s1.1)]) FUEL ⟨(0, s0), m, _, q1, L1, S, hX0, ⟨rfl, trivial⟩⟩ ?_
   rintro n1 f1 w1 ho ⟨s1, m1, X1, q2, L3, S1, h1, ha⟩
   obtain ⟨u1, rfl⟩ := fr_of (N := 31) ho ha
   clear ho ha
   have L2 := Mem.rfl' m1
   clear S
   cases n1 with
   | zero => exact (iter_zero q2).elim
   | succ n1 =>
    obtain ⟨y2, q4, q3⟩ := iter_succ q2
    unfold m_slices_Chunk_byte_byte_1_b1 at q4
    refine wpc_seq <| ws <| s_mvv (v := vI s1.1) rfl <| s_ld (i := 0) (cs := [k0v0]) S1 rfl rfl isAgg68 sizeOf68 rfl (fun _ => rfl) <| s_lenR (xs := k0) rfl (k0h0.up L3) underlying68 <| s_lss (m := s1.1) (n := (k0.length : Int)) rfl rfl <| wpl_nil <| nrm <| wpc_if (t := (decide (s1.1 < (k0.length : Int)))) rfl (fun hc1 => ?_) (fun hc1 => ?_)
    · replace q4 := ifT hc1 q4
      refine wpc_skip <| nrm <| wpc_seq <| wpc_block <| wpc_seq ?_
      obtain ⟨x3, q6, q4⟩ := obind_some q4
      have HM : MonoAll [(13, fv (vI k1)), (14, fv k0v0), (15, fv (vI s1.1)), (16, fun (M : Mem) (v : Value) => ∃ (v1 : Value), v = v1 ∧ SlR M v1 x3), (17, fv (vI (x3.length : Int)))] := ⟨mv, mv, mv, (fun _ _ _ l ⟨v1, e, h3⟩ => ⟨v1, e, h3.up l⟩), mv, trivial⟩
      refine wpc_flowG HM 5 mixed rfl rfl rfl (rg 13 5) (fun L f M w => St M ((bx kb0 [k0v0] 68) :: (bx kb1 [vI k1] 3) :: (X1 ++ As)) w) (St.drew S1 _) ?_ ?_
      · refine ⟨?_, ?_, ?_, ?_, ?_, trivial⟩
        · exact flp HM rfl [] (fun _ _ => trivial) (fun _ S2 q => s_ld (i := 1) (cs := [vI k1]) S2 rfl rfl isAgg3 sizeOf3 rfl (fun _ => rfl) q) rfl
        · exact flp HM rfl [] (fun _ _ => trivial) (fun _ S3 q => s_ld (i := 0) (cs := [k0v0]) S3 rfl rfl isAgg68 sizeOf68 rfl (fun _ => rfl) q) rfl
        · exact flp HM rfl [] (fun _ _ => trivial) (fun _ _ q => s_mvv (v := vI s1.1) rfl q) rfl
        · intro L f5 w5 hL hd hc ⟨m5, L10, S5, K, hO⟩
          obtain ⟨u5, rfl⟩ := fr_of (N := 31) (L := [(14, _), (15, _)]) hO ⟨K 1 (dep hd rfl), K 2 (dep hd rfl), trivial⟩
          replace h1 := hup L10 h1
          replace k0h0 := k0h0.up (mt L3 L10)
          exact s_cut (ys := x3) (l := s1.1) (h := (k0.length : Int)) rfl k0h0 underlying68 sizeOf5 (.inr ⟨_, rfl⟩) (.inl ⟨rfl, rfl⟩) (.inl rfl) q6 fun v1 h3 => oS HM L10 S5 rfl K rfl rfl ⟨v1, rfl, h3⟩ outP
        · intro L f6 w6 hL hd hc ⟨m6, L12, S6, K, hO⟩
          obtain ⟨v2, e3, h4⟩ := K 3 (dep hd rfl)
          obtain ⟨u6, rfl⟩ := fr_of (N := 31) (L := [(16, _)]) hO ⟨e3, trivial⟩
          replace h1 := hup L12 h1
          exact s_lenR (xs := x3) rfl h4 underlying68 <| oS HM L12 S6 rfl K rfl rfl rfl outP
      intro L f7 w7 hall ⟨m7, L14, S7, K, hO⟩
      have d0 : L 0 = true := hall 0 (by decide)
      have d4 : L 4 = true := hall 4 (by decide)
      obtain ⟨u7, rfl⟩ := fr_of (N := 31) (L := [(13, _), (17, _)]) hO ⟨K 0 d0, K 4 d4, trivial⟩
      replace S7 : St _ ((bx kb0 [k0v0] 68) :: (bx kb1 [vI k1] 3) :: (X1 ++ As)) _ := S7
      replace h1 := hup L14 h1
      clear S1
      refine s_minI rfl rfl <| s_asv (v := vI (minI k1 (x3.length : Int))) rfl <| nx <| s_mvv (v := f0) rfl <| s_ld (i := 0) (cs := [k0v0]) S7 rfl rfl isAgg68 sizeOf68 rfl (fun _ => rfl) <| s_mvv (v := vI s1.1) rfl <| s_mvv (v := vI s1.1) rfl <| s_mvv (v := vI (minI k1 (x3.length : Int))) rfl <| s_addI (m := s1.1) (n := (minI k1 (x3.length : Int))) rfl rfl <| s_mvv (v := vI s1.1) rfl <| s_mvv (v := vI (minI k1 (x3.length : Int))) rfl <| s_addI (m := s1.1) (n := (minI k1 (x3.length : Int))) rfl rfl ?_
      obtain ⟨x4, q7, q4⟩ := obind_some q4
      replace k0h0 := k0h0.up (mt L3 L14)
      refine s_cut (ys := x4) (l := s1.1) (h := (w64 (s1.1 + (minI k1 (x3.length : Int))))) rfl k0h0 underlying68 sizeOf5 (.inr ⟨_, rfl⟩) (.inr ⟨_, rfl⟩) (.inr ⟨(fun h => by cases h), _, rfl⟩) q7 fun v3 h5 => ?_
      obtain ⟨x5, q8, q4⟩ := obind_some q4
      have S8 := St.absF (L := [bx kb0 [k0v0] 68, bx kb1 [vI k1] 3]) (X := X1) (As := As) S7
      refine s_callV rfl (cb0 S8 h1 h5 q8) rfl ?_
      rintro _ w8 ⟨m8, X3, l1, S9, h6, rfl⟩
      replace S9 := St.absF (L := X3) (X := [bx kb0 [k0v0] 68, bx kb1 [vI k1] 3]) (As := As) S9
      clear S8
      replace S9 : St _ ((bx kb0 [k0v0] 68) :: (bx kb1 [vI k1] 3) :: (X3 ++ As)) _ := S9
      clear S7
      refine s_not rfl <| wpl_nil <| nrm <| wpc_if (t := (!x5.1)) rfl (fun hc2 => ?_) (fun hc2 => ?_)
      · replace q4 := ifT hc2 q4
        refine wpc_ret <| blR <| thR <| thR <| blR <| thR <| outRw fun we hpd => ?_
        replace S9 := St.pd S9 hpd
        cases q4
        rcases q3 with ⟨sn, e, _⟩ | e
        · cases e
        cases e
        dsimp only at hm
        have e0 := Option.some.inj hm
        subst e0
        replace L2 := Mem.tr L2 (mt L14 l1)
        exact outR [] rfl trivial ⟨_, (Mem.tr L0 (Mem.tr L3 L2)), _, _, S9, rfl, (k0h0.up l1), h6⟩
      replace q4 := ifF hc2 q4
      refine wpc_skip <| nrmB <| nrm <| wpc_region <| s_mvv (v := vI s1.1) rfl <| s_ld (i := 1) (cs := [vI k1]) S9 rfl rfl isAgg3 sizeOf3 rfl (fun _ => rfl) <| s_addI (m := s1.1) (n := k1) rfl rfl <| s_asv (v := vI (w64 (s1.1 + k1))) rfl <| wpl_nil <| nrm ?_
      have e0 := Option.some.inj q4
      subst e0
      rcases q3 with ⟨sn, e, q3'⟩ | e
      · cases e
        replace L2 := Mem.tr L2 (mt L14 l1)
        exact ⟨outP, _, Nat.lt_succ_self _, ⟨_, m8, _, q3', Mem.tr L3 L2, S9, h6, ⟨rfl, trivial⟩⟩⟩
      · cases e
    replace q4 := ifF hc1 q4
    refine wpc_exit <| thE <| thE <| exB <| nrm ?_
    have e0 := Option.some.inj q4
    subst e0
    rcases q3 with ⟨sn, e, _⟩ | e
    · cases e
    · cases e
      exact ⟨outP, m1, _, _, rfl, Mem.tr L3 L2, S1, h1, trivial⟩
 rintro f8 w9 ho ⟨m10, y1, X2, rfl, l2, S10, h2, ha⟩
 obtain ⟨u8, rfl⟩ := fr_of (N := 31) ho ha
 clear ho ha
 dsimp only at hm
 clear S
 refine outNw fun we hpd => ?_
 replace S10 := St.pd S10 hpd
 have e0 := Option.some.inj hm
 subst e0
 replace L0 := Mem.tr L0 l2
 exact outR [] rfl trivial ⟨_, L0, _, _, S10, rfl, (k0h0.up l2), h2⟩
def m_slices_Chunk_byte_byte (a0 : List UInt8) (a1 : Int) : Option ((List UInt8) × Int) :=
  obind (
    if (decide (a1 < 1)) = true then
      none
    else
    some ()
  ) fun x1 =>
  some (a0, a1)
theorem w_slices_Chunk_byte_byte {m : Mem} {As : List Ow} {w : World} {a0 : List UInt8} {a0v0 : Value} {a1 : Int} {r : (List UInt8) × Int} (S : St m (As) w) (a0h0 : SlR m a0v0 a0) (hm : m_slices_Chunk_byte_byte a0 a1 = some r) :
    CallsR Tryz.prog 148 #[a0v0, vI a1] w fun v w' => ∃ (M : Mem), m ≤ M ∧ ∃ (rk0_0 : Nat) (rc0_0_0 : Value) (rk0_1 : Nat), St M ((bx rk0_0 [rc0_0_0] 68) :: (bx rk0_1 [vI r.2] 3) :: As) w' ∧ v = .func (.func 159) #[] #[pt rk0_0 0, pt rk0_1 0] ∧ SlR M rc0_0_0 r.1 := by
 unfold m_slices_Chunk_byte_byte at hm
 have L0 := Mem.rfl' m
 refine callsR (args := [a0v0, vI a1]) func148 rfl ntmps148 (nb rfl) <| ws <| s_boxS S rfl (SlR.cells a0h0) fun b1 w1 S1 => ?_
 replace S1 : St _ ((bx b1 [a0v0] 68) :: As) _ := S1
 clear S
 refine s_box S1 rfl fun b2 w2 S2 => ?_
 replace S2 : St _ ((bx b2 [vI a1] 3) :: (bx b1 [a0v0] 68) :: As) _ := S2
 clear S1
 refine s_asv (v := .nilFunc) rfl <| wpl_nil <| nrm ?_
 obtain ⟨x1, q1, hm⟩ := obind_some hm
 have L1 := Mem.rfl' m
 refine wpc_seq <| wpc_join [5, 6, 7] (fun f' w' => ∃ (M1 : Mem), m ≤ M1 ∧ St M1 ((bx b2 [vI a1] 3) :: (bx b1 [a0v0] 68) :: As) w' ∧ AllAt f' []) ?_ ?_
 · refine ws <| s_ld (i := 0) (cs := [vI a1]) S2 rfl rfl isAgg3 sizeOf3 rfl (fun _ => rfl) <| s_lss (m := a1) (n := 1) rfl rfl <| wpl_nil <| nrm <| wpc_if (t := (decide (a1 < 1))) rfl (fun hc1 => ?_) (fun hc1 => ?_)
   · replace q1 := ifT hc1 q1
     cases q1
   replace q1 := ifF hc1 q1
   refine wpc_skip <| nrm ?_
   have e0 := Option.some.inj q1
   subst e0
   exact ⟨outP, m, L1, S2, trivial⟩
 rintro f1 w3 ho ⟨m1, l1, S3, ha⟩
 obtain ⟨u1, rfl⟩ := fr_of (N := 9) ho ha
 clear S2
 refine ws <| s_funcC (caps := [pt b1 0, pt b2 0]) rfl <| s_asv (v := .func (.func 159) #[] #[pt b1 0, pt b2 0]) rfl <| wpl_nil <| nrm <| wpc_ret <| outRw fun we hpd => ?_
 replace S3 := St.pd S3 hpd
 have S4 : St _ ((bx b1 [a0v0] 68) :: (bx b2 [vI a1] 3) :: As) _ := St.perm S3 (List.Perm.swap _ _ _)
 have e0 := Option.some.inj hm
 subst e0
 replace L0 := Mem.tr L0 l1
 exact outR [_] rfl ⟨rfl, trivial⟩ ⟨_, L0, _, _, _, S4, rfl, (a0h0.up l1)⟩
def m_field_Of_b6 (b5 : List UInt8) (i1 : Int) (s2 : UInt64) : Option (UInt64) :=
  obind (idx b5 (i1 : Int)) fun x6 =>
  if (0 : Int) ≤ (w64 (8 * (i1 : Int))) then
    bnd ((s2 ||| (shlU (toU (x6.toNat : Int)) ((w64 (8 * (i1 : Int))).toNat)))) fun x7 =>
    some x7
  else none
def m_field_Of_b4 (b5 : List UInt8) (s1 : (List UInt64)) : Option ((List UInt64)) :=
  obind (
    obind (eachN0 (m_field_Of_b6 b5) b5.length 0 0) fun x4 =>
    some x4
  ) fun x3 =>
  obind (app 8 s1 ([x3] : List UInt64)) fun x8 =>
  some x8
def m_field_Of (a0 : List UInt8) : Option (List UInt64) :=
  obind (m_slices_Chunk_byte_byte a0 7) fun x1 =>
  obind (m_slices_Chunk_byte_byte_1 (fun (s : (List UInt64)) (b0 : List UInt8) => obind (m_field_Of_b4 b0 s) fun y => some (true, y)) x1.1 x1.2 ([] : List UInt64)) fun x2 =>
  some x2.2.2
theorem w_field_Of {m : Mem} {As : List Ow} {w : World} {a0 : List UInt8} {a0v0 : Value} {r : List UInt64} (S : St m (As) w) (a0h0 : SlR m a0v0 a0) (hm : m_field_Of a0 = some r) :
    CallsR Tryz.prog 137 #[a0v0] w fun v w' => ∃ (M : Mem), m ≤ M ∧ ∃ (rv0 : Value) (rc0 : List Value), St M ((row 1 rv0 rc0 r.length) :: As) w' ∧ v = rv0 ∧ RepL M rc0 r := by
 unfold m_field_Of at hm
 have L0 := Mem.rfl' m
 refine callsR (args := [a0v0]) func137 rfl ntmps137 (nb rfl) <| ws <| s_asv (v := .slice none 0 0) rfl <| nx <| s_alloc S zeroValue117 fun b1 w1 S1 => ?_
 replace S1 : St _ ((bx b1 [.slice none 0 0] 117) :: As) _ := S1
 clear S
 refine wpl_nil <| nrm <| wpc_seq <| ws <| s_mvv (v := a0v0) rfl ?_
 obtain ⟨x1, q1, hm⟩ := obind_some hm
 refine s_call call148 (w_slices_Chunk_byte_byte (a0 := a0) (a1 := 7) S1 a0h0 q1) rfl ?_
 rintro _ w2 ⟨m1, l1, b2, v1, b3, S2, rfl, h1⟩
 clear S1
 refine wpl_nil <| nrm <| wpc_block ?_
 obtain ⟨x2, q2, hm⟩ := obind_some hm
 refine wpc_rangeFunc S2 rfl call159 fun lp1 rip2 w3 h2 S3 => ?_
 replace S3 : St _ ((Lp lp1 rip2 .ready none) :: (bx b2 [v1] 68) :: (bx b3 [vI x1.2] 3) :: (bx b1 [.slice none 0 0] 117) :: As) _ := S3
 clear S2
 have S4 := St.rowNil S3 1
 have h4 : RepL m1 [] ([] : List UInt64) := RepL.nil
 replace S4 : St _ ((row 1 (.slice none 0 0) [] ([] : List UInt64).length) :: (Lp lp1 rip2 .ready none) :: (bx b2 [v1] 68) :: (bx b3 [vI x1.2] 3) :: (bx b1 [.slice none 0 0] 117) :: As) _ := S4
 clear S3
 have S5 : St _ ((bx b2 [v1] 68) :: (bx b3 [vI x1.2] 3) :: (Lp lp1 rip2 .ready none) :: (row 1 (.slice none 0 0) [] ([] : List UInt64).length) :: (bx b1 [(.slice none 0 0)] 117) :: As) _ := St.perm S4 (List.Perm.trans (List.Perm.cons _ (List.Perm.swap _ _ _)) (List.Perm.trans (List.Perm.swap _ _ _) (List.Perm.trans (List.Perm.cons _ (List.Perm.cons _ (List.Perm.swap _ _ _))) (List.Perm.trans (List.Perm.cons _ (List.Perm.swap _ _ _)) (List.Perm.cons _ (List.Perm.cons _ (List.Perm.swap _ _ _)))))))
 clear S4
 have hcb1 : ∀ {m' : Mem} {As' : List Ow} {w' : World} {s : (List UInt64)} {X : List Ow} {b0 : List UInt8} {b0v0 : Value} {r : Bool × (List UInt64)}, St m' (X ++ As') w' → (∃ (v3 : Value) (c2 : List Value), m1 ≤ m' ∧ X = Lp lp1 rip2 .ready none :: (row 1 v3 c2 (s).length) :: (bx b1 [v3] 117) :: [] ∧ RepL m' c2 (s)) → SlR m' b0v0 b0 → (fun (s : (List UInt64)) (b0 : List UInt8) => obind (m_field_Of_b4 b0 s) fun y => some (true, y)) s b0 = some r → CallV Tryz.prog (.func (.yield lp1) #[] #[]) [b0v0] w' fun v w'' => ∃ (M : Mem) (X' : List Ow), m' ≤ M ∧ St M (X' ++ As') w'' ∧ (∃ (v3 : Value) (c2 : List Value), m1 ≤ M ∧ X' = Lp lp1 rip2 .ready none :: (row 1 v3 c2 (r.2).length) :: (bx b1 [v3] 117) :: [] ∧ RepL M c2 (r.2)) ∧ v = vb r.1 := by
   intro m2 As1 w4 s1 X1 b5 v4 r4 S6 h6 h7 hm1
   obtain ⟨v5, c3, L2, rfl, h8⟩ := h6
   obtain ⟨y1, q3, hm1⟩ := obind_some hm1
   cases hm1
   unfold m_field_Of_b4 at q3
   replace S6 : St _ ((Lp lp1 rip2 .ready none) :: (row 1 v5 c3 s1.length) :: (bx b1 [v5] 117) :: As1) _ := S6
   have L1 := Mem.rfl' m2
   refine CallV.round h2 rfl S6 ?_
   refine wpc_region ?_
   refine s_asv (v := v4) rfl ?_
   refine wpl_nil ?_
   refine nrm ?_
   refine ⟨_, _, S6, ?_⟩
   intro w5 S7
   clear S6
   replace S7 : St _ ((Lp lp1 rip2 .busy none) :: (row 1 v5 c3 s1.length) :: (bx b1 [v5] 117) :: As1) _ := S7
   refine wpc_block ?_
   refine wpc_seq ?_
   refine wpc_region ?_
   refine s_asv (v := vU 0) rfl ?_
   refine wpl_nil ?_
   refine nrm ?_
   obtain ⟨x3, q4, q3⟩ := obind_some q3
   have L3 := Mem.rfl' m2
   refine wpc_seq ?_
   refine wpc_join [5, 6, 7, 11, 12, 13, 14, 15, 16, 17, 18, 19, 20, 21, 22, 23, 24, 25] (fun f' w' => ∃ (M1 : Mem), m2 ≤ M1 ∧ St M1 ((Lp lp1 rip2 .busy none) :: (row 1 v5 c3 s1.length) :: (bx b1 [v5] 117) :: As1) w' ∧ AllAt f' [(5, vU x3)]) ?_ ?_
   · refine wpc_seq ?_
     refine wpc_region ?_
     refine s_mvv (v := v4) rfl ?_
     refine s_lenR (xs := b5) rfl h7 underlying68 ?_
     refine s_mvv (v := vI 0) rfl ?_
     refine wpl_nil ?_
     refine nrm ?_
     obtain ⟨x4, q5, q4⟩ := obind_some q4
     have L4 := Mem.rfl' m2
     refine wpc_join [5, 6, 7, 13, 14, 15, 16, 17, 18, 19, 20, 21, 22, 23, 24, 25] (fun f' w' => ∃ (M2 : Mem), m2 ≤ M2 ∧ St M2 ((Lp lp1 rip2 .busy none) :: (row 1 v5 c3 s1.length) :: (bx b1 [v5] 117) :: As1) w' ∧ AllAt f' [(5, vU x4)]) ?_ ?_
     · refine wpc_block ?_
       refine wpc_rounds [5, 6, 7, 13, 14, 15, 16, 17, 18, 19, 20, 21, 22, 23, 24, 25] (fun n1 f' w' => ∃ (i1 : Nat) (s2 : UInt64) (m4 : Mem), n1 = b5.length - i1 ∧ i1 ≤ b5.length ∧ eachN0 (m_field_Of_b6 b5) (b5.length - i1) (i1 : Int) s2 = some x4 ∧ m2 ≤ m4 ∧ St m4 ((Lp lp1 rip2 .busy none) :: (row 1 v5 c3 s1.length) :: (bx b1 [v5] 117) :: As1) w' ∧ AllAt f' [(13, vI (i1 : Int)), (5, vU s2)]) b5.length ⟨0, 0, m2, rfl, Nat.zero_le _, q5, L4, S7, ⟨rfl, rfl, trivial⟩⟩ ?_
       rintro n1 f1 w6 ho ⟨i1, s2, m3, hn, hi, q6, L6, S8, ha⟩
       obtain ⟨u1, rfl⟩ := fr_of (N := 31) ho ha
       clear ho ha
       replace h7 := h7.up L6
       replace h8 := RepL.up L6 h8
       have L5 := Mem.rfl' m3
       clear S7
       refine wpc_seq ?_
       refine wpc_region ?_
       refine s_lss (m := (i1 : Int)) (n := (b5.length : Int)) rfl rfl ?_
       refine wpl_nil ?_
       refine nrm ?_
       refine wpc_seq ?_
       refine wpc_if (t := decide ((i1 : Int) < (b5.length : Int))) rfl (fun hc1 => ?_) (fun hc1 => ?_)
       · have hlt1 : i1 < b5.length := by have := of_decide_eq_true hc1; omega
         obtain ⟨y2, q8, q7⟩ := eachN0_in q6 hlt1
         unfold m_field_Of_b6 at q8
         refine wpc_skip ?_
         refine nrm ?_
         refine wpc_seq ?_
         refine wpc_block ?_
         refine wpc_seq ?_
         refine wpc_region ?_
         refine s_mvv (v := vI (i1 : Int)) rfl ?_
         obtain ⟨x6, q10, q8⟩ := obind_some q8
         refine s_idx (q := x6) rfl rfl h7 q10 underlying68 sizeOf5 ?_
         intro p3 c4 h9 r5
         obtain rfl : c4 = [vB x6] := r5
         refine s_ldM (cs := [vB x6]) S8 rfl h9 rfl isAgg5 sizeOf5 (fun _ => rfl) ?_
         refine s_asv (v := vI (i1 : Int)) rfl ?_
         refine s_asv (v := vB x6) rfl ?_
         refine wpl_nil ?_
         refine nrm ?_
         refine wpc_region ?_
         refine s_mvv (v := vU s2) rfl ?_
         refine s_mvv (v := vB x6) rfl ?_
         refine s_convU rfl underlying5 underlying25 ?_
         refine s_mvv (v := vI (i1 : Int)) rfl ?_
         refine s_mulI (m := 8) (n := (i1 : Int)) rfl rfl ?_
         obtain ⟨q11, q8⟩ := if_some q8
         refine s_shlU (m := (toU (x6.toNat : Int))) (n := (w64 (8 * (i1 : Int)))) rfl rfl q11 ?_
         refine s_orU (m := s2) (n := (shlU (toU (x6.toNat : Int)) ((w64 (8 * (i1 : Int))).toNat))) rfl rfl ?_
         obtain ⟨x7, q12, q8⟩ := bnd_eq q8
         refine s_asv (v := vU x7) (congrArg (fun z => vU z) q12.symm) ?_
         refine wpl_nil ?_
         refine nrmB ?_
         refine nrm ?_
         refine wpc_region ?_
         refine s_addI (m := (i1 : Int)) (n := 1) rfl rfl ?_
         refine s_mvv (v := vI (w64 ((i1 : Int) + 1))) rfl ?_
         refine wpl_nil ?_
         refine nrm ?_
         have e0 := Option.some.inj q8
         subst e0
         exact ⟨outP, _, (by omega), ⟨i1 + 1, x7, m3, rfl, hlt1, q7, Mem.tr L6 L5, S8, ⟨congrArg (Value.int .i64) (w64_succ hlt1 (SlR.le h7)), rfl, trivial⟩⟩⟩
       have hlt1 : ¬ i1 < b5.length := by have := of_decide_eq_false hc1; omega
       have e := Eq.symm (eachN0_out q6 hlt1)
       subst e
       refine wpc_exit ?_
       refine thE ?_
       refine thE ?_
       refine exB ?_
       refine nrm ?_
       exact ⟨outP, m3, Mem.tr L6 L5, S8, ⟨rfl, trivial⟩⟩
     rintro f2 w7 ho ⟨m5, l2, S9, ha⟩
     obtain ⟨u2, rfl⟩ := fr_of (N := 31) ho ha
     clear ho ha
     replace h8 := RepL.up l2 h8
     replace L3 := Mem.tr L3 l2
     clear S7
     have e0 := Option.some.inj q4
     subst e0
     exact ⟨outP, m5, L3, S9, ⟨rfl, trivial⟩⟩
   rintro f3 w8 ho ⟨m6, l3, S10, ha⟩
   obtain ⟨u3, rfl⟩ := fr_of (N := 31) ho ha
   replace h8 := RepL.up l3 h8
   replace L1 := Mem.tr L1 l3
   clear S7
   refine wpc_region ?_
   refine s_ld (i := 2) (cs := [v5]) S10 rfl rfl isAgg117 sizeOf117 rfl (fun _ => rfl) ?_
   refine s_mvv (v := vU x3) rfl ?_
   refine s_litC (parts := [.tmp 27]) (vs := [vU x3]) (cls := [[vU x3]]) (xs := ([x3] : List UInt64)) (n := 1) S10 underlying117 sizeOf25 zeroValue25 rfl ⟨rfl, trivial⟩ (RepL.cons (c := [vU x3]) (x := x3) rfl RepL.nil) rfl rfl rfl (by decide) (by decide) ?_
   intro v6 m7 w9 l4 S11 h10
   replace h8 := RepL.up l4 h8
   replace L1 := Mem.tr L1 l4
   clear S10
   obtain ⟨x8, q13, q3⟩ := obind_some q3
   refine s_app (i := 1) (zs := x8) (bytes := 8) (ti := Tryz.t25) S11 rfl rfl h8 rfl rfl h10 q13 underlying117 type25 rfl rfl rfl rfl ?_
   intro v7 c5 w10 S12 h11
   replace S12 : St _ ((Lp lp1 rip2 .busy none) :: (row 1 v7 c5 x8.length) :: (bx b1 [v5] 117) :: As1) _ := S12
   clear S11
   refine s_stS (i := 2) S12 rfl rfl rfl sizeOf117 (St.rowCells (i := 1) S12 rfl) rfl ?_
   intro w11 S13
   replace S13 : St _ ((Lp lp1 rip2 .busy none) :: (row 1 v7 c5 x8.length) :: (bx b1 [v7] 117) :: As1) _ := S13
   clear S12
   refine wpl_nil ?_
   refine nrmB ?_
   have S14 : St _ ((row 1 v7 c5 x8.length) :: (Lp lp1 rip2 .busy none) :: (bx b1 [v7] 117) :: As1) _ := St.perm S13 (List.Perm.swap _ _ _)
   clear S13
   have S15 : St _ ((Lp lp1 rip2 .busy none) :: (row 1 v7 c5 x8.length) :: (bx b1 [v7] 117) :: As1) _ := St.perm S14 (List.Perm.swap _ _ _)
   clear S14
   refine ⟨_, _, S15, ?_⟩
   intro w12 S16
   have e0 := Option.some.inj q3
   subst e0
   exact ⟨_, Lp lp1 rip2 .ready none :: (row 1 v7 c5 x8.length) :: (bx b1 [v7] 117) :: [], L1, S16, ⟨_, _, Mem.tr L2 L1, rfl, h11⟩, rfl⟩
 refine CallsR.mono (w_slices_Chunk_byte_byte_1 (p0 := (fun (s : (List UInt64)) (b0 : List UInt8) => obind (m_field_Of_b4 b0 s) fun y => some (true, y))) (k0 := x1.1) (k1 := x1.2) (s0 := ([] : List UInt64)) (R := (fun (s : (List UInt64)) (M : Mem) (X : List Ow) => (∃ (v3 : Value) (c2 : List Value), m1 ≤ M ∧ X = Lp lp1 rip2 .ready none :: (row 1 v3 c2 (s).length) :: (bx b1 [v3] 117) :: [] ∧ RepL M c2 (s)))) (X0 := ((Lp lp1 rip2 .ready none) :: (row 1 (.slice none 0 0) [] ([] : List UInt64).length) :: (bx b1 [(.slice none 0 0)] 117) :: [])) (As := As) S5 (fun l h => by obtain ⟨v3, c2, Lm, e, h5⟩ := h; exact ⟨_, _, Mem.tr Lm l, e, RepL.up l h5⟩) ⟨_, _, Mem.rfl' _, rfl, h4⟩ @hcb1 rfl h1 q2) ?_
 rintro _ w13 ⟨m8, l5, v8, X2, S17, rfl, h12, ⟨v9, c6, L7, rfl, h13⟩⟩
 have S18 : St _ ((Lp lp1 rip2 .ready none) :: (bx b2 [v8] 68) :: (bx b3 [vI x2.2.1] 3) :: (row 1 v9 c6 x2.2.2.length) :: (bx b1 [v9] 117) :: As) _ := St.perm S17 (List.Perm.trans (List.Perm.cons _ (List.Perm.swap _ _ _)) (List.Perm.swap _ _ _))
 clear S17
 refine ⟨_, .ready, none, _, l5, (fun h => by cases h), S18, ?_⟩
 intro m9 w14 l6 S19
 have l7 := Mem.tr l5 l6
 replace S19 : St _ ((bx b2 [v8] 68) :: (bx b3 [vI x2.2.1] 3) :: (row 1 v9 c6 x2.2.2.length) :: (bx b1 [v9] 117) :: As) _ := S19
 refine nrmB <| nrm <| ws <| s_ld (i := 3) (cs := [v9]) S19 rfl rfl isAgg117 sizeOf117 rfl (fun _ => rfl) <| s_asv (v := v9) rfl <| wpl_nil <| nrm <| wpc_ret <| outRw fun we hpd => ?_
 replace S19 := St.pd S19 hpd
 obtain ⟨m10, l8, S20⟩ := St.drop S19 0
 clear S19
 replace S20 : St _ ((bx b3 [vI x2.2.1] 3) :: (row 1 v9 c6 x2.2.2.length) :: (bx b1 [v9] 117) :: As) _ := S20
 obtain ⟨m11, l9, S21⟩ := St.drop S20 0
 clear S20
 replace S21 : St _ ((row 1 v9 c6 x2.2.2.length) :: (bx b1 [v9] 117) :: As) _ := S21
 obtain ⟨m12, l10, S22⟩ := St.drop S21 1
 clear S21
 replace S22 : St _ ((row 1 v9 c6 x2.2.2.length) :: As) _ := S22
 have e0 := Option.some.inj hm
 subst e0
 replace L0 := Mem.tr L0 (mt l1 (mt l7 (mt l8 (mt l9 l10))))
 replace h13 := RepL.up (mt l6 (mt l8 (mt l9 l10))) h13
 exact outR [_] rfl ⟨rfl, trivial⟩ ⟨_, L0, _, _, S22, rfl, h13⟩
def m_field_fold (a0 : UInt64) (a1 : UInt64) : Option UInt64 :=
  bnd (((a1 &&& 2305843009213693951) + ((shlU a0 3) ||| (shrU a1 61)))) fun x1 =>
  bnd (((x1 &&& 2305843009213693951) + (shrU x1 61))) fun x2 =>
  obind (
    if (decide ((x2.toNat : Int) ≥ 2305843009213693951)) = true then
      some (x2 - 2305843009213693951)
    else
    some x2
  ) fun x3 =>
  some x3
theorem w_field_fold {a0 : UInt64} {a1 : UInt64} {r : UInt64} (hm : m_field_fold a0 a1 = some r) : Sf prog 160 [.d (.u a0), .d (.u a1)] (.d (.u r)) :=
  sp call160 func160 rfl ntmps160 rfl fun D0 As η0 m0 hd => by
    unfold m_field_fold at hm
    have hm := bnd_is hm
    let x1 : UInt64 := (((a1 &&& 2305843009213693951) + ((shlU a0 3) ||| (shrU a1 61))))
    have hm := bnd_is hm
    let x2 : UInt64 := (((x1 &&& 2305843009213693951) + (shrU x1 61)))
    obtain ⟨x3, q3, hm⟩ := obind_some hm
    refine gj (fun (_ : Unit) => ⟨[(5, .d (.u x3))], [], [], 0⟩) (fun _ => True) (by kernel_rfl) (fun Jp bk1 => ?_) fun _ _ => ?_
    · refine gi q3 (by kernel_rfl) (fun hc1 q3 => ?_) fun hc1 q3 => ?_
      · skip
        have e0 := Option.some.inj q3
        subst e0
        exact gb bk1 hd () trivial (by kernel_rfl)
      have e0 := Option.some.inj q3
      subst e0
      exact gb bk1 hd () trivial (by kernel_rfl)
    have e0 := Option.some.inj hm
    subst e0
    exact gend hd (by kernel_rfl)
def m_field_one (a0 : UInt64) : Option UInt64 :=
  obind (m_field_fold 0 a0) fun x1 =>
  some x1
theorem w_field_one {a0 : UInt64} {r : UInt64} (hm : m_field_one a0 = some r) : Sf prog 149 [.d (.u a0)] (.d (.u r)) :=
  sp call149 func149 rfl ntmps149 rfl fun D0 As η0 m0 hd => by
    unfold m_field_one at hm
    obtain ⟨x1, q1, hm⟩ := obind_some hm
    refine gc (fun _ => w_field_fold q1) (by kernel_rfl) ?_
    have e0 := Option.some.inj hm
    subst e0
    exact gend hd (by kernel_rfl)
def m_field_Add (a0 : UInt64) (a1 : UInt64) : Option UInt64 :=
  obind (m_field_one a0) fun x1 =>
  obind (m_field_one a1) fun x2 =>
  obind (m_field_one (x1 + x2)) fun x3 =>
  some x3
theorem w_field_Add {a0 : UInt64} {a1 : UInt64} {r : UInt64} (hm : m_field_Add a0 a1 = some r) : Sf prog 138 [.d (.u a0), .d (.u a1)] (.d (.u r)) :=
  sp call138 func138 rfl ntmps138 rfl fun D0 As η0 m0 hd => by
    unfold m_field_Add at hm
    obtain ⟨x1, q1, hm⟩ := obind_some hm
    refine gc (fun _ => w_field_one q1) (by kernel_rfl) ?_
    obtain ⟨x2, q2, hm⟩ := obind_some hm
    refine gc (fun _ => w_field_one q2) (by kernel_rfl) ?_
    obtain ⟨x3, q3, hm⟩ := obind_some hm
    refine gc (fun _ => w_field_one q3) (by kernel_rfl) ?_
    have e0 := Option.some.inj hm
    subst e0
    exact gend hd (by kernel_rfl)
theorem v_field_Add {m : Mem} {As : List Ow} {w : World} {a0 : UInt64} {a1 : UInt64} {r : UInt64} (S : St m As w) (hm : m_field_Add a0 a1 = some r) :
    CallsR prog 138 #[vU a0, vU a1] w fun v w' => ∃ (M : Mem), m ≤ M ∧ St M (As) w' ∧ v = vU r := by
  refine CallsR.mono ((w_field_Add hm).2 none0 m As w [vU a0, vU a1] (.cons (.d (.u _)) (.cons (.d (.u _)) .nil)) (fun n h => absurd rfl h) S) ?_
  rintro v w' ⟨M, η', r', obs', n1, hle, _, ⟨rfl, rfl, rfl⟩, hdom, hR, S'⟩
  obtain rfl := hR.u_inv
  exact ⟨M, hle, S', rfl⟩
def m_hash_state_each_b1 {σ : Type} (p1 : σ → Int → UInt64 → Option (UInt64 × σ)) (i1 : Int) (s1 : UInt64 × UInt64 × UInt64 × σ) : Option (UInt64 × UInt64 × UInt64 × σ) :=
  obind (idx [s1.1, s1.2.1, s1.2.2.1] (i1 : Int)) fun x3 =>
  obind (p1 s1.2.2.2 (i1 : Int) x3) fun x4 =>
  obind (idx [s1.1, s1.2.1, s1.2.2.1] (i1 : Int)) fun x5 =>
  bnd (if (i1 : Int) = 0 then x4.1 else s1.1) fun x6 =>
  bnd (if (i1 : Int) = 1 then x4.1 else s1.2.1) fun x7 =>
  bnd (if (i1 : Int) = 2 then x4.1 else s1.2.2.1) fun x8 =>
  some (x6, x7, x8, x4.2)
def m_hash_state_each {σ : Type} (a0 : UInt64 × UInt64 × UInt64) (p1 : σ → Int → UInt64 → Option (UInt64 × σ)) (s0 : σ) : Option ((UInt64 × UInt64 × UInt64) × σ) :=
  obind (eachN0 (m_hash_state_each_b1 p1) 3 0 (a0.1, a0.2.1, a0.2.2, s0)) fun x1 =>
  some ((x1.1, x1.2.1, x1.2.2.1), x1.2.2.2)
theorem w_hash_state_each {m : Mem} {As : List Ow} {w : World} {σ : Type} {R : σ → Mem → List Ow → Prop} {pb0 : Nat} {a0 : UInt64 × UInt64 × UInt64} {p1 : σ → Int → UInt64 → Option (UInt64 × σ)} {f1 : Value} {s0 : σ} {X0 : List Ow} {r : (UInt64 × UInt64 × UInt64) × σ} (S : St m ((bx pb0 [vU a0.1, vU a0.2.1, vU a0.2.2] 180) :: (X0 ++ As)) w) (hup : ∀ {s M M' X}, M ≤ M' → R s M X → R s M' X) (hX0 : R s0 m X0) (cb1 : ∀ {m' : Mem} {As' : List Ow} {w' : World} {s : σ} {X : List Ow} {b0 : Int} {b1 : UInt64} {r : UInt64 × σ}, St m' (X ++ As') w' → R s m' X → p1 s b0 b1 = some r → CallV Tryz.prog f1 [vI b0, vU b1] w' fun v w'' => ∃ (M : Mem) (X' : List Ow), m' ≤ M ∧ St M (X' ++ As') w'' ∧ R r.2 M X' ∧ v = vU r.1) (fc1 : f1.cells = #[f1]) (hm : m_hash_state_each a0 p1 s0 = some r) :
    CallsR Tryz.prog 150 #[pt pb0 0, f1] w fun v w' => ∃ (M : Mem), m ≤ M ∧ ∃ (X : List Ow), St M ((bx pb0 [vU r.1.1, vU r.1.2.1, vU r.1.2.2] 180) :: (X ++ As)) w' ∧ v = .tuple #[] ∧ R r.2 M X := by
 unfold m_hash_state_each at hm
 have L0 := Mem.rfl' m
 refine callsR (args := [pt pb0 0, f1]) func150 rfl ntmps150 (nb rfl) <| ws <| s_mvv (v := pt pb0 0) rfl <| s_mvv (v := vI 0) rfl <| wpl_nil <| nrm ?_
 obtain ⟨x1, q1, hm⟩ := obind_some hm
 have L1 := Mem.rfl' m
 refine wpc_wrap <| wpc_join [4, 5, 7, 8, 9, 10, 11, 12, 13, 14, 15, 16, 17, 18, 19, 20, 21] (fun f' w' => ∃ (M1 : Mem) (X2 : List Ow), m ≤ M1 ∧ St M1 ((bx pb0 [vU x1.1, vU x1.2.1, vU x1.2.2.1] 180) :: (X2 ++ As)) w' ∧ R x1.2.2.2 M1 X2 ∧ AllAt f' []) ?_ ?_
 · refine wpc_block <| wpc_rounds [4, 5, 7, 8, 9, 10, 11, 12, 13, 14, 15, 16, 17, 18, 19, 20, 21] (fun n1 f' w' => ∃ (i1 : Nat) (s1 : UInt64 × UInt64 × UInt64 × σ) (m17 : Mem) (X1 : List Ow), n1 = 3 - i1 ∧ i1 ≤ 3 ∧ eachN0 (m_hash_state_each_b1 p1) (3 - i1) (i1 : Int) s1 = some x1 ∧ m ≤ m17 ∧ St m17 ((bx pb0 [vU s1.1, vU s1.2.1, vU s1.2.2.1] 180) :: (X1 ++ As)) w' ∧ R s1.2.2.2 m17 X1 ∧ AllAt f' [(7, vI (i1 : Int))]) 3 ⟨0, (a0.1, a0.2.1, a0.2.2, s0), m, _, rfl, Nat.zero_le _, q1, L1, S, hX0, ⟨rfl, trivial⟩⟩ ?_
   rintro n1 f1 w1 ho ⟨i1, s1, m1, X1, hn, hi, q2, L3, S1, h1, ha⟩
   obtain ⟨u1, rfl⟩ := fr_of (N := 22) ho ha
   clear ho ha
   have L2 := Mem.rfl' m1
   clear S
   refine ws <| s_lss (m := (i1 : Int)) (n := 3) rfl rfl <| wpl_nil <| nrm <| wpc_seq <| wpc_if (t := decide ((i1 : Int) < (3 : Int))) rfl (fun hc1 => ?_) (fun hc1 => ?_)
   · have hlt1 : i1 < 3 := by have := of_decide_eq_true hc1; omega
     obtain ⟨y1, q4, q3⟩ := eachN0_in q2 hlt1
     unfold m_hash_state_each_b1 at q4
     refine wpc_skip <| nrm <| wpc_seq <| wpc_block <| wpc_seq ?_
     obtain ⟨x3, q6, q4⟩ := obind_some q4
     have HM : MonoAll [(9, fv (vI (i1 : Int))), (10, fv (pt pb0 0)), (11, fv (pt pb0 (0 + (i1 : Int).toNat * 1))), (12, fv (vU x3)), (4, fv (vI (i1 : Int)))] := ⟨mv, mv, mv, mv, mv, trivial⟩
     refine wpc_flowG HM 5 mixed rfl rfl rfl [4, 9, 10, 11, 12] (fun L f M w => St M ((bx pb0 [vU s1.1, vU s1.2.1, vU s1.2.2.1] 180) :: (X1 ++ As)) w) (St.drew S1 _) ?_ ?_
     · refine ⟨?_, ?_, ?_, ?_, ?_, trivial⟩
       · exact flp HM rfl [] (fun _ _ => trivial) (fun _ _ q => s_mvv (v := vI (i1 : Int)) rfl q) rfl
       · exact flp HM rfl [] (fun _ _ => trivial) (fun _ _ q => s_nilc rfl q) rfl
       · exact flp HM rfl [(10, _)] (fun K _ => ⟨K 1 rfl, trivial⟩) (fun _ _ q => s_idxA (i := (i1 : Int)) rfl rfl underlying180 sizeOf25 (idx_rng q6).1 (idx_rng q6).2 q) rfl
       · exact flp HM rfl [(11, _)] (fun K _ => ⟨K 2 rfl, trivial⟩) (fun _ S5 q => s_ld (i := 0) (off := 0 + (i1 : Int).toNat * 1) (cs := [vU x3]) S5 rfl rfl isAgg25 sizeOf25 (by rcases idx3 q6 with ⟨h, h'⟩ | ⟨h, h'⟩ | ⟨h, h'⟩ <;> (rw [h, h']; rfl)) (fun _ => rfl) q) rfl
       · exact flp HM rfl [(9, _)] (fun K _ => ⟨K 0 rfl, trivial⟩) (fun _ _ q => s_asv (v := vI (i1 : Int)) rfl q) rfl
     intro L f7 w7 hall ⟨m7, L14, S7, K, hO⟩
     have d4 : L 4 = true := hall 4 (by decide)
     have d3 : L 3 = true := hall 3 (by decide)
     obtain ⟨u7, rfl⟩ := fr_of (N := 22) (L := [(4, _), (12, _)]) hO ⟨K 4 d4, K 3 d3, trivial⟩
     replace S7 : St _ ((bx pb0 [vU s1.1, vU s1.2.1, vU s1.2.2.1] 180) :: (X1 ++ As)) _ := S7
     replace h1 := hup L14 h1
     clear S1
     refine s_asv (v := vU x3) rfl <| wpl_nil <| nrm ?_
     obtain ⟨x4, q7, q4⟩ := obind_some q4
     have HM : MonoAll [(13, fv (pt pb0 0)), (14, fv (vI (i1 : Int))), (15, fv f1), (16, fv (vI (i1 : Int))), (17, fv (vU x3)), (18, fv (vU x4.1)), (19, fv (pt pb0 0))] := ⟨mv, mv, mv, mv, mv, mv, mv, trivial⟩
     refine wpc_flowG HM 7 mixed rfl rfl rfl (rg 13 7) (fun L f M w => ∃ (X3 : List Ow), ((L 5 = false → R s1.2.2.2 M X3) ∧ (L 5 = true → R x4.2 M X3)) ∧ St M ((bx pb0 [vU s1.1, vU s1.2.1, vU s1.2.2.1] 180) :: (X3 ++ As)) w) (⟨X1, ⟨fun _ => h1, fun hx => ff hx⟩, St.drew S7 _⟩) ?_ ?_
     · refine ⟨?_, ?_, ?_, ?_, ?_, ?_, ?_, trivial⟩
       · exact flp HM rfl [] (fun _ _ => trivial) (fun _ _ q => s_mvv (v := pt pb0 0) rfl q) rfl
       · exact flp HM rfl [] (fun _ _ => trivial) (fun _ _ q => s_mvv (v := vI (i1 : Int)) rfl q) rfl
       · exact flp HM rfl [] (fun _ _ => trivial) (fun _ _ q => s_mvv (v := f1) rfl q) rfl
       · exact flp HM rfl [] (fun _ _ => trivial) (fun _ _ q => s_mvv (v := vI (i1 : Int)) rfl q) rfl
       · exact flp HM rfl [] (fun _ _ => trivial) (fun _ _ q => s_mvv (v := vU x3) rfl q) rfl
       · intro L f13 w13 hL hd hc ⟨m13, L25, ⟨X3, C6, S13⟩, K, hO⟩
         have d5 : L 5 = false := hL
         obtain ⟨u13, rfl⟩ := fr_of (N := 22) (L := [(15, _), (16, _), (17, _)]) hO ⟨K 2 (dep hd rfl), K 3 (dep hd rfl), K 4 (dep hd rfl), trivial⟩
         have h3 := C6.1 d5
         replace S13 : St _ ((bx pb0 [vU s1.1, vU s1.2.1, vU s1.2.2.1] 180) :: (X3 ++ As)) _ := S13
         have L26 := Mem.rfl' m13
         have S14 := St.absF (L := [bx pb0 [vU s1.1, vU s1.2.1, vU s1.2.2.1] 180]) (X := X3) (As := As) S13
         refine s_callV rfl (cb1 S14 h3 q7) rfl ?_
         rintro _ w14 ⟨m14, X4, l1, S15, h4, rfl⟩
         replace S15 := St.absF (L := X4) (X := [bx pb0 [vU s1.1, vU s1.2.1, vU s1.2.2.1] 180]) (As := As) S15
         clear S14
         replace S15 : St _ ((bx pb0 [vU s1.1, vU s1.2.1, vU s1.2.2.1] 180) :: (X4 ++ As)) _ := S15
         clear S13
         refine wpn ?_
         replace L26 := Mem.tr L26 l1
         exact ⟨m14, Mem.tr L25 L26, ⟨X4, ⟨fun hx => tf rfl hx, fun _ => h4⟩, S15⟩, facts_step HM rfl K L26 rfl rfl rfl, outP⟩
       · exact flp HM rfl [(13, _)] (fun K _ => ⟨K 0 rfl, trivial⟩) (fun _ _ q => s_nilc rfl q) rfl
     intro L f15 w16 hall ⟨m16, L29, ⟨X3, C8, S17⟩, K, hO⟩
     have d1 : L 1 = true := hall 1 (by decide)
     have d5 : L 5 = true := hall 5 (by decide)
     have d6 : L 6 = true := hall 6 (by decide)
     obtain ⟨u15, rfl⟩ := fr_of (N := 22) (L := [(14, _), (18, _), (19, _)]) hO ⟨K 1 d1, K 5 d5, K 6 d6, trivial⟩
     replace S17 : St _ ((bx pb0 [vU s1.1, vU s1.2.1, vU s1.2.2.1] 180) :: (X3 ++ As)) _ := S17
     have h5 := C8.2 d5
     replace S17 : St _ ((bx pb0 [vU s1.1, vU s1.2.1, vU s1.2.2.1] 180) :: (X3 ++ As)) _ := S17
     clear S7
     obtain ⟨x5, q8, q4⟩ := obind_some q4
     refine s_idxA (i := (i1 : Int)) rfl rfl underlying180 sizeOf25 (idx_rng q8).1 (idx_rng q8).2 ?_
     obtain ⟨x6, q9, q4⟩ := bnd_eq q4
     obtain ⟨x7, q10, q4⟩ := bnd_eq q4
     obtain ⟨x8, q11, q4⟩ := bnd_eq q4
     refine s_st (i := 0) (off := 0 + (i1 : Int).toNat * 1) S17 rfl rfl rfl sizeOf25 (OneL.all (oneC rfl oneN)) (by rcases idx3 q8 with ⟨h, h'⟩ | ⟨h, h'⟩ | ⟨h, h'⟩ <;> (rw [h]; exact nb rfl)) fun w17 S18 => ?_
     replace S18 := St.cellsTo (i := 0) (l' := [vU x6, vU x7, vU x8]) S18 (by rcases idx3 q8 with ⟨h, h'⟩ | ⟨h, h'⟩ | ⟨h, h'⟩ <;> (simp only [q9, q10, q11, h]; rfl)) rfl
     replace S18 : St _ ((bx pb0 [vU x6, vU x7, vU x8] 180) :: (X3 ++ As)) _ := S18
     clear S17
     refine wpl_nil <| nrmB <| nrm <| wpc_region <| s_addI (m := (i1 : Int)) (n := 1) rfl rfl <| s_mvv (v := vI (w64 ((i1 : Int) + 1))) rfl <| wpl_nil <| nrm ?_
     have e0 := Option.some.inj q4
     subst e0
     replace L2 := Mem.tr L2 (mt L14 L29)
     exact ⟨outP, _, (by omega), ⟨i1 + 1, (x6, x7, x8, x4.2), m16, _, rfl, hlt1, q3, Mem.tr L3 L2, S18, h5, ⟨congrArg (Value.int .i64) (w64_succ hlt1 (by decide)), trivial⟩⟩⟩
   have hlt1 : ¬ i1 < 3 := by have := of_decide_eq_false hc1; omega
   have e := Eq.symm (eachN0_out q2 hlt1)
   subst e
   exact wpc_exit <| thE <| thE <| exB <| nrm <| ⟨outP, m1, _, Mem.tr L3 L2, S1, h1, trivial⟩
 rintro f16 w18 ho ⟨m18, X2, l2, S19, h2, ha⟩
 obtain ⟨u16, rfl⟩ := fr_of (N := 22) ho ha
 clear ho ha S
 refine outNw fun we hpd => ?_
 replace S19 := St.pd S19 hpd
 have e0 := Option.some.inj hm
 subst e0
 replace L0 := Mem.tr L0 l2
 exact outR [] rfl trivial ⟨_, L0, _, S19, rfl, h2⟩
def m_field_Mul (a0 : UInt64) (a1 : UInt64) : Option UInt64 :=
  obind (m_field_one a0) fun x1 =>
  obind (m_field_one a1) fun x2 =>
  obind (m_bits_Mul64 x1 x2) fun x3 =>
  obind (m_field_fold x3.1 x3.2) fun x4 =>
  some x4
theorem w_field_Mul {a0 : UInt64} {a1 : UInt64} {r : UInt64} (hm : m_field_Mul a0 a1 = some r) : Sf prog 161 [.d (.u a0), .d (.u a1)] (.d (.u r)) :=
  sp call161 func161 rfl ntmps161 rfl fun D0 As η0 m0 hd => by
    unfold m_field_Mul at hm
    obtain ⟨x1, q1, hm⟩ := obind_some hm
    refine gc (fun _ => w_field_one q1) (by kernel_rfl) ?_
    obtain ⟨x2, q2, hm⟩ := obind_some hm
    refine gc (fun _ => w_field_one q2) (by kernel_rfl) ?_
    obtain ⟨x3, q3, hm⟩ := obind_some hm
    refine gc (fun _ => w_bits_Mul64 q3) (by kernel_rfl) ?_
    obtain ⟨x4, q4, hm⟩ := obind_some hm
    refine gc (fun _ => w_field_fold q4) (by kernel_rfl) ?_
    have e0 := Option.some.inj hm
    subst e0
    exact gend hd (by kernel_rfl)
def m_hash_seventeen_b1  (i1 : Int) (s1 : UInt64) : Option (UInt64) :=
  obind (m_field_Mul s1 s1) fun x4 =>
  some x4
def m_hash_seventeen (a0 : UInt64) : Option UInt64 :=
  obind (
    obind (eachN0 m_hash_seventeen_b1 4 0 a0) fun x2 =>
    some x2
  ) fun x1 =>
  obind (m_field_Mul a0 x1) fun x5 =>
  some x5
theorem w_hash_seventeen {a0 : UInt64} {r : UInt64} (hm : m_hash_seventeen a0 = some r) : Sf prog 152 [.d (.u a0)] (.d (.u r)) :=
  sp call152 func152 rfl ntmps152 rfl fun D0 As η0 m0 hd => by
    unfold m_hash_seventeen at hm
    obtain ⟨x1, q1, hm⟩ := obind_some hm
    obtain ⟨x2, q2, q1⟩ := obind_some q1
    refine gjU 0 (fun (_ : Unit) => ⟨[(0, .d (.u a0)), (3, .d (.u x1))], [], [], 0⟩) (fun _ => True) (by kernel_rfl) (fun Jp bk1 => ?_) fun _ _ => ?_
    · refine gjU 0 (fun (_ : Unit) => ⟨[(0, .d (.u a0)), (3, .d (.u x2))], [], [], 0⟩) (fun _ => True) (by kernel_rfl) (fun Jp bk2 => ?_) fun _ _ => ?_
      · refine gl hd (fun (p : Int × (UInt64)) => let (p0, p_0) := p; ⟨[(0, .d (.u a0)), (3, .d (.u p_0)), (5, .d (.i p0))], [], [], 0⟩) (fun p => ∃ i : Nat, p.1 = (i : Int) ∧ i ≤ 4 ∧ eachN0 m_hash_seventeen_b1 (4 - i) (i : Int) p.2 = some x2) (fun p => 4 - p.1.toNat) (0, a0) ⟨0, rfl, Nat.zero_le _, q2⟩ (by kernel_rfl) ?_
        rintro ⟨_, s1⟩ ⟨i1, rfl, hi, q3⟩ Jl bl1
        refine gi' (b := decide ((i1 : Int) < (4 : Int))) (by kernel_rfl) (fun hc1 => ?_) fun hc1 => ?_
        · have hlt1 : i1 < 4 := by have := of_decide_eq_true hc1; omega
          obtain ⟨y1, q5, q4⟩ := eachN0_in q3 hlt1
          unfold m_hash_seventeen_b1 at q5
          obtain ⟨x4, q7, q5⟩ := obind_some q5
          refine gc (fun _ => w_field_Mul q7) (by kernel_rfl) ?_
          have e0 := Option.some.inj q5
          subst e0
          exact gb bl1 hd (w64 ((i1 : Int) + 1), x4) ⟨⟨i1 + 1, w64_succ hlt1 (by decide), by omega, q4⟩, mu_lt hlt1 (by decide)⟩ (by kernel_rfl)
        have hlt1 : ¬ i1 < 4 := by have := of_decide_eq_false hc1; omega
        have e := Eq.symm (eachN0_out q3 hlt1)
        subst e
        exact gb bk2 hd () trivial (by kernel_rfl)
      have e0 := Option.some.inj q1
      subst e0
      exact gb bk1 hd () trivial (by kernel_rfl)
    obtain ⟨x5, q8, hm⟩ := obind_some hm
    refine gc (fun _ => w_field_Mul q8) (by kernel_rfl) ?_
    have e0 := Option.some.inj hm
    subst e0
    exact gend hd (by kernel_rfl)
theorem v_hash_seventeen {m : Mem} {As : List Ow} {w : World} {a0 : UInt64} {r : UInt64} (S : St m As w) (hm : m_hash_seventeen a0 = some r) :
    CallsR prog 152 #[vU a0] w fun v w' => ∃ (M : Mem), m ≤ M ∧ St M (As) w' ∧ v = vU r := by
  refine CallsR.mono ((w_hash_seventeen hm).2 none0 m As w [vU a0] (.cons (.d (.u _)) .nil) (fun n h => absurd rfl h) S) ?_
  rintro v w' ⟨M, η', r', obs', n1, hle, _, ⟨rfl, rfl, rfl⟩, hdom, hR, S'⟩
  obtain rfl := hR.u_inv
  exact ⟨M, hle, S', rfl⟩
def m_hash_Mix_1 (a0 : Int) (a1 : UInt64) (k0 : Int) (k1 : UInt64) : Option (UInt64 × Int × UInt64) :=
  bnd ((toU (w64 ((w64 ((w64 (3 * k0)) + a0)) + 1)))) fun x1 =>
  obind (m_field_Add a1 (((x1 * x1) * x1) + 7)) fun x2 =>
  obind (m_hash_seventeen x2) fun x3 =>
  obind (m_field_Add k1 x3) fun x4 =>
  some (x3, k0, x4)
theorem w_hash_Mix_1 {m : Mem} {As : List Ow} {w : World} {a0 : Int} {a1 : UInt64} {kb0 : Nat} {k0 : Int} {kb1 : Nat} {k1 : UInt64} {r : UInt64 × Int × UInt64} (S : St m ((bx kb0 [vI k0] 3) :: (bx kb1 [vU k1] 25) :: As) w) (hm : m_hash_Mix_1 a0 a1 k0 k1 = some r) :
    CallsR Tryz.prog 151 #[vI a0, vU a1, pt kb0 0, pt kb1 0] w fun v w' => ∃ (M : Mem), m ≤ M ∧ St M ((bx kb0 [vI r.2.1] 3) :: (bx kb1 [vU r.2.2] 25) :: As) w' ∧ v = vU r.1 := by
 unfold m_hash_Mix_1 at hm
 have L0 := Mem.rfl' m
 refine callsR (args := [vI a0, vU a1, pt kb0 0, pt kb1 0]) func151 rfl ntmps151 (nb rfl) <| ws <| s_asv (v := vU 0) rfl <| nx <| s_ld (i := 0) (cs := [vI k0]) S rfl rfl isAgg3 sizeOf3 rfl (fun _ => rfl) <| s_mulI (m := 3) (n := k0) rfl rfl <| s_mvv (v := vI a0) rfl <| s_addI (m := (w64 (3 * k0))) (n := a0) rfl rfl <| s_addI (m := (w64 ((w64 (3 * k0)) + a0))) (n := 1) rfl rfl <| s_convU rfl underlying3 underlying25 ?_
 obtain ⟨x1, q1, hm⟩ := bnd_eq hm
 refine s_asv (v := vU x1) (congrArg (fun z => vU z) q1.symm) <| nx <| s_mvv (v := vU a1) rfl <| s_mvv (v := vU x1) rfl <| s_mvv (v := vU x1) rfl <| s_mulU (m := x1) (n := x1) rfl rfl <| s_mvv (v := vU x1) rfl <| s_mulU (m := (x1 * x1)) (n := x1) rfl rfl <| s_addU (m := ((x1 * x1) * x1)) (n := 7) rfl rfl ?_
 obtain ⟨x2, q2, hm⟩ := obind_some hm
 refine s_call call138 (v_field_Add (a0 := a1) (a1 := (((x1 * x1) * x1) + 7)) S  q2) rfl ?_
 rintro _ w1 ⟨m1, l1, S1, rfl⟩
 clear S
 obtain ⟨x3, q3, hm⟩ := obind_some hm
 refine s_call call152 (v_hash_seventeen (a0 := x2) S1  q3) rfl ?_
 rintro _ w2 ⟨m2, l2, S2, rfl⟩
 clear S1
 refine s_asv (v := vU x3) rfl <| nx <| s_ld (i := 1) (cs := [vU k1]) S2 rfl rfl isAgg25 sizeOf25 rfl (fun _ => rfl) <| s_mvv (v := vU x3) rfl ?_
 obtain ⟨x4, q4, hm⟩ := obind_some hm
 refine s_call call138 (v_field_Add (a0 := k1) (a1 := x3) S2  q4) rfl ?_
 rintro _ w3 ⟨m3, l3, S3, rfl⟩
 clear S2
 refine s_stL (i := 1) S3 rfl rfl rfl sizeOf25 (oneC rfl oneN) rfl fun w4 S4 => ?_
 replace S4 : St _ ((bx kb0 [vI k0] 3) :: (bx kb1 [vU x4] 25) :: As) _ := S4
 clear S3
 refine nx <| s_mvv (v := vU x3) rfl <| s_asv (v := vU x3) rfl <| wpl_nil <| nrm <| wpc_ret <| outRw fun we hpd => ?_
 replace S4 := St.pd S4 hpd
 have e0 := Option.some.inj hm
 subst e0
 replace L0 := Mem.tr L0 (mt l1 (mt l2 l3))
 exact outR [_] rfl ⟨rfl, trivial⟩ ⟨_, L0, S4, rfl⟩
def m_hash_Mix_2 (a0 : Int) (a1 : UInt64) (k0 : UInt64) : Option (UInt64 × UInt64) :=
  obind (m_field_Add a1 k0) fun x1 =>
  some (x1, k0)
theorem w_hash_Mix_2 {m : Mem} {As : List Ow} {w : World} {a0 : Int} {a1 : UInt64} {kb0 : Nat} {k0 : UInt64} {r : UInt64 × UInt64} (S : St m ((bx kb0 [vU k0] 25) :: As) w) (hm : m_hash_Mix_2 a0 a1 k0 = some r) :
    CallsR Tryz.prog 153 #[vI a0, vU a1, pt kb0 0] w fun v w' => ∃ (M : Mem), m ≤ M ∧ St M ((bx kb0 [vU r.2] 25) :: As) w' ∧ v = vU r.1 := by
 unfold m_hash_Mix_2 at hm
 have L0 := Mem.rfl' m
 refine callsR (args := [vI a0, vU a1, pt kb0 0]) func153 rfl ntmps153 (nb rfl) <| ws <| s_asv (v := vU 0) rfl <| nx <| s_mvv (v := vU a1) rfl <| s_ld (i := 0) (cs := [vU k0]) S rfl rfl isAgg25 sizeOf25 rfl (fun _ => rfl) ?_
 obtain ⟨x1, q1, hm⟩ := obind_some hm
 refine s_call call138 (v_field_Add (a0 := a1) (a1 := k0) S  q1) rfl ?_
 rintro _ w1 ⟨m1, l1, S1, rfl⟩
 clear S
 refine s_asv (v := vU x1) rfl <| wpl_nil <| nrm <| wpc_ret <| outRw fun we hpd => ?_
 replace S1 := St.pd S1 hpd
 have e0 := Option.some.inj hm
 subst e0
 replace L0 := Mem.tr L0 l1
 exact outR [_] rfl ⟨rfl, trivial⟩ ⟨_, L0, S1, rfl⟩
def m_hash_Mix_b4  (i1 : Int) (s1 : UInt64 × UInt64 × UInt64) : Option (UInt64 × UInt64 × UInt64) :=
  obind (m_hash_state_each s1 (fun (s2 : Int × UInt64) (b7 : Int) (b8 : UInt64) => obind (m_hash_Mix_1 b7 b8 ((s2).1) ((s2).2)) fun x4 => some (x4.1, (x4.2.1, x4.2.2))) ((i1 : Int), 0)) fun x5 =>
  obind (m_hash_state_each x5.1 (fun (s3 : UInt64) (b9 : Int) (b10 : UInt64) => obind (m_hash_Mix_2 b9 b10 s3) fun x6 => some (x6.1, x6.2)) x5.2.2) fun x7 =>
  some (x7.1.1, x7.1.2.1, x7.1.2.2)
def m_hash_Mix (a0 : UInt64 × UInt64 × UInt64) : Option (UInt64 × UInt64 × UInt64) :=
  obind (
    obind (eachN0 m_hash_Mix_b4 8 0 (a0.1, a0.2.1, a0.2.2)) fun x2 =>
    some (x2.1, x2.2.1, x2.2.2)
  ) fun x1 =>
  some x1
theorem w_hash_Mix {m : Mem} {As : List Ow} {w : World} {a0 : UInt64 × UInt64 × UInt64} {r : UInt64 × UInt64 × UInt64} (S : St m (As) w) (hm : m_hash_Mix a0 = some r) :
    CallsR Tryz.prog 139 #[.agg #[vU a0.1, vU a0.2.1, vU a0.2.2]] w fun v w' => ∃ (M : Mem), m ≤ M ∧ St M (As) w' ∧ v = .agg #[vU r.1, vU r.2.1, vU r.2.2] := by
 unfold m_hash_Mix at hm
 have L0 := Mem.rfl' m
 refine callsR (args := [.agg #[vU a0.1, vU a0.2.1, vU a0.2.2]]) func139 rfl ntmps139 (nb rfl) <| ws <| s_box S rfl fun b1 w1 S1 => ?_
 replace S1 : St _ ((bx b1 [vU a0.1, vU a0.2.1, vU a0.2.2] 168) :: As) _ := S1
 clear S
 refine s_alloc S1 zeroValue168 fun b2 w2 S2 => ?_
 replace S2 : St _ ((bx b2 [vU 0, vU 0, vU 0] 168) :: (bx b1 [vU a0.1, vU a0.2.1, vU a0.2.2] 168) :: As) _ := S2
 clear S1
 refine nx <| s_ld (i := 1) (cs := [vU a0.1, vU a0.2.1, vU a0.2.2]) S2 rfl rfl isAgg168 sizeOf168 rfl (fun h => by cases h) <| s_alloc S2 zeroValue180 fun b3 w3 S3 => s_stL (i := 0) S3 rfl rfl rfl sizeOf180 (oneC rfl (oneC rfl (oneC rfl oneN))) rfl fun w4 S4 => ?_
 replace S4 : St _ ((bx b3 [vU a0.1, vU a0.2.1, vU a0.2.2] 180) :: (bx b2 [vU 0, vU 0, vU 0] 168) :: (bx b1 [vU a0.1, vU a0.2.1, vU a0.2.2] 168) :: As) _ := S4
 clear S2 S3
 refine wpl_nil <| nrm ?_
 obtain ⟨x1, q1, hm⟩ := obind_some hm
 have L1 := Mem.rfl' m
 refine wpc_seq <| wpc_join [4, 5, 7, 8, 9, 10, 11, 12, 13, 14] (fun f' w' => ∃ (M1 : Mem), m ≤ M1 ∧ St M1 ((bx b3 [vU x1.1, vU x1.2.1, vU x1.2.2] 180) :: (bx b2 [vU 0, vU 0, vU 0] 168) :: (bx b1 [vU a0.1, vU a0.2.1, vU a0.2.2] 168) :: As) w' ∧ AllAt f' []) ?_ ?_
 · refine ws <| s_mvv (v := vI 0) rfl <| wpl_nil <| nrm ?_
   obtain ⟨x2, q2, q1⟩ := obind_some q1
   have L2 := Mem.rfl' m
   refine wpc_join [4, 5, 7, 8, 9, 10, 11, 12, 13, 14] (fun f' w' => ∃ (M2 : Mem), m ≤ M2 ∧ St M2 ((bx b3 [vU x2.1, vU x2.2.1, vU x2.2.2] 180) :: (bx b2 [vU 0, vU 0, vU 0] 168) :: (bx b1 [vU a0.1, vU a0.2.1, vU a0.2.2] 168) :: As) w' ∧ AllAt f' []) ?_ ?_
   · refine wpc_block <| wpc_rounds [4, 5, 7, 8, 9, 10, 11, 12, 13, 14] (fun n1 f' w' => ∃ (i1 : Nat) (s1 : UInt64 × UInt64 × UInt64) (m10 : Mem), n1 = 8 - i1 ∧ i1 ≤ 8 ∧ eachN0 m_hash_Mix_b4 (8 - i1) (i1 : Int) s1 = some x2 ∧ m ≤ m10 ∧ St m10 ((bx b3 [vU s1.1, vU s1.2.1, vU s1.2.2] 180) :: (bx b2 [vU 0, vU 0, vU 0] 168) :: (bx b1 [vU a0.1, vU a0.2.1, vU a0.2.2] 168) :: As) w' ∧ AllAt f' [(7, vI (i1 : Int))]) 8 ⟨0, (a0.1, a0.2.1, a0.2.2), m, rfl, Nat.zero_le _, q2, L2, S4, ⟨rfl, trivial⟩⟩ ?_
     rintro n1 f1 w5 ho ⟨i1, s1, m1, hn, hi, q3, L4, S5, ha⟩
     obtain ⟨u1, rfl⟩ := fr_of (N := 16) ho ha
     clear ho ha
     have L3 := Mem.rfl' m1
     clear S4
     refine ws <| s_lss (m := (i1 : Int)) (n := 8) rfl rfl <| wpl_nil <| nrm <| wpc_seq <| wpc_if (t := decide ((i1 : Int) < (8 : Int))) rfl (fun hc1 => ?_) (fun hc1 => ?_)
     · have hlt1 : i1 < 8 := by have := of_decide_eq_true hc1; omega
       obtain ⟨y1, q5, q4⟩ := eachN0_in q3 hlt1
       unfold m_hash_Mix_b4 at q5
       refine wpc_skip <| nrm <| wpc_seq <| wpc_block <| ws <| s_mvv (v := vI (i1 : Int)) rfl <| s_alloc S5 zeroValue3 fun b5 w6 S6 => s_stL (i := 0) S6 rfl rfl rfl sizeOf3 (oneC rfl oneN) rfl fun w7 S7 => nx <| s_alloc S7 zeroValue25 fun b6 w8 S8 => ?_
       replace S8 : St _ ((bx b6 [vU 0] 25) :: (bx b5 [vI (i1 : Int)] 3) :: (bx b3 [vU s1.1, vU s1.2.1, vU s1.2.2] 180) :: (bx b2 [vU 0, vU 0, vU 0] 168) :: (bx b1 [vU a0.1, vU a0.2.1, vU a0.2.2] 168) :: As) _ := S8
       clear S5 S6 S7
       refine nx <| s_funcC (caps := [pt b5 0, pt b6 0]) rfl ?_
       have hcb1 : ∀ {m' : Mem} {As' : List Ow} {w' : World} {s : Int × UInt64} {X : List Ow} {b0 : Int} {b1 : UInt64} {r : UInt64 × (Int × UInt64)}, St m' (X ++ As') w' → (X = [bx b5 [vI ((s).1)] 3, bx b6 [vU ((s).2)] 25]) → (fun (s2 : Int × UInt64) (b7 : Int) (b8 : UInt64) => obind (m_hash_Mix_1 b7 b8 ((s2).1) ((s2).2)) fun x4 => some (x4.1, (x4.2.1, x4.2.2))) s b0 b1 = some r → CallV Tryz.prog (.func (.func 151) #[] #[pt b5 0, pt b6 0]) [vI b0, vU b1] w' fun v w'' => ∃ (M : Mem) (X' : List Ow), m' ≤ M ∧ St M (X' ++ As') w'' ∧ (X' = [bx b5 [vI ((r.2).1)] 3, bx b6 [vU ((r.2).2)] 25]) ∧ v = vU r.1 := by
         intro m2 As1 w9 s2 X1 b7 b8 r1 S9 h1 hm1
         subst h1
         replace S9 : St _ ((bx b5 [vI ((s2).1)] 3) :: (bx b6 [vU ((s2).2)] 25) :: As1) _ := S9
         have L5 := Mem.rfl' m2
         obtain ⟨x4, q7, hm1⟩ := obind_some hm1
         refine CallV.mono (CallV.clo (pre := []) call151 rfl (w_hash_Mix_1 (a0 := b7) (a1 := b8) (k0 := ((s2).1)) (k1 := ((s2).2)) S9  q7)) ?_
         rintro _ w10 ⟨m3, l1, S10, rfl⟩
         replace L5 := Mem.tr L5 l1
         clear S9
         replace S10 : St _ ((bx b5 [vI x4.2.1] 3) :: (bx b6 [vU x4.2.2] 25) :: As1) _ := S10
         have e0 := Option.some.inj hm1
         subst e0
         exact ⟨_, [bx b5 [vI x4.2.1] 3, bx b6 [vU x4.2.2] 25], L5, S10, rfl, rfl⟩
       have S11 : St _ ((bx b3 [vU s1.1, vU s1.2.1, vU s1.2.2] 180) :: (bx b5 [vI (i1 : Int)] 3) :: (bx b6 [vU 0] 25) :: (bx b2 [vU 0, vU 0, vU 0] 168) :: (bx b1 [vU a0.1, vU a0.2.1, vU a0.2.2] 168) :: As) _ := St.perm S8 (List.Perm.trans (List.Perm.cons _ (List.Perm.swap _ _ _)) (List.Perm.trans (List.Perm.swap _ _ _) (List.Perm.cons _ (List.Perm.swap _ _ _))))
       clear S8
       obtain ⟨x5, q8, q5⟩ := obind_some q5
       refine s_call call150 (w_hash_state_each (a0 := s1) (p1 := (fun (s2 : Int × UInt64) (b7 : Int) (b8 : UInt64) => obind (m_hash_Mix_1 b7 b8 ((s2).1) ((s2).2)) fun x4 => some (x4.1, (x4.2.1, x4.2.2)))) (s0 := ((i1 : Int), 0)) (R := (fun (s : Int × UInt64) (M : Mem) (X : List Ow) => (X = [bx b5 [vI ((s).1)] 3, bx b6 [vU ((s).2)] 25]))) (X0 := [bx b5 [vI (i1 : Int)] 3, bx b6 [vU 0] 25]) (As := (bx b2 [vU 0, vU 0, vU 0] 168) :: (bx b1 [vU a0.1, vU a0.2.1, vU a0.2.2] 168) :: As) S11 (fun {_ _ _ _} _ h => h) rfl @hcb1 rfl q8) rfl ?_
       rintro _ w11 ⟨m4, l2, X2, S12, rfl, rfl⟩
       clear S11
       refine wpl_nil <| nrm <| wpc_region <| s_funcC (caps := [pt b6 0]) rfl ?_
       have hcb2 : ∀ {m' : Mem} {As' : List Ow} {w' : World} {s : UInt64} {X : List Ow} {b0 : Int} {b1 : UInt64} {r : UInt64 × UInt64}, St m' (X ++ As') w' → (X = [bx b6 [vU (s)] 25]) → (fun (s3 : UInt64) (b9 : Int) (b10 : UInt64) => obind (m_hash_Mix_2 b9 b10 s3) fun x6 => some (x6.1, x6.2)) s b0 b1 = some r → CallV Tryz.prog (.func (.func 153) #[] #[pt b6 0]) [vI b0, vU b1] w' fun v w'' => ∃ (M : Mem) (X' : List Ow), m' ≤ M ∧ St M (X' ++ As') w'' ∧ (X' = [bx b6 [vU (r.2)] 25]) ∧ v = vU r.1 := by
         intro m5 As2 w12 s3 X3 b9 b10 r2 S13 h2 hm2
         subst h2
         replace S13 : St _ ((bx b6 [vU s3] 25) :: As2) _ := S13
         have L6 := Mem.rfl' m5
         obtain ⟨x6, q9, hm2⟩ := obind_some hm2
         refine CallV.mono (CallV.clo (pre := []) call153 rfl (w_hash_Mix_2 (a0 := b9) (a1 := b10) (k0 := s3) S13  q9)) ?_
         rintro _ w13 ⟨m6, l3, S14, rfl⟩
         replace L6 := Mem.tr L6 l3
         clear S13
         replace S14 : St _ ((bx b6 [vU x6.2] 25) :: As2) _ := S14
         have e0 := Option.some.inj hm2
         subst e0
         exact ⟨_, [bx b6 [vU x6.2] 25], L6, S14, rfl, rfl⟩
       have S15 : St _ ((bx b3 [vU x5.1.1, vU x5.1.2.1, vU x5.1.2.2] 180) :: (bx b6 [vU x5.2.2] 25) :: (bx b5 [vI x5.2.1] 3) :: (bx b2 [vU 0, vU 0, vU 0] 168) :: (bx b1 [vU a0.1, vU a0.2.1, vU a0.2.2] 168) :: As) _ := St.perm S12 (List.Perm.cons _ (List.Perm.swap _ _ _))
       clear S12
       obtain ⟨x7, q10, q5⟩ := obind_some q5
       refine s_call call150 (w_hash_state_each (a0 := x5.1) (p1 := (fun (s3 : UInt64) (b9 : Int) (b10 : UInt64) => obind (m_hash_Mix_2 b9 b10 s3) fun x6 => some (x6.1, x6.2))) (s0 := x5.2.2) (R := (fun (s : UInt64) (M : Mem) (X : List Ow) => (X = [bx b6 [vU (s)] 25]))) (X0 := [bx b6 [vU x5.2.2] 25]) (As := (bx b5 [vI x5.2.1] 3) :: (bx b2 [vU 0, vU 0, vU 0] 168) :: (bx b1 [vU a0.1, vU a0.2.1, vU a0.2.2] 168) :: As) S15 (fun {_ _ _ _} _ h => h) rfl @hcb2 rfl q10) rfl ?_
       rintro _ w14 ⟨m7, l4, X4, S16, rfl, rfl⟩
       clear S15
       refine wpl_nil <| nrmB <| nrm <| wpc_region <| s_addI (m := (i1 : Int)) (n := 1) rfl rfl <| s_mvv (v := vI (w64 ((i1 : Int) + 1))) rfl <| wpl_nil <| nrm ?_
       obtain ⟨m8, l5, S17⟩ := St.drop S16 1
       clear S16
       replace S17 : St _ ((bx b3 [vU x7.1.1, vU x7.1.2.1, vU x7.1.2.2] 180) :: (bx b5 [vI x5.2.1] 3) :: (bx b2 [vU 0, vU 0, vU 0] 168) :: (bx b1 [vU a0.1, vU a0.2.1, vU a0.2.2] 168) :: As) _ := S17
       obtain ⟨m9, l6, S18⟩ := St.drop S17 1
       clear S17
       replace S18 : St _ ((bx b3 [vU x7.1.1, vU x7.1.2.1, vU x7.1.2.2] 180) :: (bx b2 [vU 0, vU 0, vU 0] 168) :: (bx b1 [vU a0.1, vU a0.2.1, vU a0.2.2] 168) :: As) _ := S18
       have e0 := Option.some.inj q5
       subst e0
       replace L3 := Mem.tr L3 (mt l2 (mt l4 (mt l5 l6)))
       exact ⟨outP, _, (by omega), ⟨i1 + 1, (x7.1.1, x7.1.2.1, x7.1.2.2), m9, rfl, hlt1, q4, Mem.tr L4 L3, S18, ⟨congrArg (Value.int .i64) (w64_succ hlt1 (by decide)), trivial⟩⟩⟩
     have hlt1 : ¬ i1 < 8 := by have := of_decide_eq_false hc1; omega
     have e := Eq.symm (eachN0_out q3 hlt1)
     subst e
     exact wpc_exit <| thE <| thE <| exB <| nrm <| ⟨outP, m1, Mem.tr L4 L3, S5, trivial⟩
   rintro f2 w15 ho ⟨m11, l7, S19, ha⟩
   obtain ⟨u2, rfl⟩ := fr_of (N := 16) ho ha
   clear ho ha S4
   have e0 := Option.some.inj q1
   subst e0
   replace L1 := Mem.tr L1 l7
   exact ⟨outP, m11, L1, S19, trivial⟩
 rintro f3 w16 ho ⟨m12, l8, S20, ha⟩
 obtain ⟨u3, rfl⟩ := fr_of (N := 16) ho ha
 clear S4
 refine ws <| s_ld (i := 0) (cs := [vU x1.1, vU x1.2.1, vU x1.2.2]) S20 rfl rfl isAgg180 sizeOf180 rfl (fun h => by cases h) <| s_stL (i := 1) S20 rfl rfl rfl sizeOf168 (oneC rfl (oneC rfl (oneC rfl oneN))) rfl fun w17 S21 => ?_
 replace S21 : St _ ((bx b3 [vU x1.1, vU x1.2.1, vU x1.2.2] 180) :: (bx b2 [vU x1.1, vU x1.2.1, vU x1.2.2] 168) :: (bx b1 [vU a0.1, vU a0.2.1, vU a0.2.2] 168) :: As) _ := S21
 clear S20
 refine wpl_nil <| nrm <| wpc_ret <| outRw fun we hpd => ?_
 replace S21 := St.pd S21 hpd
 have SR := S21
 obtain ⟨m13, l9, S22⟩ := St.drop S21 0
 replace S22 : St _ ((bx b2 [vU x1.1, vU x1.2.1, vU x1.2.2] 168) :: (bx b1 [vU a0.1, vU a0.2.1, vU a0.2.2] 168) :: As) _ := S22
 obtain ⟨m14, l10, S23⟩ := St.drop S22 0
 clear S22
 replace S23 : St _ ((bx b1 [vU a0.1, vU a0.2.1, vU a0.2.2] 168) :: As) _ := S23
 obtain ⟨m15, l11, S24⟩ := St.drop S23 0
 clear S23
 replace S24 : St _ (As) _ := S24
 have e0 := Option.some.inj hm
 subst e0
 replace L0 := Mem.tr L0 (mt l8 (mt l9 (mt l10 l11)))
 exact outR [_] rfl ⟨res_box (i := 1) (off := 0) (cs := [vU x1.1, vU x1.2.1, vU x1.2.2]) SR rfl rfl isAgg168 sizeOf168 rfl (fun h => by cases h), trivial⟩ ⟨_, L0, S24, rfl⟩
def m_hash_Sum_b4 (x6 : List UInt64) (i2 : Int) (s2 : UInt64 × UInt64 × UInt64) : Option (UInt64 × UInt64 × UInt64) :=
  obind (idx x6 (i2 : Int)) fun x9 =>
  obind (idx [s2.1, s2.2.1, s2.2.2] (i2 : Int)) fun x10 =>
  obind (m_field_Add x10 x9) fun x11 =>
  obind (idx [s2.1, s2.2.1, s2.2.2] (i2 : Int)) fun x12 =>
  bnd (if (i2 : Int) = 0 then x11 else s2.1) fun x13 =>
  bnd (if (i2 : Int) = 1 then x11 else s2.2.1) fun x14 =>
  bnd (if (i2 : Int) = 2 then x11 else s2.2.2) fun x15 =>
  some (x13, x14, x15)
def m_hash_Sum_b3  (s1 : (List UInt64) × Bool × UInt64 × UInt64 × UInt64) : Option (((List UInt64) × Bool × UInt64 × UInt64 × UInt64) ⊕ (UInt64 × UInt64 × UInt64)) :=
  if (s1.2.1 || (decide ((s1.1.length : Int) > 0))) = true then
    obind (
      obind (cut s1.1 0 (minI 2 (s1.1.length : Int))) fun x6 =>
      obind (eachN0 (m_hash_Sum_b4 x6) x6.length 0 (s1.2.2.1, s1.2.2.2.1, s1.2.2.2.2)) fun x7 =>
      some (x7.1, x7.2.1, x7.2.2)
    ) fun x5 =>
    obind (cut s1.1 (minI 2 (s1.1.length : Int)) (s1.1.length : Int)) fun x16 =>
    obind (m_hash_Mix x5) fun x17 =>
    some (.inl (x16, false, x17.1, x17.2.1, x17.2.2))
  else
  some (.inr (s1.2.2.1, s1.2.2.2.1, s1.2.2.2.2))
def m_hash_Sum (a0 : List UInt8) : Option (UInt64 × UInt64) :=
  obind (m_field_Of a0) fun x1 =>
  obind (
    obind (iter m_hash_Sum_b3 FUEL (x1, true, 0, 0, (toU (a0.length : Int)))) fun x3 =>
    some (x3.1, x3.2.1, x3.2.2)
  ) fun x2 =>
  some (x2.1, x2.2.1)
theorem w_hash_Sum {m : Mem} {As : List Ow} {w : World} {a0 : List UInt8} {a0v0 : Value} {r : UInt64 × UInt64} (S : St m (As) w) (a0h0 : SlR m a0v0 a0) (hm : m_hash_Sum a0 = some r) :
    CallsR Tryz.prog 116 #[a0v0] w fun v w' => ∃ (M : Mem), m ≤ M ∧ St M (As) w' ∧ v = .agg #[vU r.1, vU r.2] := by
 unfold m_hash_Sum at hm
 have L0 := Mem.rfl' m
 refine callsR (args := [a0v0]) func116 rfl ntmps116 (nb rfl) <| ws <| s_alloc S zeroValue27 fun b1 w1 S1 => ?_
 replace S1 : St _ ((bx b1 z_api_Sig 27) :: As) _ := S1
 clear S
 refine nx <| s_mvv (v := a0v0) rfl <| s_lenR (xs := a0) rfl a0h0 underlying68 <| s_convU rfl underlying3 underlying25 <| s_build (parts := [(2, .tmp 11)]) (ps := [(2, vU (toU (a0.length : Int)), [vU (toU (a0.length : Int))])]) (cs := [vU 0, vU 0, vU (toU (a0.length : Int))]) zeroValue168 (BuildPl.arr underlying168 sizeOf25) rfl ⟨rfl, trivial⟩ rfl <| s_alloc S1 zeroValue168 fun b2 w2 S2 => s_stL (i := 0) S2 rfl rfl rfl sizeOf168 (oneC rfl (oneC rfl (oneC rfl oneN))) rfl fun w3 S3 => ?_
 replace S3 : St _ ((bx b2 [vU 0, vU 0, vU (toU (a0.length : Int))] 168) :: (bx b1 z_api_Sig 27) :: As) _ := S3
 clear S1 S2
 refine nx <| s_mvv (v := a0v0) rfl ?_
 obtain ⟨x1, q1, hm⟩ := obind_some hm
 refine s_call call137 (w_field_Of (a0 := a0) S3 a0h0 q1) rfl ?_
 rintro v1 w4 ⟨m1, l1, _, c1, S4, rfl, h1⟩
 clear S3
 refine s_asv (v := v1) rfl <| wpl_nil <| nrm ?_
 obtain ⟨x2, q2, hm⟩ := obind_some hm
 have L1 := Mem.rfl' m1
 refine wpc_seq <| wpc_join [4, 5, 6, 7, 8, 15, 16, 17, 18, 19, 20, 21, 22, 23, 24, 25, 26, 27, 28, 29, 30, 31, 32, 33, 34, 35, 36, 37, 38, 39, 40, 41, 42, 43, 44, 45] (fun f' w' => ∃ (M1 : Mem), m1 ≤ M1 ∧ St M1 ((bx b2 [vU x2.1, vU x2.2.1, vU x2.2.2] 168) :: (bx b1 z_api_Sig 27) :: As) w' ∧ AllAt f' []) ?_ ?_
 · refine ws <| s_asv (v := vb true) rfl <| wpl_nil <| nrm ?_
   obtain ⟨x3, q3, q2⟩ := obind_some q2
   have L2 := Mem.rfl' m1
   obtain ⟨m2, l2, h3, S5⟩ := St.rowKeepT (i := 0) S4 rfl h1 rfl
   clear S4
   refine wpc_join [4, 5, 6, 7, 8, 15, 16, 17, 18, 19, 20, 21, 22, 23, 24, 25, 26, 27, 28, 29, 30, 31, 32, 33, 34, 35, 36, 37, 38, 39, 40, 41, 42, 43, 44, 45] (fun f' w' => ∃ (M2 : Mem), m1 ≤ M2 ∧ St M2 ((bx b2 [vU x3.1, vU x3.2.1, vU x3.2.2] 168) :: (bx b1 z_api_Sig 27) :: As) w' ∧ AllAt f' []) ?_ ?_
   · refine wpc_block ?_
     replace L2 := Mem.tr L2 l2
     refine wpc_rounds [4, 5, 6, 7, 8, 15, 16, 17, 18, 19, 20, 21, 22, 23, 24, 25, 26, 27, 28, 29, 30, 31, 32, 33, 34, 35, 36, 37, 38, 39, 40, 41, 42, 43, 44, 45] (fun n1 f' w' => ∃ (s1 : (List UInt64) × Bool × UInt64 × UInt64 × UInt64) (m10 : Mem) (v2 : Value), iter m_hash_Sum_b3 n1 s1 = some x3 ∧ m1 ≤ m10 ∧ St m10 ((bx b2 [vU s1.2.2.1, vU s1.2.2.2.1, vU s1.2.2.2.2] 168) :: (bx b1 z_api_Sig 27) :: As) w' ∧ SlR m10 v2 s1.1 ∧ AllAt f' [(4, v2), (5, vb s1.2.1)]) FUEL ⟨(x1, true, 0, 0, (toU (a0.length : Int))), m2, _, q3, L2, S5, h3, ⟨rfl, rfl, trivial⟩⟩ ?_
     rintro n1 f1 w5 ho ⟨s1, m3, v2, q4, L4, S6, h2, ha⟩
     obtain ⟨u1, rfl⟩ := fr_of (N := 49) ho ha
     clear ho ha
     have L3 := Mem.rfl' m3
     clear S5
     cases n1 with
     | zero => exact (iter_zero q4).elim
     | succ n1 =>
      obtain ⟨y1, q6, q5⟩ := iter_succ q4
      unfold m_hash_Sum_b3 at q6
      refine wpc_seq <| ws <| s_mvv (v := vb s1.2.1) rfl <| s_mvv (v := vb s1.2.1) rfl <| wpl_cut 4 [17, 18, 19, 20] (fun f' w' => w' = w5 ∧ AllAt f' [(20, vb (s1.2.1 || (decide ((s1.1.length : Int) > 0))))]) ?_ ?_
      · rcases bool_tf s1.2.1 with hb1 | hb1
        · exact wpl_no (d := 16) rfl rfl (cb hb1) <| wpl_no (d := 16) rfl rfl (cb hb1) <| wpl_no (d := 16) rfl rfl (cb hb1) <| s_pickT (cb hb1) rfl <| wpl_nil (nrm ⟨outP, rfl, congrArg Value.bool (or_t hb1), trivial⟩)
        · exact wpl_yes (d := 16) rfl rfl (cb hb1) <| s_mvv (v := v2) rfl <| wpl_yes (d := 16) rfl rfl (cb hb1) <| s_lenR (xs := s1.1) rfl h2 underlying117 <| wpl_yes (d := 16) rfl rfl (cb hb1) <| s_gtr (m := (s1.1.length : Int)) (n := 0) rfl rfl <| s_pickF (cb hb1) rfl <| wpl_nil (nrm ⟨outP, rfl, congrArg Value.bool (or_f hb1), trivial⟩)
      rintro f2 w6 ho ⟨h4, ha⟩
      subst h4
      obtain ⟨u2, rfl⟩ := fr_of (N := 49) ho ha
      refine wpl_nil <| nrm <| wpc_if (t := (s1.2.1 || (decide ((s1.1.length : Int) > 0)))) rfl (fun hc1 => ?_) (fun hc1 => ?_)
      · replace q6 := ifT hc1 q6
        refine wpc_skip <| nrm <| wpc_seq <| wpc_block <| ws <| s_mvv (v := v2) rfl <| s_lenR (xs := s1.1) rfl h2 underlying117 <| s_minI (m := 2) rfl rfl <| s_asv (v := vI (minI 2 (s1.1.length : Int))) rfl <| wpl_nil <| nrm ?_
        obtain ⟨x5, q8, q6⟩ := obind_some q6
        have L5 := Mem.rfl' m3
        refine wpc_seq <| wpc_join [7, 8, 24, 25, 26, 27, 28, 29, 30, 31, 32, 33, 34, 35, 36, 37, 38, 39, 40] (fun f' w' => ∃ (M3 : Mem), m3 ≤ M3 ∧ St M3 ((bx b2 [vU x5.1, vU x5.2.1, vU x5.2.2] 168) :: (bx b1 z_api_Sig 27) :: As) w' ∧ AllAt f' []) ?_ ?_
        · refine ws <| s_mvv (v := v2) rfl <| s_mvv (v := vI (minI 2 (s1.1.length : Int))) rfl ?_
          obtain ⟨x6, q9, q8⟩ := obind_some q8
          refine s_cut (ys := x6) (l := 0) (h := (minI 2 (s1.1.length : Int))) rfl h2 underlying117 sizeOf25 (.inl ⟨rfl, rfl⟩) (.inr ⟨_, rfl⟩) (.inl rfl) q9 fun v3 h5 => s_lenR (xs := x6) rfl h5 underlying117 <| s_mvv (v := vI 0) rfl <| wpl_nil <| nrm ?_
          obtain ⟨x7, q10, q8⟩ := obind_some q8
          have L6 := Mem.rfl' m3
          refine wpc_join [7, 8, 28, 29, 30, 31, 32, 33, 34, 35, 36, 37, 38, 39, 40] (fun f' w' => ∃ (M4 : Mem), m3 ≤ M4 ∧ St M4 ((bx b2 [vU x7.1, vU x7.2.1, vU x7.2.2] 168) :: (bx b1 z_api_Sig 27) :: As) w' ∧ AllAt f' []) ?_ ?_
          · refine wpc_block <| wpc_rounds [7, 8, 28, 29, 30, 31, 32, 33, 34, 35, 36, 37, 38, 39, 40] (fun n2 f' w' => ∃ (i2 : Nat) (s2 : UInt64 × UInt64 × UInt64) (m6 : Mem), n2 = x6.length - i2 ∧ i2 ≤ x6.length ∧ eachN0 (m_hash_Sum_b4 x6) (x6.length - i2) (i2 : Int) s2 = some x7 ∧ m3 ≤ m6 ∧ St m6 ((bx b2 [vU s2.1, vU s2.2.1, vU s2.2.2] 168) :: (bx b1 z_api_Sig 27) :: As) w' ∧ AllAt f' [(28, vI (i2 : Int))]) x6.length ⟨0, (s1.2.2.1, s1.2.2.2.1, s1.2.2.2.2), m3, rfl, Nat.zero_le _, q10, L6, S6, ⟨rfl, trivial⟩⟩ ?_
            rintro n2 f3 w7 ho ⟨i2, s2, m4, hn, hi, q11, L8, S7, ha⟩
            obtain ⟨u3, rfl⟩ := fr_of (N := 49) ho ha
            clear ho ha
            have L7 := Mem.rfl' m4
            clear S6
            refine ws <| s_lss (m := (i2 : Int)) (n := (x6.length : Int)) rfl rfl <| wpl_nil <| nrm <| wpc_seq <| wpc_if (t := decide ((i2 : Int) < (x6.length : Int))) rfl (fun hc2 => ?_) (fun hc2 => ?_)
            · have hlt2 : i2 < x6.length := by have := of_decide_eq_true hc2; omega
              obtain ⟨y2, q13, q12⟩ := eachN0_in q11 hlt2
              unfold m_hash_Sum_b4 at q13
              refine wpc_skip <| nrm <| wpc_seq <| wpc_block <| ws <| s_mvv (v := vI (i2 : Int)) rfl ?_
              obtain ⟨x9, q15, q13⟩ := obind_some q13
              refine s_idx (q := x9) rfl rfl (h5.up L8) q15 underlying117 sizeOf25 fun p1 c2 h6 r2 => ?_
              obtain rfl : c2 = [vU x9] := r2
              refine s_ldM (cs := [vU x9]) S7 rfl h6 rfl isAgg25 sizeOf25 (fun _ => rfl) <| s_asv (v := vI (i2 : Int)) rfl <| s_asv (v := vU x9) rfl <| wpl_nil <| nrm <| wpc_region <| s_mvv (v := vI (i2 : Int)) rfl <| s_mvv (v := vI (i2 : Int)) rfl ?_
              obtain ⟨x10, q16, q13⟩ := obind_some q13
              refine s_idxA (i := (i2 : Int)) rfl rfl underlying168 sizeOf25 (idx_rng q16).1 (idx_rng q16).2 <| s_ld (i := 0) (off := 0 + (i2 : Int).toNat * 1) (cs := [vU x10]) S7 rfl rfl isAgg25 sizeOf25 (by rcases idx3 q16 with ⟨h, h'⟩ | ⟨h, h'⟩ | ⟨h, h'⟩ <;> (rw [h, h']; rfl)) (fun _ => rfl) <| s_mvv (v := vU x9) rfl ?_
              obtain ⟨x11, q17, q13⟩ := obind_some q13
              refine s_call call138 (v_field_Add (a0 := x10) (a1 := x9) S7  q17) rfl ?_
              rintro _ w8 ⟨m5, l3, S8, rfl⟩
              clear S7
              obtain ⟨x12, q18, q13⟩ := obind_some q13
              refine s_idxA (i := (i2 : Int)) rfl rfl underlying168 sizeOf25 (idx_rng q18).1 (idx_rng q18).2 ?_
              obtain ⟨x13, q19, q13⟩ := bnd_eq q13
              obtain ⟨x14, q20, q13⟩ := bnd_eq q13
              obtain ⟨x15, q21, q13⟩ := bnd_eq q13
              refine s_st (i := 0) (off := 0 + (i2 : Int).toNat * 1) S8 rfl rfl rfl sizeOf25 (OneL.all (oneC rfl oneN)) (by rcases idx3 q18 with ⟨h, h'⟩ | ⟨h, h'⟩ | ⟨h, h'⟩ <;> (rw [h]; exact nb rfl)) fun w9 S9 => ?_
              replace S9 := St.cellsTo (i := 0) (l' := [vU x13, vU x14, vU x15]) S9 (by rcases idx3 q18 with ⟨h, h'⟩ | ⟨h, h'⟩ | ⟨h, h'⟩ <;> (simp only [q19, q20, q21, h]; rfl)) rfl
              replace S9 : St _ ((bx b2 [vU x13, vU x14, vU x15] 168) :: (bx b1 z_api_Sig 27) :: As) _ := S9
              clear S8
              refine wpl_nil <| nrmB <| nrm <| wpc_region <| s_addI (m := (i2 : Int)) (n := 1) rfl rfl <| s_mvv (v := vI (w64 ((i2 : Int) + 1))) rfl <| wpl_nil <| nrm ?_
              have e0 := Option.some.inj q13
              subst e0
              replace h5 := h5.up (mt L8 l3)
              replace L7 := Mem.tr L7 l3
              exact ⟨outP, _, (by omega), ⟨i2 + 1, (x13, x14, x15), m5, rfl, hlt2, q12, Mem.tr L8 L7, S9, ⟨congrArg (Value.int .i64) (w64_succ hlt2 (SlR.le h5)), trivial⟩⟩⟩
            have hlt2 : ¬ i2 < x6.length := by have := of_decide_eq_false hc2; omega
            have e := Eq.symm (eachN0_out q11 hlt2)
            subst e
            exact wpc_exit <| thE <| thE <| exB <| nrm <| ⟨outP, m4, Mem.tr L8 L7, S7, trivial⟩
          rintro f4 w10 ho ⟨m7, l4, S10, ha⟩
          obtain ⟨u4, rfl⟩ := fr_of (N := 49) ho ha
          clear ho ha S6
          have e0 := Option.some.inj q8
          subst e0
          replace L5 := Mem.tr L5 l4
          exact ⟨outP, m7, L5, S10, trivial⟩
        rintro f5 w11 ho ⟨m8, l5, S11, ha⟩
        obtain ⟨u5, rfl⟩ := fr_of (N := 49) ho ha
        clear S6
        refine ws <| s_mvv (v := v2) rfl <| s_mvv (v := vI (minI 2 (s1.1.length : Int))) rfl ?_
        obtain ⟨x16, q22, q6⟩ := obind_some q6
        refine s_cut (ys := x16) (l := (minI 2 (s1.1.length : Int))) (h := (s1.1.length : Int)) rfl (h2.up l5) underlying117 sizeOf25 (.inr ⟨_, rfl⟩) (.inl ⟨rfl, rfl⟩) (.inl rfl) q22 fun v4 h7 => s_asv (v := v4) rfl <| wpl_nil <| nrm <| wpc_region <| s_ld (i := 0) (cs := [vU x5.1, vU x5.2.1, vU x5.2.2]) S11 rfl rfl isAgg168 sizeOf168 rfl (fun h => by cases h) ?_
        obtain ⟨x17, q23, q6⟩ := obind_some q6
        refine s_call call139 (w_hash_Mix (a0 := x5) S11  q23) rfl ?_
        rintro _ w12 ⟨m9, l6, S12, rfl⟩
        clear S11
        refine s_stL (i := 0) S12 rfl rfl rfl sizeOf168 (oneC rfl (oneC rfl (oneC rfl oneN))) rfl fun w13 S13 => ?_
        replace S13 : St _ ((bx b2 [vU x17.1, vU x17.2.1, vU x17.2.2] 168) :: (bx b1 z_api_Sig 27) :: As) _ := S13
        clear S12
        refine wpl_nil <| nrmB <| nrm <| wpc_region <| s_asv (v := vb false) rfl <| wpl_nil <| nrm ?_
        have e0 := Option.some.inj q6
        subst e0
        rcases q5 with ⟨sn, e, q5'⟩ | e
        · cases e
          replace L3 := Mem.tr L3 (mt l5 l6)
          exact ⟨outP, _, Nat.lt_succ_self _, ⟨_, m9, _, q5', Mem.tr L4 L3, S13, (h7.up l6), ⟨rfl, rfl, trivial⟩⟩⟩
        · cases e
      replace q6 := ifF hc1 q6
      refine wpc_exit <| thE <| thE <| exB <| nrm ?_
      have e0 := Option.some.inj q6
      subst e0
      rcases q5 with ⟨sn, e, _⟩ | e
      · cases e
      · cases e
        exact ⟨outP, m3, Mem.tr L4 L3, S6, trivial⟩
   rintro f6 w14 ho ⟨m11, l7, S14, ha⟩
   obtain ⟨u6, rfl⟩ := fr_of (N := 49) ho ha
   clear ho ha S5
   have e0 := Option.some.inj q2
   subst e0
   replace L1 := Mem.tr L1 l7
   exact ⟨outP, m11, L1, S14, trivial⟩
 rintro f7 w15 ho ⟨m12, l8, S15, ha⟩
 obtain ⟨u7, rfl⟩ := fr_of (N := 49) ho ha
 clear S4
 refine ws <| s_sliceA (k := 2) (n := 3) (sz := 1) rfl underlying168 sizeOf25 (.inr ⟨_, rfl⟩) (by decide) <| s_toArr rfl underlying27 (by decide) <| s_ld (i := 0) (cs := [vU x2.1, vU x2.2.1]) S15 rfl rfl isAgg27 sizeOf27 rfl (fun h => by cases h) <| s_stL (i := 1) S15 rfl rfl rfl sizeOf27 (oneC rfl (oneC rfl oneN)) rfl fun w16 S16 => ?_
 replace S16 : St _ ((bx b2 [vU x2.1, vU x2.2.1, vU x2.2.2] 168) :: (bx b1 [vU x2.1, vU x2.2.1] 27) :: As) _ := S16
 clear S15
 refine wpl_nil <| nrm <| wpc_ret <| outRw fun we hpd => ?_
 replace S16 := St.pd S16 hpd
 have SR := S16
 obtain ⟨m13, l9, S17⟩ := St.drop S16 0
 replace S17 : St _ ((bx b1 [vU x2.1, vU x2.2.1] 27) :: As) _ := S17
 obtain ⟨m14, l10, S18⟩ := St.drop S17 0
 clear S17
 replace S18 : St _ (As) _ := S18
 have e0 := Option.some.inj hm
 subst e0
 replace L0 := Mem.tr L0 (mt l1 (mt l8 (mt l9 l10)))
 exact outR [_] rfl ⟨res_box (i := 1) (off := 0) (cs := [vU x2.1, vU x2.2.1]) SR rfl rfl isAgg27 sizeOf27 rfl (fun h => by cases h), trivial⟩ ⟨_, L0, S18, rfl⟩
theorem s_hash_Sum {a0 : List UInt8} {r : UInt64 × UInt64} (hm : m_hash_Sum a0 = some r) : Sf prog 116 [sl eB a0] (ag (e_a2_eU r)) :=
  ⟨call116, fun η m As w vs hv0 hd S => by
    have S : St m As w := S
    obtain ⟨v0, u0, rfl, r0, hv1⟩ := RelL.cons_inv hv0
    have f0 := Br.ofS Br.b r0.dd
    obtain rfl := RelL.nil_inv hv1
    refine CallsR.mono (w_hash_Sum S f0 hm) ?_
    rintro v w' ⟨M, hle, S0, rfl⟩
    exact ⟨M, none0, _, _, _, hle, dom0 hd _, ⟨rfl, rfl, rfl⟩, fun n h => absurd rfl h, (Br.toA b_a2_eU (mk_arr2_UInt64)), S0⟩⟩
def m_hash_Tagged_b2  (i1 : Int) (x4 : List UInt8) (s1 : (List UInt8)) : Option ((List UInt8)) :=
  obind (m_hash_put s1 (toU (x4.length : Int)) 4) fun x5 =>
  obind (app 1 x5 x4) fun x6 =>
  some x6
def m_hash_Tagged (a0 : ByteArray) (a1 : List (List UInt8)) : Option (UInt64 × UInt64) :=
  obind (app 1 ([(toB (a0.size : Int))] : List UInt8) a0.data.toList) fun x1 =>
  obind (
    obind (each0 m_hash_Tagged_b2 a1 0 x1) fun x3 =>
    some x3
  ) fun x2 =>
  obind (m_hash_Sum x2) fun x7 =>
  some x7
theorem w_hash_Tagged {a0 : ByteArray} {a1 : List (List UInt8)} {r : UInt64 × UInt64} (hm : m_hash_Tagged a0 a1 = some r) : Sf prog 91 [.d (.s a0), sl (eL eB) a1] (ag (e_a2_eU r)) :=
  sp call91 func91 rfl ntmps91 rfl fun D0 As η0 m0 hd => by
    unfold m_hash_Tagged at hm
    refine glit (k := 1) eB ([(toB (a0.size : Int))] : List UInt8) (fun _ => rfl) (by kernel_rfl) ?_
    obtain ⟨x1, q1, hm⟩ := obind_some hm
    refine gapS q1 (by kernel_rfl) ?_
    obtain ⟨x2, q2, hm⟩ := obind_some hm
    obtain ⟨x3, q3, q2⟩ := obind_some q2
    refine glen 0 (E := (eL eB)) (xs := a1) 14 (by kernel_rfl) fun hle1 => ?_
    refine gjU 0 (fun (_ : Unit) => ⟨[(4, .pb 0 0), (5, .ow 1)], [(0, .row 1 1 _ eB x2), (1, .box 0 [.d (.u 0), .d (.u 0)] 27)], [], 2⟩) (fun _ => True) (by kernel_rfl) (fun Jp bk1 => ?_) fun _ _ => ?_
    · refine gjU 0 (fun (_ : Unit) => ⟨[(4, .pb 0 0), (5, .ow 1)], [(0, .row 1 1 _ eB x3), (1, .box 0 [.d (.u 0), .d (.u 0)] 27)], [], 2⟩) (fun _ => True) (by kernel_rfl) (fun Jp bk2 => ?_) fun _ _ => ?_
      · refine gl hd (fun (p : Int × ((List UInt8))) => let (p0, p_0) := p; ⟨[(4, .pb 0 0), (5, .ow 1), (14, sl (eL eB) a1), (15, .d (.i (a1.length : Int))), (16, .d (.i p0))], [(0, .row 1 1 _ eB p_0), (1, .box 0 [.d (.u 0), .d (.u 0)] 27)], [], 2⟩) (fun p => ∃ i : Nat, p.1 = (i : Int) ∧ i ≤ a1.length ∧ each0 m_hash_Tagged_b2 (a1.drop i) (i : Int) p.2 = some x3) (fun p => a1.length - p.1.toNat) (0, x1) ⟨0, rfl, Nat.zero_le _, q3⟩ (by kernel_rfl) ?_
        rintro ⟨_, s1⟩ ⟨i1, rfl, hi, q4⟩ Jl bl1
        refine gi' (b := decide ((i1 : Int) < (a1.length : Int))) (by kernel_rfl) (fun hc1 => ?_) fun hc1 => ?_
        · have hlt1 : i1 < a1.length := by have := of_decide_eq_true hc1; omega
          obtain ⟨x4, y1, q7, q6, q5⟩ := each0_in q4 hlt1
          unfold m_hash_Tagged_b2 at q6
          refine gidx (k := 1) (E := (eL eB)) (fun _ => rfl) (fun _ => q7) (by kernel_rfl) ?_
          obtain ⟨x5, q8, q6⟩ := obind_some q6
          refine gco (w_hash_put q8) (by kernel_rfl) ?_
          obtain ⟨x6, q9, q6⟩ := obind_some q6
          refine gapp (k := 1) (E := eB) (fun _ => rfl) q9 (by kernel_rfl) ?_
          have e0 := Option.some.inj q6
          subst e0
          exact gb bl1 hd (w64 ((i1 : Int) + 1), x6) ⟨⟨i1 + 1, w64_succ hlt1 hle1, by omega, q5⟩, mu_lt hlt1 hle1⟩ (by kernel_rfl)
        have hlt1 : ¬ i1 < a1.length := by have := of_decide_eq_false hc1; omega
        have e := Eq.symm (each0_out q4 hlt1)
        subst e
        exact gb bk2 hd () trivial (by kernel_rfl)
      have e0 := Option.some.inj q2
      subst e0
      exact gb bk1 hd () trivial (by kernel_rfl)
    obtain ⟨x7, q10, hm⟩ := obind_some hm
    refine gco (s_hash_Sum q10) (by kernel_rfl) ?_
    have e0 := Option.some.inj hm
    subst e0
    exact gend hd (by kernel_rfl)
theorem v_hash_Tagged {m : Mem} {As : List Ow} {w : World} {a0 : ByteArray} {a1 : List (List UInt8)} {a1v0 : Value} {r : UInt64 × UInt64} (S : St m As w) (a1h0 : SlR m a1v0 a1) (hm : m_hash_Tagged a0 a1 = some r) :
    CallsR prog 91 #[vS a0, a1v0] w fun v w' => ∃ (M : Mem), m ≤ M ∧ St M (As) w' ∧ v = .agg #[vU r.1, vU r.2] := by
  refine CallsR.mono ((w_hash_Tagged hm).2 none0 m As w [vS a0, a1v0] (.cons (.d (.s _)) (.cons (.d (Br.toS (Br.sl Br.b) a1h0)) .nil)) (fun n h => absurd rfl h) S) ?_
  rintro v w' ⟨M, η', r', obs', n1, hle, _, ⟨rfl, rfl, rfl⟩, hdom, hR, S'⟩
  obtain ⟨c0, rfl, g0⟩ := Br.ofA b_a2_eU hR
  obtain rfl := rep_arr2_UInt64 g0
  exact ⟨M, hle, S', rfl⟩
def m_sign_bytes_b2 (a0 : UInt64) (i1 : Int) (s1 : UInt8 × UInt8 × UInt8 × UInt8 × UInt8 × UInt8 × UInt8 × UInt8) : Option (UInt8 × UInt8 × UInt8 × UInt8 × UInt8 × UInt8 × UInt8 × UInt8) :=
  if (0 : Int) ≤ (w64 (8 * (i1 : Int))) then
    obind (idx [s1.1, s1.2.1, s1.2.2.1, s1.2.2.2.1, s1.2.2.2.2.1, s1.2.2.2.2.2.1, s1.2.2.2.2.2.2.1, s1.2.2.2.2.2.2.2] (w64 (7 - (i1 : Int)))) fun x4 =>
    bnd (if (w64 (7 - (i1 : Int))) = 0 then (toB ((shrU a0 ((w64 (8 * (i1 : Int))).toNat)).toNat : Int)) else s1.1) fun x5 =>
    bnd (if (w64 (7 - (i1 : Int))) = 1 then (toB ((shrU a0 ((w64 (8 * (i1 : Int))).toNat)).toNat : Int)) else s1.2.1) fun x6 =>
    bnd (if (w64 (7 - (i1 : Int))) = 2 then (toB ((shrU a0 ((w64 (8 * (i1 : Int))).toNat)).toNat : Int)) else s1.2.2.1) fun x7 =>
    bnd (if (w64 (7 - (i1 : Int))) = 3 then (toB ((shrU a0 ((w64 (8 * (i1 : Int))).toNat)).toNat : Int)) else s1.2.2.2.1) fun x8 =>
    bnd (if (w64 (7 - (i1 : Int))) = 4 then (toB ((shrU a0 ((w64 (8 * (i1 : Int))).toNat)).toNat : Int)) else s1.2.2.2.2.1) fun x9 =>
    bnd (if (w64 (7 - (i1 : Int))) = 5 then (toB ((shrU a0 ((w64 (8 * (i1 : Int))).toNat)).toNat : Int)) else s1.2.2.2.2.2.1) fun x10 =>
    bnd (if (w64 (7 - (i1 : Int))) = 6 then (toB ((shrU a0 ((w64 (8 * (i1 : Int))).toNat)).toNat : Int)) else s1.2.2.2.2.2.2.1) fun x11 =>
    bnd (if (w64 (7 - (i1 : Int))) = 7 then (toB ((shrU a0 ((w64 (8 * (i1 : Int))).toNat)).toNat : Int)) else s1.2.2.2.2.2.2.2) fun x12 =>
    some (x5, x6, x7, x8, x9, x10, x11, x12)
  else none
def m_sign_bytes (a0 : UInt64) : Option (List UInt8) :=
  obind (
    obind (eachN0 (m_sign_bytes_b2 a0) 8 0 (0, 0, 0, 0, 0, 0, 0, 0)) fun x2 =>
    some (x2.1, x2.2.1, x2.2.2.1, x2.2.2.2.1, x2.2.2.2.2.1, x2.2.2.2.2.2.1, x2.2.2.2.2.2.2.1, x2.2.2.2.2.2.2.2)
  ) fun x1 =>
  some ([x1.1, x1.2.1, x1.2.2.1, x1.2.2.2.1, x1.2.2.2.2.1, x1.2.2.2.2.2.1, x1.2.2.2.2.2.2.1, x1.2.2.2.2.2.2.2] : List UInt8)
theorem w_sign_bytes {m : Mem} {As : List Ow} {w : World} {a0 : UInt64} {r : List UInt8} (S : St m (As) w) (hm : m_sign_bytes a0 = some r) :
    CallsR Tryz.prog 94 #[vU a0] w fun v w' => ∃ (M : Mem), m ≤ M ∧ ∃ (rv0 : Value) (rc0 : List Value), St M ((row 1 rv0 rc0 r.length) :: As) w' ∧ v = rv0 ∧ RepL M rc0 r := by
 unfold m_sign_bytes at hm
 have L0 := Mem.rfl' m
 refine callsR (args := [vU a0]) func94 rfl ntmps94 (nb rfl) <| ws <| s_asv (v := .slice none 0 0) rfl <| nx <| s_alloc S zeroValue147 fun b1 w1 S1 => ?_
 replace S1 : St _ ((bx b1 [vB 0, vB 0, vB 0, vB 0, vB 0, vB 0, vB 0, vB 0] 147) :: As) _ := S1
 clear S
 refine wpl_nil <| nrm ?_
 obtain ⟨x1, q1, hm⟩ := obind_some hm
 have L1 := Mem.rfl' m
 refine wpc_seq <| wpc_join (rg 4 13) (fun f' w' => ∃ (M1 : Mem), m ≤ M1 ∧ St M1 ((bx b1 [vB x1.1, vB x1.2.1, vB x1.2.2.1, vB x1.2.2.2.1, vB x1.2.2.2.2.1, vB x1.2.2.2.2.2.1, vB x1.2.2.2.2.2.2.1, vB x1.2.2.2.2.2.2.2] 147) :: As) w' ∧ AllAt f' []) ?_ ?_
 · refine ws <| s_mvv (v := vI 0) rfl <| wpl_nil <| nrm ?_
   obtain ⟨x2, q2, q1⟩ := obind_some q1
   have L2 := Mem.rfl' m
   refine wpc_join (rg 4 13) (fun f' w' => ∃ (M2 : Mem), m ≤ M2 ∧ St M2 ((bx b1 [vB x2.1, vB x2.2.1, vB x2.2.2.1, vB x2.2.2.2.1, vB x2.2.2.2.2.1, vB x2.2.2.2.2.2.1, vB x2.2.2.2.2.2.2.1, vB x2.2.2.2.2.2.2.2] 147) :: As) w' ∧ AllAt f' []) ?_ ?_
   · refine wpc_block <| wpc_rounds (rg 4 13) (fun n1 f' w' => ∃ (i1 : Nat) (s1 : UInt8 × UInt8 × UInt8 × UInt8 × UInt8 × UInt8 × UInt8 × UInt8) (m2 : Mem), n1 = 8 - i1 ∧ i1 ≤ 8 ∧ eachN0 (m_sign_bytes_b2 a0) (8 - i1) (i1 : Int) s1 = some x2 ∧ m ≤ m2 ∧ St m2 ((bx b1 [vB s1.1, vB s1.2.1, vB s1.2.2.1, vB s1.2.2.2.1, vB s1.2.2.2.2.1, vB s1.2.2.2.2.2.1, vB s1.2.2.2.2.2.2.1, vB s1.2.2.2.2.2.2.2] 147) :: As) w' ∧ AllAt f' [(5, vI (i1 : Int))]) 8 ⟨0, (0, 0, 0, 0, 0, 0, 0, 0), m, rfl, Nat.zero_le _, q2, L2, S1, ⟨rfl, trivial⟩⟩ ?_
     rintro n1 f1 w2 ho ⟨i1, s1, m1, hn, hi, q3, L4, S2, ha⟩
     obtain ⟨u1, rfl⟩ := fr_of (N := 18) ho ha
     clear ho ha
     have L3 := Mem.rfl' m1
     clear S1
     refine ws <| s_lss (m := (i1 : Int)) (n := 8) rfl rfl <| wpl_nil <| nrm <| wpc_seq <| wpc_if (t := decide ((i1 : Int) < (8 : Int))) rfl (fun hc1 => ?_) (fun hc1 => ?_)
     · have hlt1 : i1 < 8 := by have := of_decide_eq_true hc1; omega
       obtain ⟨y1, q5, q4⟩ := eachN0_in q3 hlt1
       unfold m_sign_bytes_b2 at q5
       refine wpc_skip <| nrm <| wpc_seq <| wpc_block <| ws <| s_mvv (v := vI (i1 : Int)) rfl <| s_asv (v := vI (i1 : Int)) rfl <| wpl_nil <| nrm <| wpc_region <| s_mvv (v := vI (i1 : Int)) rfl <| s_subI (m := 7) (n := (i1 : Int)) rfl rfl <| s_mvv (v := vU a0) rfl <| s_mvv (v := vI (i1 : Int)) rfl <| s_mulI (m := 8) (n := (i1 : Int)) rfl rfl ?_
       obtain ⟨q7, q5⟩ := if_some q5
       refine s_shrU (m := a0) (n := (w64 (8 * (i1 : Int)))) rfl rfl q7 <| s_convB rfl underlying25 underlying5 ?_
       obtain ⟨x4, q8, q5⟩ := obind_some q5
       refine s_idxA (i := (w64 (7 - (i1 : Int)))) rfl rfl underlying147 sizeOf5 (idx_rng q8).1 (idx_rng q8).2 ?_
       obtain ⟨x5, q9, q5⟩ := bnd_eq q5
       obtain ⟨x6, q10, q5⟩ := bnd_eq q5
       obtain ⟨x7, q11, q5⟩ := bnd_eq q5
       obtain ⟨x8, q12, q5⟩ := bnd_eq q5
       obtain ⟨x9, q13, q5⟩ := bnd_eq q5
       obtain ⟨x10, q14, q5⟩ := bnd_eq q5
       obtain ⟨x11, q15, q5⟩ := bnd_eq q5
       obtain ⟨x12, q16, q5⟩ := bnd_eq q5
       refine s_st (i := 0) (off := 0 + (w64 (7 - (i1 : Int))).toNat * 1) S2 rfl rfl rfl sizeOf5 (OneL.all (oneC rfl oneN)) (by rcases idx8 q8 with ⟨h, h'⟩ | ⟨h, h'⟩ | ⟨h, h'⟩ | ⟨h, h'⟩ | ⟨h, h'⟩ | ⟨h, h'⟩ | ⟨h, h'⟩ | ⟨h, h'⟩ <;> (rw [h]; exact nb rfl)) fun w3 S3 => ?_
       replace S3 := St.cellsTo (i := 0) (l' := [vB x5, vB x6, vB x7, vB x8, vB x9, vB x10, vB x11, vB x12]) S3 (by rcases idx8 q8 with ⟨h, h'⟩ | ⟨h, h'⟩ | ⟨h, h'⟩ | ⟨h, h'⟩ | ⟨h, h'⟩ | ⟨h, h'⟩ | ⟨h, h'⟩ | ⟨h, h'⟩ <;> (simp only [q9, q10, q11, q12, q13, q14, q15, q16, h]; rfl)) rfl
       replace S3 : St _ ((bx b1 [vB x5, vB x6, vB x7, vB x8, vB x9, vB x10, vB x11, vB x12] 147) :: As) _ := S3
       clear S2
       refine wpl_nil <| nrmB <| nrm <| wpc_region <| s_addI (m := (i1 : Int)) (n := 1) rfl rfl <| s_mvv (v := vI (w64 ((i1 : Int) + 1))) rfl <| wpl_nil <| nrm ?_
       have e0 := Option.some.inj q5
       subst e0
       exact ⟨outP, _, (by omega), ⟨i1 + 1, (x5, x6, x7, x8, x9, x10, x11, x12), m1, rfl, hlt1, q4, Mem.tr L4 L3, S3, ⟨congrArg (Value.int .i64) (w64_succ hlt1 (by decide)), trivial⟩⟩⟩
     have hlt1 : ¬ i1 < 8 := by have := of_decide_eq_false hc1; omega
     have e := Eq.symm (eachN0_out q3 hlt1)
     subst e
     exact wpc_exit <| thE <| thE <| exB <| nrm <| ⟨outP, m1, Mem.tr L4 L3, S2, trivial⟩
   rintro f2 w4 ho ⟨m3, l1, S4, ha⟩
   obtain ⟨u2, rfl⟩ := fr_of (N := 18) ho ha
   clear ho ha S1
   have e0 := Option.some.inj q1
   subst e0
   replace L1 := Mem.tr L1 l1
   exact ⟨outP, m3, L1, S4, trivial⟩
 rintro f3 w5 ho ⟨m4, l2, S5, ha⟩
 obtain ⟨u3, rfl⟩ := fr_of (N := 18) ho ha
 clear S1
 refine ws <| s_sliceA (k := 8) (n := 8) (sz := 1) (off := 0) rfl underlying147 sizeOf5 (.inl ⟨rfl, rfl⟩) (Nat.le_refl _) ?_
 have S6 := St.bxRow (i := 0) (sz := 1) (n := 8) S5 rfl rfl (by decide)
 have h1 : RepL m4 [vB x1.1, vB x1.2.1, vB x1.2.2.1, vB x1.2.2.2.1, vB x1.2.2.2.2.1, vB x1.2.2.2.2.2.1, vB x1.2.2.2.2.2.2.1, vB x1.2.2.2.2.2.2.2] ([x1.1, x1.2.1, x1.2.2.1, x1.2.2.2.1, x1.2.2.2.2.1, x1.2.2.2.2.2.1, x1.2.2.2.2.2.2.1, x1.2.2.2.2.2.2.2] : List UInt8) := (RepL.cons (c := [vB x1.1]) rfl (RepL.cons (c := [vB x1.2.1]) rfl (RepL.cons (c := [vB x1.2.2.1]) rfl (RepL.cons (c := [vB x1.2.2.2.1]) rfl (RepL.cons (c := [vB x1.2.2.2.2.1]) rfl (RepL.cons (c := [vB x1.2.2.2.2.2.1]) rfl (RepL.cons (c := [vB x1.2.2.2.2.2.2.1]) rfl (RepL.cons (c := [vB x1.2.2.2.2.2.2.2]) rfl RepL.nil))))))))
 replace S6 : St _ ((row 1 (.slice (some ⟨b1, 0, none⟩) 8 8) [vB x1.1, vB x1.2.1, vB x1.2.2.1, vB x1.2.2.2.1, vB x1.2.2.2.2.1, vB x1.2.2.2.2.2.1, vB x1.2.2.2.2.2.2.1, vB x1.2.2.2.2.2.2.2] ([x1.1, x1.2.1, x1.2.2.1, x1.2.2.2.1, x1.2.2.2.2.1, x1.2.2.2.2.2.1, x1.2.2.2.2.2.2.1, x1.2.2.2.2.2.2.2] : List UInt8).length) :: As) _ := S6
 clear S5
 refine s_asv (v := (.slice (some ⟨b1, 0, none⟩) 8 8)) rfl <| wpl_nil <| nrm <| wpc_ret <| outRw fun we hpd => ?_
 replace S6 := St.pd S6 hpd
 have e0 := Option.some.inj hm
 subst e0
 replace L0 := Mem.tr L0 l2
 exact outR [_] rfl ⟨rfl, trivial⟩ ⟨_, L0, _, _, S6, rfl, h1⟩
theorem s_sign_bytes {a0 : UInt64} {r : List UInt8} (hm : m_sign_bytes a0 = some r) : Sp prog 94 [.d (.u a0)] [] 0 (is (.ow 0) [.row 0 1 _ eB r] 1) :=
  ⟨call94, fun η m As w vs hv0 hd S => by
    have S : St m As w := S
    obtain ⟨v0, u0, rfl, r0, hv1⟩ := RelL.cons_inv hv0
    obtain rfl := r0.u_inv
    obtain rfl := RelL.nil_inv hv1
    refine CallsR.mono (w_sign_bytes S  hm) ?_
    rintro v w' ⟨M, hle, y0, c0, S0, rfl, h0⟩
    exact ⟨M, (envL [v]), _, _, _, hle, dom0 hd _, ⟨rfl, rfl, rfl⟩, envL_dom rfl, (.ow rfl (row_one S0)), (St.impL S0 (sepC (Br.toR Br.b rfl rfl (row_one S0) h0) fun _ h => h))⟩⟩
def m_hash_Num (a0 : UInt64 × UInt64) (a1 : UInt64) : Option UInt64 :=
  if ((a1.toNat : Int) == 0) = true then
    some 0
  else
  obind (m_bits_Mul64 a0.1 2305843009213693952) fun x1 =>
  if a1 ≠ 0 then
    obind (m_bits_Div64 ((x1.1 + (carryU x1.2 a0.2)) % a1) (x1.2 + a0.2) a1) fun x2 =>
    some x2.2
  else none
theorem w_hash_Num {a0 : UInt64 × UInt64} {a1 : UInt64} {r : UInt64} (hm : m_hash_Num a0 a1 = some r) : Sf prog 109 [ag (e_a2_eU a0), .d (.u a1)] (.d (.u r)) :=
  sp call109 func109 rfl ntmps109 rfl fun D0 As η0 m0 hd => by
    unfold m_hash_Num at hm
    refine gi hm (by kernel_rfl) (fun hc1 hm => ?_) fun hc1 hm => ?_
    · skip
      have e0 := Option.some.inj hm
      subst e0
      exact gend hd (by kernel_rfl)
    obtain ⟨x1, q1, hm⟩ := obind_some hm
    refine gc (fun _ => w_bits_Mul64 q1) (by kernel_rfl) ?_
    refine gadd64 (p := x1.2) (q := a0.2) func132 (by kernel_rfl) (by kernel_rfl) (by kernel_rfl) (by kernel_rfl) (by kernel_rfl) ?_
    obtain ⟨q2, hm⟩ := if_some hm
    refine gquo (d := .u a1) (r := .u ((x1.1 + (carryU x1.2 a0.2)) % a1)) (fun h => q2) (by kernel_rfl) ?_
    obtain ⟨x2, q3, hm⟩ := obind_some hm
    refine gc (fun _ => w_bits_Div64 q3) (by kernel_rfl) ?_
    have e0 := Option.some.inj hm
    subst e0
    exact gend hd (by kernel_rfl)
def m_sign_Challenge (a0 : UInt64) (a1 : UInt64) (a2 : List UInt8) : Option UInt64 :=
  obind (m_sign_bytes a0) fun x1 =>
  obind (m_sign_bytes a1) fun x2 =>
  obind (m_hash_Tagged (⟨#[115, 105, 103, 110]⟩ : ByteArray) ([x1, x2, a2] : List (List UInt8))) fun x3 =>
  obind (m_hash_Num x3 1152921504606845789) fun x4 =>
  some x4
theorem w_sign_Challenge {a0 : UInt64} {a1 : UInt64} {a2 : List UInt8} {r : UInt64} (hm : m_sign_Challenge a0 a1 a2 = some r) : Sf prog 95 [.d (.u a0), .d (.u a1), sl eB a2] (.d (.u r)) :=
  sp call95 func95 rfl ntmps95 rfl fun D0 As η0 m0 hd => by
    unfold m_sign_Challenge at hm
    obtain ⟨x1, q1, hm⟩ := obind_some hm
    refine gco (s_sign_bytes q1) (by kernel_rfl) ?_
    obtain ⟨x2, q2, hm⟩ := obind_some hm
    refine gco (s_sign_bytes q2) (by kernel_rfl) ?_
    refine glitV (k := 1) (eL eB) ([x1, x2, a2] : List (List UInt8)) (fun _ => rfl) (by kernel_rfl) ?_
    obtain ⟨x3, q3, hm⟩ := obind_some hm
    refine gc (fun _ => w_hash_Tagged q3) (by kernel_rfl) ?_
    obtain ⟨x4, q4, hm⟩ := obind_some hm
    refine gc (fun _ => w_hash_Num q4) (by kernel_rfl) ?_
    have e0 := Option.some.inj hm
    subst e0
    exact gend hd (by kernel_rfl)
def m_cyclic_In (a0 : UInt64) : Option Bool :=
  obind (gu ((decide ((a0.toNat : Int) > 0)) && (decide ((a0.toNat : Int) < 2305843009213691579))) (m_cyclic_Pow a0 1152921504606845789)) fun x1 =>
  bnd ((((decide ((a0.toNat : Int) > 0)) && (decide ((a0.toNat : Int) < 2305843009213691579))) && ((x1.toNat : Int) == 1))) fun x2 =>
  some x2
theorem w_cyclic_In {a0 : UInt64} {r : Bool} (hm : m_cyclic_In a0 = some r) : Sf prog 103 [.d (.u a0)] (.d (.t r)) :=
  sp call103 func103 rfl ntmps103 rfl fun D0 As η0 m0 hd => by
    unfold m_cyclic_In at hm
    obtain ⟨x1, q1, hm⟩ := obind_some hm
    refine gcG (fun h => s_cyclic_Pow (gu_t h q1)) (by kernel_rfl) ?_
    have hm := bnd_is hm
    let x2 : Bool := ((((decide ((a0.toNat : Int) > 0)) && (decide ((a0.toNat : Int) < 2305843009213691579))) && ((x1.toNat : Int) == 1)))
    have e0 := Option.some.inj hm
    subst e0
    exact gend hd (by kernel_rfl)
def m_cyclic_ring_inverse_b1  (s1 : UInt64 × UInt64 × Int × Int) : Option ((UInt64 × UInt64 × Int × Int) ⊕ (Int)) :=
  if ((s1.2.1.toNat : Int) != 0) = true then
    if s1.2.1 ≠ 0 then
      bnd ((s1.1 - ((s1.1 / s1.2.1) * s1.2.1))) fun x4 =>
      bnd ((w64 (s1.2.2.1 - (w64 ((w64 ((s1.1 / s1.2.1).toNat : Int)) * s1.2.2.2))))) fun x5 =>
      some (.inl (s1.2.1, x4, s1.2.2.2, x5))
    else none
  else
  some (.inr s1.2.2.1)
def m_cyclic_ring_inverse (a0 : UInt64) (a1 : UInt64) : Option (UInt64 × Int) :=
  if a0 ≠ 0 then
    if (((a1 % a0).toNat : Int) == 0) = true then
      some (0, 10)
    else
    obind (
      obind (iter m_cyclic_ring_inverse_b1 FUEL ((a1 % a0), a0, 1, 0)) fun x2 =>
      some x2
    ) fun x1 =>
    obind (
      if (decide (x1 < 0)) = true then
        bnd ((w64 (x1 + (w64 (a0.toNat : Int))))) fun x7 =>
        some x7
      else
      some x1
    ) fun x6 =>
    some ((toU x6), 0)
  else none
theorem w_cyclic_ring_inverse {a0 : UInt64} {a1 : UInt64} {r : UInt64 × Int} (hm : m_cyclic_ring_inverse a0 a1 = some r) : Sf prog 128 [.d (.u a0), .d (.u a1)] (.tup [.d (.u r.1), .d (.i r.2)]) :=
  sp call128 func128 rfl ntmps128 rfl fun D0 As η0 m0 hd => by
    unfold m_cyclic_ring_inverse at hm
    obtain ⟨q1, hm⟩ := if_some hm
    refine gquo (d := .u a0) (r := .u (a1 % a0)) (fun h => q1) (by kernel_rfl) ?_
    refine gi hm (by kernel_rfl) (fun hc1 hm => ?_) fun hc1 hm => ?_
    · skip
      have e0 := Option.some.inj hm
      subst e0
      exact gend hd (by kernel_rfl)
    obtain ⟨x1, q2, hm⟩ := obind_some hm
    obtain ⟨x2, q3, q2⟩ := obind_some q2
    refine gjU 0 (fun (_ : Unit) => ⟨[(0, .d (.u a0)), (8, .d (.i x1))], [], [], 0⟩) (fun _ => True) (by kernel_rfl) (fun Jp bk1 => ?_) fun _ _ => ?_
    · refine gjU 0 (fun (_ : Unit) => ⟨[(0, .d (.u a0)), (8, .d (.i x2))], [], [], 0⟩) (fun _ => True) (by kernel_rfl) (fun Jp bk2 => ?_) fun _ _ => ?_
      · refine gl hd (fun (p : Nat × (UInt64 × UInt64 × Int × Int)) => let (p0, p_0, p_1, p_2, p_3) := p; ⟨[(0, .d (.u a0)), (6, .d (.u p_0)), (7, .d (.u p_1)), (8, .d (.i p_2)), (9, .d (.i p_3))], [], [], 0⟩) (fun p => iter m_cyclic_ring_inverse_b1 p.1 p.2 = some x2) (fun p => p.1) (FUEL, ((a1 % a0), a0, 1, 0)) q3 (by kernel_rfl) ?_
        rintro ⟨n1, s1⟩ q4 Jl bl1
        cases n1 with
        | zero => exact (iter_zero q4).elim
        | succ n1 =>
          obtain ⟨y1, q6, q5⟩ := iter_succ q4
          unfold m_cyclic_ring_inverse_b1 at q6
          refine gi q6 (by kernel_rfl) (fun hc2 q6 => ?_) fun hc2 q6 => ?_
          · skip
            obtain ⟨q8, q6⟩ := if_some q6
            refine gquo (d := .u s1.2.1) (r := .u (s1.1 / s1.2.1)) (fun h => q8) (by kernel_rfl) ?_
            have q6 := bnd_is q6
            let x4 : UInt64 := ((s1.1 - ((s1.1 / s1.2.1) * s1.2.1)))
            have q6 := bnd_is q6
            let x5 : Int := ((w64 (s1.2.2.1 - (w64 ((w64 ((s1.1 / s1.2.1).toNat : Int)) * s1.2.2.2)))))
            have e0 := Option.some.inj q6
            subst e0
            rcases q5 with ⟨sn, e, q5'⟩ | e
            · have e := Sum.inl.inj e
              subst e
              exact gb bl1 hd (n1, _) ⟨q5', Nat.lt_succ_self _⟩ (by kernel_rfl)
            cases sum_lr e
          have e0 := Option.some.inj q6
          subst e0
          rcases q5 with ⟨sn, e, _⟩ | e
          · cases sum_rl e
          have e := Sum.inr.inj e
          subst e
          exact gb bk2 hd () trivial (by kernel_rfl)
      have e0 := Option.some.inj q2
      subst e0
      exact gb bk1 hd () trivial (by kernel_rfl)
    obtain ⟨x6, q11, hm⟩ := obind_some hm
    refine gj (fun (_ : Unit) => ⟨[(8, .d (.i x6))], [], [], 0⟩) (fun _ => True) (by kernel_rfl) (fun Jp bk3 => ?_) fun _ _ => ?_
    · refine gi q11 (by kernel_rfl) (fun hc3 q11 => ?_) fun hc3 q11 => ?_
      · have q11 := bnd_is q11
        let x7 : Int := ((w64 (x1 + (w64 (a0.toNat : Int)))))
        have e0 := Option.some.inj q11
        subst e0
        exact gb bk3 hd () trivial (by kernel_rfl)
      have e0 := Option.some.inj q11
      subst e0
      exact gb bk3 hd () trivial (by kernel_rfl)
    have e0 := Option.some.inj hm
    subst e0
    exact gend hd (by kernel_rfl)
def m_cyclic_Inv (a0 : UInt64) : Option (UInt64 × Int) :=
  obind (m_cyclic_ring_inverse 2305843009213691579 a0) fun x1 =>
  some (x1.1, x1.2)
theorem w_cyclic_Inv {a0 : UInt64} {r : UInt64 × Int} (hm : m_cyclic_Inv a0 = some r) : Sf prog 104 [.d (.u a0)] (.tup [.d (.u r.1), .d (.i r.2)]) :=
  sp call104 func104 rfl ntmps104 rfl fun D0 As η0 m0 hd => by
    unfold m_cyclic_Inv at hm
    obtain ⟨x1, q1, hm⟩ := obind_some hm
    refine gc (fun _ => w_cyclic_ring_inverse q1) (by kernel_rfl) ?_
    have e0 := Option.some.inj hm
    subst e0
    exact gend hd (by kernel_rfl)
def m_cyclic_Mul (a0 : UInt64) (a1 : UInt64) : Option UInt64 :=
  obind (m_cyclic_ring_mul 2305843009213691579 a0 a1) fun x1 =>
  some x1
theorem w_cyclic_Mul {a0 : UInt64} {a1 : UInt64} {r : UInt64} (hm : m_cyclic_Mul a0 a1 = some r) : Sf prog 106 [.d (.u a0), .d (.u a1)] (.d (.u r)) :=
  sp call106 func106 rfl ntmps106 rfl fun D0 As η0 m0 hd => by
    unfold m_cyclic_Mul at hm
    obtain ⟨x1, q1, hm⟩ := obind_some hm
    refine gc (fun _ => s_cyclic_ring_mul q1) (by kernel_rfl) ?_
    have e0 := Option.some.inj hm
    subst e0
    exact gend hd (by kernel_rfl)
def m_sign_Check (a0 : UInt64) (a1 : List UInt8) (a2 : g_api_Sig) : Option Int :=
  obind (m_cyclic_In a0) fun x1 =>
  if (!x1) = true then
    some 1
  else
  if (decide (((maxU a2.E a2.S).toNat : Int) ≥ 1152921504606845789)) = true then
    some 40
  else
  obind (m_cyclic_Pow a0 a2.E) fun x2 =>
  obind (m_cyclic_Inv x2) fun x3 =>
  obind (gu (!(x3.2 != 0)) (m_cyclic_Base a2.S)) fun x4 =>
  obind (gu (!(x3.2 != 0)) (m_cyclic_Mul x4 x3.1)) fun x5 =>
  obind (gu (!(x3.2 != 0)) (m_sign_Challenge x5 a0 a1)) fun x6 =>
  if ((x3.2 != 0) || ((x6.toNat : Int) != (a2.E.toNat : Int))) = true then
    some 40
  else
  some 0
theorem w_sign_Check {a0 : UInt64} {a1 : List UInt8} {a2 : g_api_Sig} {r : Int} (hm : m_sign_Check a0 a1 a2 = some r) : Sf prog 79 [.d (.u a0), sl eB a1, ag (e_api_Sig a2)] (.d (.i r)) :=
  sp call79 func79 rfl ntmps79 rfl fun D0 As η0 m0 hd => by
    unfold m_sign_Check at hm
    obtain ⟨x1, q1, hm⟩ := obind_some hm
    refine gc (fun _ => w_cyclic_In q1) (by kernel_rfl) ?_
    refine gi hm (by kernel_rfl) (fun hc1 hm => ?_) fun hc1 hm => ?_
    · skip
      have e0 := Option.some.inj hm
      subst e0
      exact gend hd (by kernel_rfl)
    refine gi hm (by kernel_rfl) (fun hc2 hm => ?_) fun hc2 hm => ?_
    · skip
      have e0 := Option.some.inj hm
      subst e0
      exact gend hd (by kernel_rfl)
    obtain ⟨x2, q2, hm⟩ := obind_some hm
    refine gc (fun _ => s_cyclic_Pow q2) (by kernel_rfl) ?_
    obtain ⟨x3, q3, hm⟩ := obind_some hm
    refine gc (fun _ => w_cyclic_Inv q3) (by kernel_rfl) ?_
    obtain ⟨x4, q4, hm⟩ := obind_some hm
    refine gcG (fun h => w_cyclic_Base (gu_t h q4)) (by kernel_rfl) ?_
    obtain ⟨x5, q5, hm⟩ := obind_some hm
    refine gcG (fun h => w_cyclic_Mul (gu_t h q5)) (by kernel_rfl) ?_
    obtain ⟨x6, q6, hm⟩ := obind_some hm
    refine gcG (fun h => w_sign_Challenge (gu_t h q6)) (by kernel_rfl) ?_
    refine gi hm (by kernel_rfl) (fun hc3 hm => ?_) fun hc3 hm => ?_
    · skip
      have e0 := Option.some.inj hm
      subst e0
      exact gend hd (by kernel_rfl)
    have e0 := Option.some.inj hm
    subst e0
    exact gend hd (by kernel_rfl)
def m_logd_signed (a0 : g_api_Key) (a1 : Int) (a2 : Bool) (a3 : List UInt8) (a4 : g_api_Sig) : Option Int :=
  obind (m_logd_number a1) fun x1 =>
  if ((!x1) || (!a2)) = true then
    some 1
  else
  if (a1 != a0.Log) = true then
    some 240
  else
  obind (m_sign_Check a0.Key a3 a4) fun x2 =>
  some x2
theorem w_logd_signed {a0 : g_api_Key} {a1 : Int} {a2 : Bool} {a3 : List UInt8} {a4 : g_api_Sig} {r : Int} (hm : m_logd_signed a0 a1 a2 a3 a4 = some r) : Sf prog 60 [ag (e_api_Key a0), .d (.i a1), .d (.t a2), sl eB a3, ag (e_api_Sig a4)] (.d (.i r)) :=
  sp call60 func60 rfl ntmps60 rfl fun D0 As η0 m0 hd => by
    unfold m_logd_signed at hm
    obtain ⟨x1, q1, hm⟩ := obind_some hm
    refine gc (fun _ => w_logd_number q1) (by kernel_rfl) ?_
    refine gi hm (by kernel_rfl) (fun hc1 hm => ?_) fun hc1 hm => ?_
    · skip
      have e0 := Option.some.inj hm
      subst e0
      exact gend hd (by kernel_rfl)
    refine gi hm (by kernel_rfl) (fun hc2 hm => ?_) fun hc2 hm => ?_
    · skip
      have e0 := Option.some.inj hm
      subst e0
      exact gend hd (by kernel_rfl)
    obtain ⟨x2, q2, hm⟩ := obind_some hm
    refine gc (fun _ => w_sign_Check q2) (by kernel_rfl) ?_
    have e0 := Option.some.inj hm
    subst e0
    exact gend hd (by kernel_rfl)
def m_slices_Grow_byte_byte_nil (a1 : Int) : Option (List UInt8) :=
  obind (
    if (decide (a1 < 0)) = true then
      none
    else
    some ()
  ) fun x1 =>
  obind (
    bnd ((w64 (a1 - (w64 (0 - ((0 : Nat) : Int)))))) fun x3 =>
    if (decide (x3 > 0)) = true then
      if 0 ≤ x3 ∧ x3 * 1 ≤ 140737488355328 ∧ x3 ≤ 140737488355328 then
        some ([] : List UInt8)
      else none
    else
    some ([] : List UInt8)
  ) fun x2 =>
  some x2
theorem w_slices_Grow_byte_byte_nil {m : Mem} {As : List Ow} {w : World} {a1 : Int} {r : List UInt8} (S : St m (As) w) (hm : m_slices_Grow_byte_byte_nil a1 = some r) :
    CallsR Tryz.prog 130 #[.slice none 0 0, vI a1] w fun v w' => ∃ (M : Mem), m ≤ M ∧ ∃ (rv0 : Value) (rc0 : List Value), St M ((row 1 rv0 rc0 r.length) :: As) w' ∧ v = rv0 ∧ RepL M rc0 r := by
 unfold m_slices_Grow_byte_byte_nil at hm
 have L0 := Mem.rfl' m
 refine callsR (args := [.slice none 0 0, vI a1]) func130 rfl ntmps130 (nb rfl) <| ws <| s_asv (v := .slice none 0 0) rfl <| wpl_nil <| nrm ?_
 obtain ⟨x1, q1, hm⟩ := obind_some hm
 have L1 := Mem.rfl' m
 refine wpc_seq <| wpc_join [5, 6, 7] (fun f' w' => ∃ (M1 : Mem), m ≤ M1 ∧ St M1 (As) w' ∧ AllAt f' []) ?_ ?_
 · refine ws <| s_mvv (v := vI a1) rfl <| s_lss (m := a1) (n := 0) rfl rfl <| wpl_nil <| nrm <| wpc_if (t := (decide (a1 < 0))) rfl (fun hc1 => ?_) (fun hc1 => ?_)
   · replace q1 := ifT hc1 q1
     cases q1
   replace q1 := ifF hc1 q1
   refine wpc_skip <| nrm ?_
   have e0 := Option.some.inj q1
   subst e0
   exact ⟨outP, m, L1, S, trivial⟩
 rintro f1 w1 ho ⟨m1, l1, S1, ha⟩
 obtain ⟨u1, rfl⟩ := fr_of (N := 27) ho ha
 clear S
 obtain ⟨x2, q2, hm⟩ := obind_some hm
 have L2 := Mem.rfl' m1
 refine wpc_seq <| wpc_join [0, 1, 8, 9, 10, 11, 12, 13, 14, 15, 16, 17, 18, 19, 20, 21, 22, 23, 24, 25] (fun f' w' => ∃ (M2 : Mem) (v1 : Value) (c1 : List Value), m1 ≤ M2 ∧ St M2 ((row 1 v1 c1 x2.length) :: As) w' ∧ RepL M2 c1 x2 ∧ AllAt f' [(0, v1)]) ?_ ?_
 · refine ws <| s_mvv (v := vI a1) rfl <| s_mvv (v := .slice none 0 0) rfl <| s_capNil rfl underlying68 <| s_mvv (v := .slice none 0 0) rfl <| s_len (n := 0) rfl underlying68 <| s_subI (m := 0) (n := ((0 : Nat) : Int)) rfl rfl <| s_subI (m := a1) (n := (w64 (0 - ((0 : Nat) : Int)))) rfl rfl ?_
   obtain ⟨x3, q3, q2⟩ := bnd_eq q2
   refine s_asv (v := vI x3) (congrArg (fun z => vI z) q3.symm) <| nx <| s_mvv (v := vI x3) rfl <| s_gtr (m := x3) (n := 0) rfl rfl <| wpl_nil <| nrm <| wpc_if (t := (decide (x3 > 0))) rfl (fun hc2 => ?_) (fun hc2 => ?_)
   · replace q2 := ifT hc2 q2
     refine wpc_region <| s_mvv (v := .slice none 0 0) rfl <| s_mvv (v := .slice none 0 0) rfl <| s_capNil rfl underlying68 <| s_cutN rfl underlying68 sizeOf5 rfl <| s_mvv (v := vI x3) rfl ?_
     obtain ⟨q4, q2⟩ := if_some q2
     refine s_appN (bytes := 1) (sz := 1) (k := x3) (ti := Tryz.t5) S1 rfl rfl q4 underlying68 underlying3 type5 rfl rfl rfl rfl fun v2 c2 w2 S2 => ?_
     replace S2 : St _ ((row 1 v2 c2 x3.toNat) :: As) _ := S2
     clear S1
     refine s_mvv (v := .slice none 0 0) rfl <| s_len (n := 0) rfl underlying68 <| s_cutO (i := 0) S2 rfl rfl underlying68 sizeOf5 rfl (j := 0) rfl (Int.le_refl 0) (Int.natCast_nonneg _) fun v3 S3 => ?_
     rw [show c2.take ((0 : Int).toNat * 1) = [] from by simp] at S3
     have h2 : RepL m1 [] ([] : List UInt8) := RepL.nil
     replace S3 : St _ ((row 1 v3 [] ([] : List UInt8).length) :: As) _ := S3
     clear S2
     refine s_asv (v := v3) rfl <| wpl_nil <| nrm ?_
     have e0 := Option.some.inj q2
     subst e0
     exact ⟨outP, m1, _, _, L2, S3, h2, ⟨rfl, trivial⟩⟩
   replace q2 := ifF hc2 q2
   refine wpc_skip <| nrm ?_
   have S4 := St.rowNil S1 1
   have h3 : RepL m1 [] ([] : List UInt8) := RepL.nil
   replace S4 : St _ ((row 1 (.slice none 0 0) [] ([] : List UInt8).length) :: As) _ := S4
   clear S1
   have e0 := Option.some.inj q2
   subst e0
   exact ⟨outP, m1, _, _, L2, S4, h3, ⟨rfl, trivial⟩⟩
 rintro f2 w3 ho ⟨m2, v1, c1, l2, S5, h1, ha⟩
 obtain ⟨u2, rfl⟩ := fr_of (N := 27) ho ha
 clear S1
 refine ws <| s_mvv (v := v1) rfl <| s_asv (v := v1) rfl <| wpl_nil <| nrm <| wpc_ret <| outRw fun we hpd => ?_
 replace S5 := St.pd S5 hpd
 have e0 := Option.some.inj hm
 subst e0
 replace L0 := Mem.tr L0 (mt l1 l2)
 exact outR [_] rfl ⟨rfl, trivial⟩ ⟨_, L0, _, _, S5, rfl, h1⟩
def m_slices_Concat_byte_byte_b1  (i1 : Int) (x3 : List UInt8) (s1 : Int) : Option (Int) :=
  obind (
    bnd ((w64 (s1 + (x3.length : Int)))) fun x5 =>
    if (decide (x5 < 0)) = true then
      none
    else
    some x5
  ) fun x4 =>
  some x4
def m_slices_Concat_byte_byte_b2  (i2 : Int) (x9 : List UInt8) (s2 : (List UInt8)) : Option ((List UInt8)) :=
  obind (app 1 s2 x9) fun x10 =>
  some x10
def m_slices_Concat_byte_byte (a0 : List (List UInt8)) : Option (List UInt8) :=
  obind (
    obind (each0 m_slices_Concat_byte_byte_b1 a0 0 0) fun x2 =>
    some x2
  ) fun x1 =>
  obind (m_slices_Grow_byte_byte_nil x1) fun x6 =>
  obind (
    obind (each0 m_slices_Concat_byte_byte_b2 a0 0 x6) fun x8 =>
    some x8
  ) fun x7 =>
  some x7
theorem w_slices_Concat_byte_byte {m : Mem} {As : List Ow} {w : World} {a0 : List (List UInt8)} {a0v0 : Value} {r : List UInt8} (S : St m (As) w) (a0h0 : SlR m a0v0 a0) (hm : m_slices_Concat_byte_byte a0 = some r) :
    CallsR Tryz.prog 107 #[a0v0] w fun v w' => ∃ (M : Mem), m ≤ M ∧ ∃ (rv0 : Value) (rc0 : List Value), St M ((row 1 rv0 rc0 r.length) :: As) w' ∧ v = rv0 ∧ RepL M rc0 r := by
 unfold m_slices_Concat_byte_byte at hm
 have L0 := Mem.rfl' m
 refine callsR (args := [a0v0]) func107 rfl ntmps107 (nb rfl) <| ws <| s_asv (v := .slice none 0 0) rfl <| nx <| s_asv (v := vI 0) rfl <| wpl_nil <| nrm ?_
 obtain ⟨x1, q1, hm⟩ := obind_some hm
 have L1 := Mem.rfl' m
 refine wpc_seq <| wpc_join [3, 5, 9, 10, 11, 12, 13, 14, 15, 16, 17, 18, 19, 20, 21, 22] (fun f' w' => ∃ (M1 : Mem), m ≤ M1 ∧ St M1 (As) w' ∧ AllAt f' [(3, vI x1)]) ?_ ?_
 · refine ws <| s_mvv (v := a0v0) rfl <| s_lenR (xs := a0) rfl a0h0 underlying145 <| s_mvv (v := vI 0) rfl <| wpl_nil <| nrm ?_
   obtain ⟨x2, q2, q1⟩ := obind_some q1
   have L2 := Mem.rfl' m
   refine wpc_join [3, 5, 11, 12, 13, 14, 15, 16, 17, 18, 19, 20, 21, 22] (fun f' w' => ∃ (M2 : Mem), m ≤ M2 ∧ St M2 (As) w' ∧ AllAt f' [(3, vI x2)]) ?_ ?_
   · refine wpc_block <| wpc_rounds [3, 5, 11, 12, 13, 14, 15, 16, 17, 18, 19, 20, 21, 22] (fun n1 f' w' => ∃ (i1 : Nat) (s1 : Int) (m3 : Mem), n1 = a0.length - i1 ∧ i1 ≤ a0.length ∧ each0 m_slices_Concat_byte_byte_b1 (a0.drop i1) (i1 : Int) s1 = some x2 ∧ m ≤ m3 ∧ St m3 (As) w' ∧ AllAt f' [(11, vI (i1 : Int)), (3, vI s1)]) a0.length ⟨0, 0, m, rfl, Nat.zero_le _, q2, L2, S, ⟨rfl, rfl, trivial⟩⟩ ?_
     rintro n1 f1 w1 ho ⟨i1, s1, m1, hn, hi, q3, L4, S1, ha⟩
     obtain ⟨u1, rfl⟩ := fr_of (N := 36) ho ha
     clear ho ha
     have L3 := Mem.rfl' m1
     clear S
     refine ws <| s_lss (m := (i1 : Int)) (n := (a0.length : Int)) rfl rfl <| wpl_nil <| nrm <| wpc_seq <| wpc_if (t := decide ((i1 : Int) < (a0.length : Int))) rfl (fun hc2 => ?_) (fun hc2 => ?_)
     · have hlt1 : i1 < a0.length := by have := of_decide_eq_true hc2; omega
       obtain ⟨x3, y1, q6, q5, q4⟩ := each0_in q3 hlt1
       unfold m_slices_Concat_byte_byte_b1 at q5
       refine wpc_skip <| nrm ?_
       obtain ⟨x4, q7, q5⟩ := obind_some q5
       have L5 := Mem.rfl' m1
       refine wpc_seq <| wpc_join [3, 5, 13, 14, 15, 16, 17, 18, 19, 20, 21] (fun f' w' => ∃ (M3 : Mem), m1 ≤ M3 ∧ St M3 (As) w' ∧ AllAt f' [(3, vI x4)]) ?_ ?_
       · refine wpc_block <| ws <| s_idx (q := x3) rfl rfl (a0h0.up L4) q6 underlying145 sizeOf68 fun p1 c1 h1 r1 => ?_
         obtain ⟨v1, rfl, h2⟩ := r1
         refine s_ldM (cs := [v1]) S1 rfl h1 rfl isAgg68 sizeOf68 (fun _ => rfl) <| s_asv (v := v1) rfl <| nx <| s_mvv (v := vI s1) rfl <| s_mvv (v := v1) rfl <| s_lenR (xs := x3) rfl h2 underlying68 <| s_addI (m := s1) (n := (x3.length : Int)) rfl rfl ?_
         obtain ⟨x5, q8, q7⟩ := bnd_eq q7
         refine s_asv (v := vI x5) (congrArg (fun z => vI z) q8.symm) <| nx <| s_mvv (v := vI x5) rfl <| s_lss (m := x5) (n := 0) rfl rfl <| wpl_nil <| nrm <| wpc_if (t := (decide (x5 < 0))) rfl (fun hc1 => ?_) (fun hc1 => ?_)
         · replace q7 := ifT hc1 q7
           cases q7
         replace q7 := ifF hc1 q7
         refine wpc_skip <| nrmB <| nrm ?_
         have e0 := Option.some.inj q7
         subst e0
         exact ⟨outP, m1, L5, S1, ⟨rfl, trivial⟩⟩
       rintro f2 w2 ho ⟨m2, l1, S2, ha⟩
       obtain ⟨u2, rfl⟩ := fr_of (N := 36) ho ha
       clear S1
       refine wpc_region <| s_addI (m := (i1 : Int)) (n := 1) rfl rfl <| s_mvv (v := vI (w64 ((i1 : Int) + 1))) rfl <| wpl_nil <| nrm ?_
       have e0 := Option.some.inj q5
       subst e0
       replace a0h0 := a0h0.up (mt L4 l1)
       replace L3 := Mem.tr L3 l1
       exact ⟨outP, _, (by omega), ⟨i1 + 1, x4, m2, rfl, hlt1, q4, Mem.tr L4 L3, S2, ⟨congrArg (Value.int .i64) (w64_succ hlt1 (SlR.le a0h0)), rfl, trivial⟩⟩⟩
     have hlt1 : ¬ i1 < a0.length := by have := of_decide_eq_false hc2; omega
     have e := Eq.symm (each0_out q3 hlt1)
     subst e
     exact wpc_exit <| thE <| thE <| exB <| nrm <| ⟨outP, m1, Mem.tr L4 L3, S1, ⟨rfl, trivial⟩⟩
   rintro f3 w3 ho ⟨m4, l2, S3, ha⟩
   obtain ⟨u3, rfl⟩ := fr_of (N := 36) ho ha
   clear ho ha S
   have e0 := Option.some.inj q1
   subst e0
   replace L1 := Mem.tr L1 l2
   exact ⟨outP, m4, L1, S3, ⟨rfl, trivial⟩⟩
 rintro f4 w4 ho ⟨m5, l3, S4, ha⟩
 obtain ⟨u4, rfl⟩ := fr_of (N := 36) ho ha
 clear S
 refine ws <| s_mvv (v := vI x1) rfl ?_
 obtain ⟨x6, q9, hm⟩ := obind_some hm
 refine s_call call130 (w_slices_Grow_byte_byte_nil (a1 := x1) S4  q9) rfl ?_
 rintro v2 w5 ⟨m6, l4, _, c2, S5, rfl, h3⟩
 clear S4
 refine s_asv (v := v2) rfl <| wpl_nil <| nrm ?_
 obtain ⟨x7, q10, hm⟩ := obind_some hm
 have L6 := Mem.rfl' m6
 refine wpc_seq <| wpc_join [6, 8, 25, 26, 27, 28, 29, 30, 31, 32, 33, 34] (fun f' w' => ∃ (M4 : Mem) (v3 : Value) (c3 : List Value), m6 ≤ M4 ∧ St M4 ((row 1 v3 c3 x7.length) :: As) w' ∧ RepL M4 c3 x7 ∧ AllAt f' [(6, v3)]) ?_ ?_
 · refine ws <| s_mvv (v := a0v0) rfl ?_
   replace a0h0 := a0h0.up (mt l3 l4)
   refine s_lenR (xs := a0) rfl a0h0 underlying145 <| s_mvv (v := vI 0) rfl <| wpl_nil <| nrm ?_
   obtain ⟨x8, q11, q10⟩ := obind_some q10
   have L7 := Mem.rfl' m6
   refine wpc_join [6, 8, 27, 28, 29, 30, 31, 32, 33, 34] (fun f' w' => ∃ (M5 : Mem) (v5 : Value) (c5 : List Value), m6 ≤ M5 ∧ St M5 ((row 1 v5 c5 x8.length) :: As) w' ∧ RepL M5 c5 x8 ∧ AllAt f' [(6, v5)]) ?_ ?_
   · refine wpc_block <| wpc_rounds [6, 8, 27, 28, 29, 30, 31, 32, 33, 34] (fun n2 f' w' => ∃ (i2 : Nat) (s2 : (List UInt8)) (m8 : Mem) (v4 : Value) (c4 : List Value), n2 = a0.length - i2 ∧ i2 ≤ a0.length ∧ each0 m_slices_Concat_byte_byte_b2 (a0.drop i2) (i2 : Int) s2 = some x8 ∧ m6 ≤ m8 ∧ St m8 ((row 1 v4 c4 s2.length) :: As) w' ∧ RepL m8 c4 s2 ∧ AllAt f' [(27, vI (i2 : Int)), (6, v4)]) a0.length ⟨0, x6, m6, _, _, rfl, Nat.zero_le _, q11, L7, S5, h3, ⟨rfl, rfl, trivial⟩⟩ ?_
     rintro n2 f5 w6 ho ⟨i2, s2, m7, v4, c4, hn, hi, q12, L9, S6, h5, ha⟩
     obtain ⟨u5, rfl⟩ := fr_of (N := 36) ho ha
     clear ho ha
     have L8 := Mem.rfl' m7
     clear S5
     refine ws <| s_lss (m := (i2 : Int)) (n := (a0.length : Int)) rfl rfl <| wpl_nil <| nrm <| wpc_seq <| wpc_if (t := decide ((i2 : Int) < (a0.length : Int))) rfl (fun hc3 => ?_) (fun hc3 => ?_)
     · have hlt2 : i2 < a0.length := by have := of_decide_eq_true hc3; omega
       obtain ⟨x9, y2, q15, q14, q13⟩ := each0_in q12 hlt2
       unfold m_slices_Concat_byte_byte_b2 at q14
       refine wpc_skip <| nrm <| wpc_seq <| wpc_block <| ws <| s_idx (q := x9) rfl rfl (a0h0.up L9) q15 underlying145 sizeOf68 fun p2 c6 h7 r6 => ?_
       obtain ⟨v6, rfl, h8⟩ := r6
       refine s_ldM (cs := [v6]) S6 rfl h7 rfl isAgg68 sizeOf68 (fun _ => rfl) <| s_asv (v := v6) rfl <| wpl_nil <| nrm <| wpc_region <| s_mvv (v := v4) rfl <| s_mvv (v := v6) rfl ?_
       obtain ⟨x10, q16, q14⟩ := obind_some q14
       refine s_app (i := 0) (zs := x10) (bytes := 1) (ti := Tryz.t5) S6 rfl rfl h5 rfl rfl h8 q16 underlying68 type5 rfl rfl rfl rfl fun v7 c7 w7 S7 h9 => ?_
       replace S7 : St _ ((row 1 v7 c7 x10.length) :: As) _ := S7
       clear S6
       refine s_asv (v := v7) rfl <| wpl_nil <| nrmB <| nrm <| wpc_region <| s_addI (m := (i2 : Int)) (n := 1) rfl rfl <| s_mvv (v := vI (w64 ((i2 : Int) + 1))) rfl <| wpl_nil <| nrm ?_
       have e0 := Option.some.inj q14
       subst e0
       exact ⟨outP, _, (by omega), ⟨i2 + 1, x10, m7, _, _, rfl, hlt2, q13, Mem.tr L9 L8, S7, h9, ⟨congrArg (Value.int .i64) (w64_succ hlt2 (SlR.le (a0h0.up L9))), rfl, trivial⟩⟩⟩
     have hlt2 : ¬ i2 < a0.length := by have := of_decide_eq_false hc3; omega
     have e := Eq.symm (each0_out q12 hlt2)
     subst e
     exact wpc_exit <| thE <| thE <| exB <| nrm <| ⟨outP, m7, _, _, Mem.tr L9 L8, S6, h5, ⟨rfl, trivial⟩⟩
   rintro f6 w8 ho ⟨m9, v5, c5, l5, S8, h6, ha⟩
   obtain ⟨u6, rfl⟩ := fr_of (N := 36) ho ha
   clear ho ha S5
   have e0 := Option.some.inj q10
   subst e0
   replace L6 := Mem.tr L6 l5
   exact ⟨outP, m9, _, _, L6, S8, h6, ⟨rfl, trivial⟩⟩
 rintro f7 w9 ho ⟨m10, v3, c3, l6, S9, h4, ha⟩
 obtain ⟨u7, rfl⟩ := fr_of (N := 36) ho ha
 clear S5
 refine ws <| s_mvv (v := v3) rfl <| s_asv (v := v3) rfl <| wpl_nil <| nrm <| wpc_ret <| outRw fun we hpd => ?_
 replace S9 := St.pd S9 hpd
 have e0 := Option.some.inj hm
 subst e0
 replace L0 := Mem.tr L0 (mt l3 (mt l4 l6))
 exact outR [_] rfl ⟨rfl, trivial⟩ ⟨_, L0, _, _, S9, rfl, h4⟩
theorem s_slices_Concat_byte_byte {a0 : List (List UInt8)} {r : List UInt8} (hm : m_slices_Concat_byte_byte a0 = some r) : Sp prog 107 [sl (eL eB) a0] [] 0 (is (.ow 0) [.row 0 1 _ eB r] 1) :=
  ⟨call107, fun η m As w vs hv0 hd S => by
    have S : St m As w := S
    obtain ⟨v0, u0, rfl, r0, hv1⟩ := RelL.cons_inv hv0
    have f0 := Br.ofS (Br.sl Br.b) r0.dd
    obtain rfl := RelL.nil_inv hv1
    refine CallsR.mono (w_slices_Concat_byte_byte S f0 hm) ?_
    rintro v w' ⟨M, hle, y0, c0, S0, rfl, h0⟩
    exact ⟨M, (envL [v]), _, _, _, hle, dom0 hd _, ⟨rfl, rfl, rfl⟩, envL_dom rfl, (.ow rfl (row_one S0)), (St.impL S0 (sepC (Br.toR Br.b rfl rfl (row_one S0) h0) fun _ h => h))⟩⟩
def m_logd_msg (a0 : ByteArray) (a1 : List (List UInt8)) : Option (List UInt8) :=
  obind (app 1 ([] : List UInt8) a0.data.toList) fun x1 =>
  obind (m_slices_Concat_byte_byte a1) fun x2 =>
  obind (app 1 x1 x2) fun x3 =>
  some x3
theorem w_logd_msg {a0 : ByteArray} {a1 : List (List UInt8)} {r : List UInt8} (hm : m_logd_msg a0 a1 = some r) : Sp prog 80 [.d (.s a0), sl (eL eB) a1] [] 0 (is (.ow 0) [.row 0 1 _ eB r] 1) :=
  sp call80 func80 rfl ntmps80 rfl fun D0 As η0 m0 hd => by
    unfold m_logd_msg at hm
    obtain ⟨x1, q1, hm⟩ := obind_some hm
    refine gofS q1 (by kernel_rfl) ?_
    obtain ⟨x2, q2, hm⟩ := obind_some hm
    refine gco (s_slices_Concat_byte_byte q2) (by kernel_rfl) ?_
    obtain ⟨x3, q3, hm⟩ := obind_some hm
    refine gapp (k := 1) (E := eB) (fun _ => rfl) q3 (by kernel_rfl) ?_
    have e0 := Option.some.inj hm
    subst e0
    exact gend hd (by kernel_rfl)
def m_logd_eight_b2 (a0 : Int) (i1 : Int) (s1 : UInt8 × UInt8 × UInt8 × UInt8 × UInt8 × UInt8 × UInt8 × UInt8) : Option (UInt8 × UInt8 × UInt8 × UInt8 × UInt8 × UInt8 × UInt8 × UInt8) :=
  if (0 : Int) ≤ (w64 (56 - (w64 (8 * (i1 : Int))))) then
    obind (idx [s1.1, s1.2.1, s1.2.2.1, s1.2.2.2.1, s1.2.2.2.2.1, s1.2.2.2.2.2.1, s1.2.2.2.2.2.2.1, s1.2.2.2.2.2.2.2] (i1 : Int)) fun x4 =>
    bnd (if (i1 : Int) = 0 then (toB (shr64 a0 ((w64 (56 - (w64 (8 * (i1 : Int))))).toNat))) else s1.1) fun x5 =>
    bnd (if (i1 : Int) = 1 then (toB (shr64 a0 ((w64 (56 - (w64 (8 * (i1 : Int))))).toNat))) else s1.2.1) fun x6 =>
    bnd (if (i1 : Int) = 2 then (toB (shr64 a0 ((w64 (56 - (w64 (8 * (i1 : Int))))).toNat))) else s1.2.2.1) fun x7 =>
    bnd (if (i1 : Int) = 3 then (toB (shr64 a0 ((w64 (56 - (w64 (8 * (i1 : Int))))).toNat))) else s1.2.2.2.1) fun x8 =>
    bnd (if (i1 : Int) = 4 then (toB (shr64 a0 ((w64 (56 - (w64 (8 * (i1 : Int))))).toNat))) else s1.2.2.2.2.1) fun x9 =>
    bnd (if (i1 : Int) = 5 then (toB (shr64 a0 ((w64 (56 - (w64 (8 * (i1 : Int))))).toNat))) else s1.2.2.2.2.2.1) fun x10 =>
    bnd (if (i1 : Int) = 6 then (toB (shr64 a0 ((w64 (56 - (w64 (8 * (i1 : Int))))).toNat))) else s1.2.2.2.2.2.2.1) fun x11 =>
    bnd (if (i1 : Int) = 7 then (toB (shr64 a0 ((w64 (56 - (w64 (8 * (i1 : Int))))).toNat))) else s1.2.2.2.2.2.2.2) fun x12 =>
    some (x5, x6, x7, x8, x9, x10, x11, x12)
  else none
def m_logd_eight (a0 : Int) : Option (List UInt8) :=
  obind (
    obind (eachN0 (m_logd_eight_b2 a0) 8 0 (0, 0, 0, 0, 0, 0, 0, 0)) fun x2 =>
    some (x2.1, x2.2.1, x2.2.2.1, x2.2.2.2.1, x2.2.2.2.2.1, x2.2.2.2.2.2.1, x2.2.2.2.2.2.2.1, x2.2.2.2.2.2.2.2)
  ) fun x1 =>
  some ([x1.1, x1.2.1, x1.2.2.1, x1.2.2.2.1, x1.2.2.2.2.1, x1.2.2.2.2.2.1, x1.2.2.2.2.2.2.1, x1.2.2.2.2.2.2.2] : List UInt8)
theorem w_logd_eight {m : Mem} {As : List Ow} {w : World} {a0 : Int} {r : List UInt8} (S : St m (As) w) (hm : m_logd_eight a0 = some r) :
    CallsR Tryz.prog 81 #[vI a0] w fun v w' => ∃ (M : Mem), m ≤ M ∧ ∃ (rv0 : Value) (rc0 : List Value), St M ((row 1 rv0 rc0 r.length) :: As) w' ∧ v = rv0 ∧ RepL M rc0 r := by
 unfold m_logd_eight at hm
 have L0 := Mem.rfl' m
 refine callsR (args := [vI a0]) func81 rfl ntmps81 (nb rfl) <| ws <| s_asv (v := .slice none 0 0) rfl <| nx <| s_alloc S zeroValue147 fun b1 w1 S1 => ?_
 replace S1 : St _ ((bx b1 [vB 0, vB 0, vB 0, vB 0, vB 0, vB 0, vB 0, vB 0] 147) :: As) _ := S1
 clear S
 refine wpl_nil <| nrm ?_
 obtain ⟨x1, q1, hm⟩ := obind_some hm
 have L1 := Mem.rfl' m
 refine wpc_seq <| wpc_join (rg 4 13) (fun f' w' => ∃ (M1 : Mem), m ≤ M1 ∧ St M1 ((bx b1 [vB x1.1, vB x1.2.1, vB x1.2.2.1, vB x1.2.2.2.1, vB x1.2.2.2.2.1, vB x1.2.2.2.2.2.1, vB x1.2.2.2.2.2.2.1, vB x1.2.2.2.2.2.2.2] 147) :: As) w' ∧ AllAt f' []) ?_ ?_
 · refine ws <| s_mvv (v := vI 0) rfl <| wpl_nil <| nrm ?_
   obtain ⟨x2, q2, q1⟩ := obind_some q1
   have L2 := Mem.rfl' m
   refine wpc_join (rg 4 13) (fun f' w' => ∃ (M2 : Mem), m ≤ M2 ∧ St M2 ((bx b1 [vB x2.1, vB x2.2.1, vB x2.2.2.1, vB x2.2.2.2.1, vB x2.2.2.2.2.1, vB x2.2.2.2.2.2.1, vB x2.2.2.2.2.2.2.1, vB x2.2.2.2.2.2.2.2] 147) :: As) w' ∧ AllAt f' []) ?_ ?_
   · refine wpc_block <| wpc_rounds (rg 4 13) (fun n1 f' w' => ∃ (i1 : Nat) (s1 : UInt8 × UInt8 × UInt8 × UInt8 × UInt8 × UInt8 × UInt8 × UInt8) (m2 : Mem), n1 = 8 - i1 ∧ i1 ≤ 8 ∧ eachN0 (m_logd_eight_b2 a0) (8 - i1) (i1 : Int) s1 = some x2 ∧ m ≤ m2 ∧ St m2 ((bx b1 [vB s1.1, vB s1.2.1, vB s1.2.2.1, vB s1.2.2.2.1, vB s1.2.2.2.2.1, vB s1.2.2.2.2.2.1, vB s1.2.2.2.2.2.2.1, vB s1.2.2.2.2.2.2.2] 147) :: As) w' ∧ AllAt f' [(5, vI (i1 : Int))]) 8 ⟨0, (0, 0, 0, 0, 0, 0, 0, 0), m, rfl, Nat.zero_le _, q2, L2, S1, ⟨rfl, trivial⟩⟩ ?_
     rintro n1 f1 w2 ho ⟨i1, s1, m1, hn, hi, q3, L4, S2, ha⟩
     obtain ⟨u1, rfl⟩ := fr_of (N := 18) ho ha
     clear ho ha
     have L3 := Mem.rfl' m1
     clear S1
     refine ws <| s_lss (m := (i1 : Int)) (n := 8) rfl rfl <| wpl_nil <| nrm <| wpc_seq <| wpc_if (t := decide ((i1 : Int) < (8 : Int))) rfl (fun hc1 => ?_) (fun hc1 => ?_)
     · have hlt1 : i1 < 8 := by have := of_decide_eq_true hc1; omega
       obtain ⟨y1, q5, q4⟩ := eachN0_in q3 hlt1
       unfold m_logd_eight_b2 at q5
       refine wpc_skip <| nrm <| wpc_seq <| wpc_block <| ws <| s_mvv (v := vI (i1 : Int)) rfl <| s_asv (v := vI (i1 : Int)) rfl <| wpl_nil <| nrm <| wpc_region <| s_mvv (v := vI (i1 : Int)) rfl <| s_mvv (v := vI a0) rfl <| s_mvv (v := vI (i1 : Int)) rfl <| s_mulI (m := 8) (n := (i1 : Int)) rfl rfl <| s_subI (m := 56) (n := (w64 (8 * (i1 : Int)))) rfl rfl ?_
       obtain ⟨q7, q5⟩ := if_some q5
       refine s_shrI (m := a0) (n := (w64 (56 - (w64 (8 * (i1 : Int)))))) rfl rfl q7 <| s_convB rfl underlying3 underlying5 ?_
       obtain ⟨x4, q8, q5⟩ := obind_some q5
       refine s_idxA (i := (i1 : Int)) rfl rfl underlying147 sizeOf5 (idx_rng q8).1 (idx_rng q8).2 ?_
       obtain ⟨x5, q9, q5⟩ := bnd_eq q5
       obtain ⟨x6, q10, q5⟩ := bnd_eq q5
       obtain ⟨x7, q11, q5⟩ := bnd_eq q5
       obtain ⟨x8, q12, q5⟩ := bnd_eq q5
       obtain ⟨x9, q13, q5⟩ := bnd_eq q5
       obtain ⟨x10, q14, q5⟩ := bnd_eq q5
       obtain ⟨x11, q15, q5⟩ := bnd_eq q5
       obtain ⟨x12, q16, q5⟩ := bnd_eq q5
       refine s_st (i := 0) (off := 0 + (i1 : Int).toNat * 1) S2 rfl rfl rfl sizeOf5 (OneL.all (oneC rfl oneN)) (by rcases idx8 q8 with ⟨h, h'⟩ | ⟨h, h'⟩ | ⟨h, h'⟩ | ⟨h, h'⟩ | ⟨h, h'⟩ | ⟨h, h'⟩ | ⟨h, h'⟩ | ⟨h, h'⟩ <;> (rw [h]; exact nb rfl)) fun w3 S3 => ?_
       replace S3 := St.cellsTo (i := 0) (l' := [vB x5, vB x6, vB x7, vB x8, vB x9, vB x10, vB x11, vB x12]) S3 (by rcases idx8 q8 with ⟨h, h'⟩ | ⟨h, h'⟩ | ⟨h, h'⟩ | ⟨h, h'⟩ | ⟨h, h'⟩ | ⟨h, h'⟩ | ⟨h, h'⟩ | ⟨h, h'⟩ <;> (simp only [q9, q10, q11, q12, q13, q14, q15, q16, h]; rfl)) rfl
       replace S3 : St _ ((bx b1 [vB x5, vB x6, vB x7, vB x8, vB x9, vB x10, vB x11, vB x12] 147) :: As) _ := S3
       clear S2
       refine wpl_nil <| nrmB <| nrm <| wpc_region <| s_addI (m := (i1 : Int)) (n := 1) rfl rfl <| s_mvv (v := vI (w64 ((i1 : Int) + 1))) rfl <| wpl_nil <| nrm ?_
       have e0 := Option.some.inj q5
       subst e0
       exact ⟨outP, _, (by omega), ⟨i1 + 1, (x5, x6, x7, x8, x9, x10, x11, x12), m1, rfl, hlt1, q4, Mem.tr L4 L3, S3, ⟨congrArg (Value.int .i64) (w64_succ hlt1 (by decide)), trivial⟩⟩⟩
     have hlt1 : ¬ i1 < 8 := by have := of_decide_eq_false hc1; omega
     have e := Eq.symm (eachN0_out q3 hlt1)
     subst e
     exact wpc_exit <| thE <| thE <| exB <| nrm <| ⟨outP, m1, Mem.tr L4 L3, S2, trivial⟩
   rintro f2 w4 ho ⟨m3, l1, S4, ha⟩
   obtain ⟨u2, rfl⟩ := fr_of (N := 18) ho ha
   clear ho ha S1
   have e0 := Option.some.inj q1
   subst e0
   replace L1 := Mem.tr L1 l1
   exact ⟨outP, m3, L1, S4, trivial⟩
 rintro f3 w5 ho ⟨m4, l2, S5, ha⟩
 obtain ⟨u3, rfl⟩ := fr_of (N := 18) ho ha
 clear S1
 refine ws <| s_sliceA (k := 8) (n := 8) (sz := 1) (off := 0) rfl underlying147 sizeOf5 (.inl ⟨rfl, rfl⟩) (Nat.le_refl _) ?_
 have S6 := St.bxRow (i := 0) (sz := 1) (n := 8) S5 rfl rfl (by decide)
 have h1 : RepL m4 [vB x1.1, vB x1.2.1, vB x1.2.2.1, vB x1.2.2.2.1, vB x1.2.2.2.2.1, vB x1.2.2.2.2.2.1, vB x1.2.2.2.2.2.2.1, vB x1.2.2.2.2.2.2.2] ([x1.1, x1.2.1, x1.2.2.1, x1.2.2.2.1, x1.2.2.2.2.1, x1.2.2.2.2.2.1, x1.2.2.2.2.2.2.1, x1.2.2.2.2.2.2.2] : List UInt8) := (RepL.cons (c := [vB x1.1]) rfl (RepL.cons (c := [vB x1.2.1]) rfl (RepL.cons (c := [vB x1.2.2.1]) rfl (RepL.cons (c := [vB x1.2.2.2.1]) rfl (RepL.cons (c := [vB x1.2.2.2.2.1]) rfl (RepL.cons (c := [vB x1.2.2.2.2.2.1]) rfl (RepL.cons (c := [vB x1.2.2.2.2.2.2.1]) rfl (RepL.cons (c := [vB x1.2.2.2.2.2.2.2]) rfl RepL.nil))))))))
 replace S6 : St _ ((row 1 (.slice (some ⟨b1, 0, none⟩) 8 8) [vB x1.1, vB x1.2.1, vB x1.2.2.1, vB x1.2.2.2.1, vB x1.2.2.2.2.1, vB x1.2.2.2.2.2.1, vB x1.2.2.2.2.2.2.1, vB x1.2.2.2.2.2.2.2] ([x1.1, x1.2.1, x1.2.2.1, x1.2.2.2.1, x1.2.2.2.2.1, x1.2.2.2.2.2.1, x1.2.2.2.2.2.2.1, x1.2.2.2.2.2.2.2] : List UInt8).length) :: As) _ := S6
 clear S5
 refine s_asv (v := (.slice (some ⟨b1, 0, none⟩) 8 8)) rfl <| wpl_nil <| nrm <| wpc_ret <| outRw fun we hpd => ?_
 replace S6 := St.pd S6 hpd
 have e0 := Option.some.inj hm
 subst e0
 replace L0 := Mem.tr L0 l2
 exact outR [_] rfl ⟨rfl, trivial⟩ ⟨_, L0, _, _, S6, rfl, h1⟩
theorem s_logd_eight {a0 : Int} {r : List UInt8} (hm : m_logd_eight a0 = some r) : Sp prog 81 [.d (.i a0)] [] 0 (is (.ow 0) [.row 0 1 _ eB r] 1) :=
  ⟨call81, fun η m As w vs hv0 hd S => by
    have S : St m As w := S
    obtain ⟨v0, u0, rfl, r0, hv1⟩ := RelL.cons_inv hv0
    obtain rfl := r0.i_inv
    obtain rfl := RelL.nil_inv hv1
    refine CallsR.mono (w_logd_eight S  hm) ?_
    rintro v w' ⟨M, hle, y0, c0, S0, rfl, h0⟩
    exact ⟨M, (envL [v]), _, _, _, hle, dom0 hd _, ⟨rfl, rfl, rfl⟩, envL_dom rfl, (.ow rfl (row_one S0)), (St.impL S0 (sepC (Br.toR Br.b rfl rfl (row_one S0) h0) fun _ h => h))⟩⟩
def m_hash_Bytes_b2 (a0 : UInt64 × UInt64) (i1 : Int) (s1 : (List UInt8)) : Option ((List UInt8)) :=
  obind (idx [a0.1, a0.2] (i1 : Int)) fun x4 =>
  obind (m_hash_put s1 x4 8) fun x5 =>
  some x5
def m_hash_Bytes (a0 : UInt64 × UInt64) : Option (List UInt8) :=
  obind (
    obind (eachN0 (m_hash_Bytes_b2 a0) 2 0 ([] : List UInt8)) fun x2 =>
    some x2
  ) fun x1 =>
  some x1
theorem w_hash_Bytes {a0 : UInt64 × UInt64} {r : List UInt8} (hm : m_hash_Bytes a0 = some r) : Sp prog 82 [ag (e_a2_eU a0)] [] 0 (is (.ow 0) [.row 0 1 _ eB r] 1) :=
  sp call82 func82 rfl ntmps82 rfl fun D0 As η0 m0 hd => by
    unfold m_hash_Bytes at hm
    obtain ⟨x1, q1, hm⟩ := obind_some hm
    obtain ⟨x2, q2, q1⟩ := obind_some q1
    refine gnilU 0 eB 3 1 (by kernel_rfl) ?_
    refine gjU 0 (fun (_ : Unit) => ⟨[(3, .ow 1)], [(0, .row 1 1 _ eB x1), (1, .box 0 [.d (.u a0.1), .d (.u a0.2)] 27)], [], 2⟩) (fun _ => True) (by kernel_rfl) (fun Jp bk1 => ?_) fun _ _ => ?_
    · refine gjU 0 (fun (_ : Unit) => ⟨[(3, .ow 1)], [(0, .row 1 1 _ eB x2), (1, .box 0 [.d (.u a0.1), .d (.u a0.2)] 27)], [], 2⟩) (fun _ => True) (by kernel_rfl) (fun Jp bk2 => ?_) fun _ _ => ?_
      · refine gl hd (fun (p : Int × ((List UInt8))) => let (p0, p_0) := p; ⟨[(3, .ow 1), (6, .agg [.d (.u a0.1), .d (.u a0.2)]), (7, .d (.i p0))], [(0, .row 1 1 _ eB p_0), (1, .box 0 [.d (.u a0.1), .d (.u a0.2)] 27)], [], 2⟩) (fun p => ∃ i : Nat, p.1 = (i : Int) ∧ i ≤ 2 ∧ eachN0 (m_hash_Bytes_b2 a0) (2 - i) (i : Int) p.2 = some x2) (fun p => 2 - p.1.toNat) (0, ([] : List UInt8)) ⟨0, rfl, Nat.zero_le _, q2⟩ (by kernel_rfl) ?_
        rintro ⟨_, s1⟩ ⟨i1, rfl, hi, q3⟩ Jl bl1
        refine gi' (b := decide ((i1 : Int) < (2 : Int))) (by kernel_rfl) (fun hc1 => ?_) fun hc1 => ?_
        · have hlt1 : i1 < 2 := by have := of_decide_eq_true hc1; omega
          obtain ⟨y1, q5, q4⟩ := eachN0_in q3 hlt1
          unfold m_hash_Bytes_b2 at q5
          obtain ⟨x4, q7, q5⟩ := obind_some q5
          refine gidxV (k := 1) (ag := false) (E := eU) ([a0.1, a0.2] : List UInt64) (fun _ => rfl) (fun _ => q7) (by kernel_rfl) ?_
          obtain ⟨x5, q8, q5⟩ := obind_some q5
          refine gco (w_hash_put q8) (by kernel_rfl) ?_
          have e0 := Option.some.inj q5
          subst e0
          exact gb bl1 hd (w64 ((i1 : Int) + 1), x5) ⟨⟨i1 + 1, w64_succ hlt1 (by decide), by omega, q4⟩, mu_lt hlt1 (by decide)⟩ (by kernel_rfl)
        have hlt1 : ¬ i1 < 2 := by have := of_decide_eq_false hc1; omega
        have e := Eq.symm (eachN0_out q3 hlt1)
        subst e
        exact gb bk2 hd () trivial (by kernel_rfl)
      have e0 := Option.some.inj q1
      subst e0
      exact gb bk1 hd () trivial (by kernel_rfl)
    have e0 := Option.some.inj hm
    subst e0
    exact gend hd (by kernel_rfl)
def m_logd_ofHead (a0 : g_api_Head) : Option (List UInt8) :=
  obind (m_logd_eight a0.Log) fun x1 =>
  obind (m_logd_eight a0.Size) fun x2 =>
  obind (m_hash_Bytes a0.Root) fun x3 =>
  obind (m_logd_eight a0.At) fun x4 =>
  obind (m_logd_msg (⟨#[104, 101, 97, 100]⟩ : ByteArray) ([x1, x2, x3, x4] : List (List UInt8))) fun x5 =>
  some x5
theorem w_logd_ofHead {a0 : g_api_Head} {r : List UInt8} (hm : m_logd_ofHead a0 = some r) : Sp prog 62 [ag (e_api_Head a0)] [] 0 (is (.ow 0) [.row 0 1 _ eB r] 1) :=
  sp call62 func62 rfl ntmps62 rfl fun D0 As η0 m0 hd => by
    unfold m_logd_ofHead at hm
    obtain ⟨x1, q1, hm⟩ := obind_some hm
    refine gco (s_logd_eight q1) (by kernel_rfl) ?_
    obtain ⟨x2, q2, hm⟩ := obind_some hm
    refine gco (s_logd_eight q2) (by kernel_rfl) ?_
    obtain ⟨x3, q3, hm⟩ := obind_some hm
    refine gco (w_hash_Bytes q3) (by kernel_rfl) ?_
    obtain ⟨x4, q4, hm⟩ := obind_some hm
    refine gco (s_logd_eight q4) (by kernel_rfl) ?_
    refine glitV (k := 1) (eL eB) ([x1, x2, x3, x4] : List (List UInt8)) (fun _ => rfl) (by kernel_rfl) ?_
    obtain ⟨x5, q5, hm⟩ := obind_some hm
    refine gco (w_logd_msg q5) (by kernel_rfl) ?_
    have e0 := Option.some.inj hm
    subst e0
    exact gend hd (by kernel_rfl)
def m_logd_CheckHead (a0 : g_api_Key) (a1 : g_api_Head) : Option Int :=
  obind (m_logd_number a1.At) fun x1 =>
  obind (m_logd_ofHead a1) fun x2 =>
  obind (m_logd_signed a0 a1.Log ((x1 && (decide (a1.Size ≥ 0))) && (decide (a1.Size ≤ 256))) x2 a1.Sig) fun x3 =>
  some x3
theorem w_logd_CheckHead {a0 : g_api_Key} {a1 : g_api_Head} {r : Int} (hm : m_logd_CheckHead a0 a1 = some r) : Sf prog 32 [ag (e_api_Key a0), ag (e_api_Head a1)] (.d (.i r)) :=
  sp call32 func32 rfl ntmps32 rfl fun D0 As η0 m0 hd => by
    unfold m_logd_CheckHead at hm
    obtain ⟨x1, q1, hm⟩ := obind_some hm
    refine gc (fun _ => w_logd_number q1) (by kernel_rfl) ?_
    obtain ⟨x2, q2, hm⟩ := obind_some hm
    refine gco (w_logd_ofHead q2) (by kernel_rfl) ?_
    obtain ⟨x3, q3, hm⟩ := obind_some hm
    refine gco (w_logd_signed q3) (by kernel_rfl) ?_
    have e0 := Option.some.inj hm
    subst e0
    exact gend hd (by kernel_rfl)
def m_gossip_right_1 (a0 : g_api_Key) (k0 : g_api_Head) : Option (Bool × g_api_Head) :=
  some ((a0.Log == k0.Log), k0)
theorem w_gossip_right_1 {a0 : g_api_Key} {k0 : g_api_Head} {r : Bool × g_api_Head} (hm : m_gossip_right_1 a0 k0 = some r) : Sp prog 70 [ag (e_api_Key a0), .pb 0 0] [.box 0 [.d (.i k0.Log), .d (.i k0.Size), .d (.u k0.Root.1), .d (.u k0.Root.2), .d (.i k0.At), .d (.u k0.Sig.E), .d (.u k0.Sig.S)] 31] 1 (is (.d (.t r.1)) [.box 0 [.d (.i r.2.Log), .d (.i r.2.Size), .d (.u r.2.Root.1), .d (.u r.2.Root.2), .d (.i r.2.At), .d (.u r.2.Sig.E), .d (.u r.2.Sig.S)] 31] 1) :=
  sp call70 func70 rfl ntmps70 rfl fun D0 As η0 m0 hd => by
    unfold m_gossip_right_1 at hm
    have e0 := Option.some.inj hm
    subst e0
    exact gend hd (by kernel_rfl)
def m_slices_IndexFunc_api_Key_api_Key_70x_b1 (a0 : List g_api_Key) (i1 : Int) (s1 : Int × Int × UInt64 × UInt64 × Int × UInt64 × UInt64) : Option ((Int × Int × UInt64 × UInt64 × Int × UInt64 × UInt64) ⊕ (Int × g_api_Head)) :=
  obind (idx a0 (i1 : Int)) fun x3 =>
  obind (m_gossip_right_1 x3 (⟨s1.1, s1.2.1, (s1.2.2.1, s1.2.2.2.1), s1.2.2.2.2.1, (⟨s1.2.2.2.2.2.1, s1.2.2.2.2.2.2⟩ : g_api_Sig)⟩ : g_api_Head)) fun x4 =>
  if x4.1 = true then
    some (.inr ((i1 : Int), x4.2))
  else
  some (.inl (x4.2.Log, x4.2.Size, x4.2.Root.1, x4.2.Root.2, x4.2.At, x4.2.Sig.E, x4.2.Sig.S))
def m_slices_IndexFunc_api_Key_api_Key_70x (a0 : List g_api_Key) (k0 : g_api_Head) : Option (Int × g_api_Head) :=
  obind (eachN (m_slices_IndexFunc_api_Key_api_Key_70x_b1 a0) a0.length 0 (k0.Log, k0.Size, k0.Root.1, k0.Root.2, k0.At, k0.Sig.E, k0.Sig.S)) fun x1 => match x1 with
  | .inr r => some r
  | .inl y1 =>
  some ((-1), (⟨y1.1, y1.2.1, (y1.2.2.1, y1.2.2.2.1), y1.2.2.2.2.1, (⟨y1.2.2.2.2.2.1, y1.2.2.2.2.2.2⟩ : g_api_Sig)⟩ : g_api_Head))
theorem w_slices_IndexFunc_api_Key_api_Key_70x {a0 : List g_api_Key} {k0 : g_api_Head} {r : Int × g_api_Head} (hm : m_slices_IndexFunc_api_Key_api_Key_70x a0 k0 = some r) : Sp prog 69 [sl e_api_Key a0, .fn (.func 70) [] [.pb 0 0]] [.box 0 [.d (.i k0.Log), .d (.i k0.Size), .d (.u k0.Root.1), .d (.u k0.Root.2), .d (.i k0.At), .d (.u k0.Sig.E), .d (.u k0.Sig.S)] 31] 1 (is (.d (.i r.1)) [.box 0 [.d (.i r.2.Log), .d (.i r.2.Size), .d (.u r.2.Root.1), .d (.u r.2.Root.2), .d (.i r.2.At), .d (.u r.2.Sig.E), .d (.u r.2.Sig.S)] 31] 1) :=
  sp call69 func69 rfl ntmps69 rfl fun D0 As η0 m0 hd => by
    unfold m_slices_IndexFunc_api_Key_api_Key_70x at hm
    obtain ⟨x1, q1, hm⟩ := obind_some hm
    refine glen 0 (E := e_api_Key) (xs := a0) 6 (by kernel_rfl) fun hle1 => ?_
    refine gjU 0 (fun (y1 : Int × Int × UInt64 × UInt64 × Int × UInt64 × UInt64) => let (y_0, y_1, y_2, y_3, y_4, y_5, y_6) := y1; ⟨[], [(0, .box 0 [.d (.i y_0), .d (.i y_1), .d (.u y_2), .d (.u y_3), .d (.i y_4), .d (.u y_5), .d (.u y_6)] 31)], [], 1⟩) (fun y1 => x1 = .inl y1) (by kernel_rfl) (fun Jp bk1 => ?_) fun y1 hy => ?_
    · refine gl hd (fun (p : Int × (Int × Int × UInt64 × UInt64 × Int × UInt64 × UInt64)) => let (p0, p_0, p_1, p_2, p_3, p_4, p_5, p_6) := p; ⟨[(0, sl e_api_Key a0), (1, .fn (.func 70) [] [.pb 0 0]), (7, .d (.i (a0.length : Int))), (8, .d (.i p0))], [(0, .box 0 [.d (.i p_0), .d (.i p_1), .d (.u p_2), .d (.u p_3), .d (.i p_4), .d (.u p_5), .d (.u p_6)] 31)], [], 1⟩) (fun p => ∃ i : Nat, p.1 = (i : Int) ∧ i ≤ a0.length ∧ eachN (m_slices_IndexFunc_api_Key_api_Key_70x_b1 a0) (a0.length - i) (i : Int) p.2 = some x1) (fun p => a0.length - p.1.toNat) (0, (k0.Log, k0.Size, k0.Root.1, k0.Root.2, k0.At, k0.Sig.E, k0.Sig.S)) ⟨0, rfl, Nat.zero_le _, q1⟩ (by kernel_rfl) ?_
      rintro ⟨_, s1⟩ ⟨i1, rfl, hi, q2⟩ Jl bl1
      refine gi' (b := decide ((i1 : Int) < (a0.length : Int))) (by kernel_rfl) (fun hc2 => ?_) fun hc2 => ?_
      · have hlt1 : i1 < a0.length := by have := of_decide_eq_true hc2; omega
        obtain ⟨y2, q4, q3⟩ := eachN_in q2 hlt1
        unfold m_slices_IndexFunc_api_Key_api_Key_70x_b1 at q4
        obtain ⟨x3, q6, q4⟩ := obind_some q4
        refine gidx (k := 3) (E := e_api_Key) (fun _ => rfl) (fun _ => q6) (by kernel_rfl) ?_
        obtain ⟨x4, q7, q4⟩ := obind_some q4
        refine gco (w_gossip_right_1 q7) (by kernel_rfl) ?_
        refine gi q4 (by kernel_rfl) (fun hc1 q4 => ?_) fun hc1 q4 => ?_
        · skip
          cases q4
          rcases q3 with ⟨sn, e, _⟩ | ⟨tn, e, e2⟩
          · cases e
          cases e
          cases e2
          dsimp only at hm
          have e0 := Option.some.inj hm
          subst e0
          exact gend hd (by kernel_rfl)
        have e0 := Option.some.inj q4
        subst e0
        rcases q3 with ⟨sn, e, q3'⟩ | ⟨tn, e, _⟩
        · have e := Sum.inl.inj e
          subst e
          exact gb bl1 hd (w64 ((i1 : Int) + 1), _) ⟨⟨i1 + 1, w64_succ hlt1 hle1, by omega, q3'⟩, mu_lt hlt1 hle1⟩ (by kernel_rfl)
        cases sum_lr e
      have hlt1 : ¬ i1 < a0.length := by have := of_decide_eq_false hc2; omega
      have e := eachN_out q2 hlt1
      cases e
      exact gb bk1 hd _ rfl (by kernel_rfl)
    subst hy
    dsimp only at hm
    have e0 := Option.some.inj hm
    subst e0
    exact gend hd (by kernel_rfl)
def m_gossip_right (a0 : g_api_Head) (a1 : List g_api_Key) : Option Bool :=
  obind (m_slices_IndexFunc_api_Key_api_Key_70x a1 a0) fun x1 =>
  obind (gu (decide (x1.1 ≥ 0)) (idx a1 x1.1)) fun x2 =>
  obind (gu (decide (x1.1 ≥ 0)) (m_logd_CheckHead x2 x1.2)) fun x3 =>
  bnd (((decide (x1.1 ≥ 0)) && (x3 == 0))) fun x4 =>
  some x4
theorem w_gossip_right {a0 : g_api_Head} {a1 : List g_api_Key} {r : Bool} (hm : m_gossip_right a0 a1 = some r) : Sf prog 37 [ag (e_api_Head a0), sl e_api_Key a1] (.d (.t r)) :=
  sp call37 func37 rfl ntmps37 rfl fun D0 As η0 m0 hd => by
    unfold m_gossip_right at hm
    obtain ⟨x1, q1, hm⟩ := obind_some hm
    refine gco (w_slices_IndexFunc_api_Key_api_Key_70x q1) (by kernel_rfl) ?_
    obtain ⟨x2, q2, hm⟩ := obind_some hm
    refine gidxG (k := 3) (E := e_api_Key) (fun _ => rfl) (fun h => gu_t h q2) (by kernel_rfl) ?_
    obtain ⟨x3, q3, hm⟩ := obind_some hm
    refine gcG (fun h => w_logd_CheckHead (gu_t h q3)) (by kernel_rfl) ?_
    have hm := bnd_is hm
    let x4 : Bool := (((decide (x1.1 ≥ 0)) && (x3 == 0)))
    have e0 := Option.some.inj hm
    subst e0
    exact gend hd (by kernel_rfl)
theorem v_gossip_right {m : Mem} {As : List Ow} {w : World} {a0 : g_api_Head} {a1 : List g_api_Key} {a1v0 : Value} {r : Bool} (S : St m As w) (a1h0 : SlR m a1v0 a1) (hm : m_gossip_right a0 a1 = some r) :
    CallsR prog 37 #[.agg #[vI a0.Log, vI a0.Size, vU a0.Root.1, vU a0.Root.2, vI a0.At, vU a0.Sig.E, vU a0.Sig.S], a1v0] w fun v w' => ∃ (M : Mem), m ≤ M ∧ St M (As) w' ∧ v = vb r := by
  refine CallsR.mono ((w_gossip_right hm).2 none0 m As w [.agg #[vI a0.Log, vI a0.Size, vU a0.Root.1, vU a0.Root.2, vI a0.At, vU a0.Sig.E, vU a0.Sig.S], a1v0] (.cons (Br.toA b_api_Head (mk_g_api_Head)) (.cons (.d (Br.toS b_api_Key a1h0)) .nil)) (fun n h => absurd rfl h) S) ?_
  rintro v w' ⟨M, η', r', obs', n1, hle, _, ⟨rfl, rfl, rfl⟩, hdom, hR, S'⟩
  obtain rfl := hR.t_inv
  exact ⟨M, hle, S', rfl⟩
def m_cmp_Or_int_b1  (i1 : Int) (x2 : Int) (s1 : Unit) : Option ((Unit) ⊕ Int) :=
  if (x2 != 0) = true then
    some (.inr x2)
  else
  some (.inl ())
def m_cmp_Or_int (a0 : List Int) : Option Int :=
  obind (eachR m_cmp_Or_int_b1 a0 0 ()) fun x1 => match x1 with
  | .inr r => some r
  | .inl y1 =>
  some 0
theorem w_cmp_Or_int {a0 : List Int} {r : Int} (hm : m_cmp_Or_int a0 = some r) : Sf prog 77 [sl eI a0] (.d (.i r)) :=
  sp call77 func77 rfl ntmps77 rfl fun D0 As η0 m0 hd => by
    unfold m_cmp_Or_int at hm
    obtain ⟨x1, q1, hm⟩ := obind_some hm
    refine glen 0 (E := eI) (xs := a0) 6 (by kernel_rfl) fun hle1 => ?_
    refine gjU 0 (fun (y1 : Unit) => ⟨[(3, .d (.i 0))], [], [], 0⟩) (fun y1 => x1 = .inl y1) (by kernel_rfl) (fun Jp bk1 => ?_) fun y1 hy => ?_
    · refine gl hd (fun (p : Int × (Unit)) => let (p0, _) := p; ⟨[(3, .d (.i 0)), (6, sl eI a0), (7, .d (.i (a0.length : Int))), (8, .d (.i p0))], [], [], 0⟩) (fun p => ∃ i : Nat, p.1 = (i : Int) ∧ i ≤ a0.length ∧ eachR m_cmp_Or_int_b1 (a0.drop i) (i : Int) p.2 = some x1) (fun p => a0.length - p.1.toNat) (0, ()) ⟨0, rfl, Nat.zero_le _, q1⟩ (by kernel_rfl) ?_
      rintro ⟨_, s1⟩ ⟨i1, rfl, hi, q2⟩ Jl bl1
      refine gi' (b := decide ((i1 : Int) < (a0.length : Int))) (by kernel_rfl) (fun hc2 => ?_) fun hc2 => ?_
      · have hlt1 : i1 < a0.length := by have := of_decide_eq_true hc2; omega
        obtain ⟨x2, y2, q5, q4, q3⟩ := eachR_in q2 hlt1
        unfold m_cmp_Or_int_b1 at q4
        refine gidx (k := 1) (E := eI) (fun _ => rfl) (fun _ => q5) (by kernel_rfl) ?_
        refine gi q4 (by kernel_rfl) (fun hc1 q4 => ?_) fun hc1 q4 => ?_
        · skip
          cases q4
          rcases q3 with ⟨sn, e, _⟩ | ⟨tn, e, e2⟩
          · cases e
          cases e
          cases e2
          dsimp only at hm
          have e0 := Option.some.inj hm
          subst e0
          exact gend hd (by kernel_rfl)
        have e0 := Option.some.inj q4
        subst e0
        rcases q3 with ⟨sn, e, q3'⟩ | ⟨tn, e, _⟩
        · have e := Sum.inl.inj e
          subst e
          exact gb bl1 hd (w64 ((i1 : Int) + 1), _) ⟨⟨i1 + 1, w64_succ hlt1 hle1, by omega, q3'⟩, mu_lt hlt1 hle1⟩ (by kernel_rfl)
        cases sum_lr e
      have hlt1 : ¬ i1 < a0.length := by have := of_decide_eq_false hc2; omega
      have e := eachR_out q2 hlt1
      cases e
      exact gb bk1 hd _ rfl (by kernel_rfl)
    subst hy
    dsimp only at hm
    have e0 := Option.some.inj hm
    subst e0
    exact gend hd (by kernel_rfl)
def m_gossip_row (a0 : List Int) : Option Int :=
  obind (m_cmp_Or_int a0) fun x1 =>
  some x1
theorem w_gossip_row {a0 : List Int} {r : Int} (hm : m_gossip_row a0 = some r) : Sf prog 53 [sl eI a0] (.d (.i r)) :=
  sp call53 func53 rfl ntmps53 rfl fun D0 As η0 m0 hd => by
    unfold m_gossip_row at hm
    obtain ⟨x1, q1, hm⟩ := obind_some hm
    refine gc (fun _ => w_cmp_Or_int q1) (by kernel_rfl) ?_
    have e0 := Option.some.inj hm
    subst e0
    exact gend hd (by kernel_rfl)
theorem v_gossip_row {m : Mem} {As : List Ow} {w : World} {a0 : List Int} {a0v0 : Value} {r : Int} (S : St m As w) (a0h0 : SlR m a0v0 a0) (hm : m_gossip_row a0 = some r) :
    CallsR prog 53 #[a0v0] w fun v w' => ∃ (M : Mem), m ≤ M ∧ St M (As) w' ∧ v = vI r := by
  refine CallsR.mono ((w_gossip_row hm).2 none0 m As w [a0v0] (.cons (.d (Br.toS Br.i a0h0)) .nil) (fun n h => absurd rfl h) S) ?_
  rintro v w' ⟨M, η', r', obs', n1, hle, _, ⟨rfl, rfl, rfl⟩, hdom, hR, S'⟩
  obtain rfl := hR.i_inv
  exact ⟨M, hle, S', rfl⟩
def m_cmp_isNaN_int (a0 : Int) : Option Bool :=
  some (a0 != a0)
theorem w_cmp_isNaN_int {a0 : Int} {r : Bool} (hm : m_cmp_isNaN_int a0 = some r) : Sf prog 78 [.d (.i a0)] (.d (.t r)) :=
  sp call78 func78 rfl ntmps78 rfl fun D0 As η0 m0 hd => by
    unfold m_cmp_isNaN_int at hm
    have e0 := Option.some.inj hm
    subst e0
    exact gend hd (by kernel_rfl)
def m_cmp_Compare_int (a0 : Int) (a1 : Int) : Option Int :=
  obind (m_cmp_isNaN_int a0) fun x1 =>
  obind (m_cmp_isNaN_int a1) fun x2 =>
  if x1 = true then
    if x2 = true then
      some 0
    else
    some (-1)
  else
  if x2 = true then
    some 1
  else
  if (decide (a0 < a1)) = true then
    some (-1)
  else
  if (decide (a0 > a1)) = true then
    some 1
  else
  some 0
theorem w_cmp_Compare_int {a0 : Int} {a1 : Int} {r : Int} (hm : m_cmp_Compare_int a0 a1 = some r) : Sf prog 54 [.d (.i a0), .d (.i a1)] (.d (.i r)) :=
  sp call54 func54 rfl ntmps54 rfl fun D0 As η0 m0 hd => by
    unfold m_cmp_Compare_int at hm
    obtain ⟨x1, q1, hm⟩ := obind_some hm
    refine gc (fun _ => w_cmp_isNaN_int q1) (by kernel_rfl) ?_
    obtain ⟨x2, q2, hm⟩ := obind_some hm
    refine gc (fun _ => w_cmp_isNaN_int q2) (by kernel_rfl) ?_
    refine gi hm (by kernel_rfl) (fun hc1 hm => ?_) fun hc1 hm => ?_
    · skip
      refine gi hm (by kernel_rfl) (fun hc2 hm => ?_) fun hc2 hm => ?_
      · skip
        have e0 := Option.some.inj hm
        subst e0
        exact gend hd (by kernel_rfl)
      have e0 := Option.some.inj hm
      subst e0
      exact gend hd (by kernel_rfl)
    refine gi hm (by kernel_rfl) (fun hc3 hm => ?_) fun hc3 hm => ?_
    · skip
      have e0 := Option.some.inj hm
      subst e0
      exact gend hd (by kernel_rfl)
    refine gi hm (by kernel_rfl) (fun hc4 hm => ?_) fun hc4 hm => ?_
    · skip
      have e0 := Option.some.inj hm
      subst e0
      exact gend hd (by kernel_rfl)
    refine gi hm (by kernel_rfl) (fun hc5 hm => ?_) fun hc5 hm => ?_
    · skip
      have e0 := Option.some.inj hm
      subst e0
      exact gend hd (by kernel_rfl)
    have e0 := Option.some.inj hm
    subst e0
    exact gend hd (by kernel_rfl)
theorem v_cmp_Compare_int {m : Mem} {As : List Ow} {w : World} {a0 : Int} {a1 : Int} {r : Int} (S : St m As w) (hm : m_cmp_Compare_int a0 a1 = some r) :
    CallsR prog 54 #[vI a0, vI a1] w fun v w' => ∃ (M : Mem), m ≤ M ∧ St M (As) w' ∧ v = vI r := by
  refine CallsR.mono ((w_cmp_Compare_int hm).2 none0 m As w [vI a0, vI a1] (.cons (.d (.i _)) (.cons (.d (.i _)) .nil)) (fun n h => absurd rfl h) S) ?_
  rintro v w' ⟨M, η', r', obs', n1, hle, _, ⟨rfl, rfl, rfl⟩, hdom, hR, S'⟩
  obtain rfl := hR.i_inv
  exact ⟨M, hle, S', rfl⟩
def m_cmp_isNaN_uint64 (a0 : UInt64) : Option Bool :=
  bnd (((a0.toNat : Int) != (a0.toNat : Int))) fun x1 =>
  some x1
theorem w_cmp_isNaN_uint64 {a0 : UInt64} {r : Bool} (hm : m_cmp_isNaN_uint64 a0 = some r) : Sf prog 127 [.d (.u a0)] (.d (.t r)) :=
  sp call127 func127 rfl ntmps127 rfl fun D0 As η0 m0 hd => by
    unfold m_cmp_isNaN_uint64 at hm
    have hm := bnd_is hm
    let x1 : Bool := (((a0.toNat : Int) != (a0.toNat : Int)))
    have e0 := Option.some.inj hm
    subst e0
    exact gend hd (by kernel_rfl)
def m_cmp_Compare_uint64 (a0 : UInt64) (a1 : UInt64) : Option Int :=
  obind (m_cmp_isNaN_uint64 a0) fun x1 =>
  obind (m_cmp_isNaN_uint64 a1) fun x2 =>
  if x1 = true then
    if x2 = true then
      some 0
    else
    some (-1)
  else
  if x2 = true then
    some 1
  else
  if (decide ((a0.toNat : Int) < (a1.toNat : Int))) = true then
    some (-1)
  else
  if (decide ((a0.toNat : Int) > (a1.toNat : Int))) = true then
    some 1
  else
  some 0
theorem w_cmp_Compare_uint64 {a0 : UInt64} {a1 : UInt64} {r : Int} (hm : m_cmp_Compare_uint64 a0 a1 = some r) : Sf prog 102 [.d (.u a0), .d (.u a1)] (.d (.i r)) :=
  sp call102 func102 rfl ntmps102 rfl fun D0 As η0 m0 hd => by
    unfold m_cmp_Compare_uint64 at hm
    obtain ⟨x1, q1, hm⟩ := obind_some hm
    refine gc (fun _ => w_cmp_isNaN_uint64 q1) (by kernel_rfl) ?_
    obtain ⟨x2, q2, hm⟩ := obind_some hm
    refine gc (fun _ => w_cmp_isNaN_uint64 q2) (by kernel_rfl) ?_
    refine gi hm (by kernel_rfl) (fun hc1 hm => ?_) fun hc1 hm => ?_
    · skip
      refine gi hm (by kernel_rfl) (fun hc2 hm => ?_) fun hc2 hm => ?_
      · skip
        have e0 := Option.some.inj hm
        subst e0
        exact gend hd (by kernel_rfl)
      have e0 := Option.some.inj hm
      subst e0
      exact gend hd (by kernel_rfl)
    refine gi hm (by kernel_rfl) (fun hc3 hm => ?_) fun hc3 hm => ?_
    · skip
      have e0 := Option.some.inj hm
      subst e0
      exact gend hd (by kernel_rfl)
    refine gi hm (by kernel_rfl) (fun hc4 hm => ?_) fun hc4 hm => ?_
    · skip
      have e0 := Option.some.inj hm
      subst e0
      exact gend hd (by kernel_rfl)
    refine gi hm (by kernel_rfl) (fun hc5 hm => ?_) fun hc5 hm => ?_
    · skip
      have e0 := Option.some.inj hm
      subst e0
      exact gend hd (by kernel_rfl)
    have e0 := Option.some.inj hm
    subst e0
    exact gend hd (by kernel_rfl)
def m_slices_Compare_uint64_uint64_b1 (a0 : List UInt64) (a1 : List UInt64) (i1 : Int) (s1 : Unit) : Option ((Unit) ⊕ Int) :=
  obind (idx a0 (i1 : Int)) fun x3 =>
  if (decide ((i1 : Int) ≥ (a1.length : Int))) = true then
    some (.inr 1)
  else
  obind (idx a1 (i1 : Int)) fun x4 =>
  obind (m_cmp_Compare_uint64 x3 x4) fun x5 =>
  if (x5 != 0) = true then
    some (.inr x5)
  else
  some (.inl ())
def m_slices_Compare_uint64_uint64 (a0 : List UInt64) (a1 : List UInt64) : Option Int :=
  obind (eachN (m_slices_Compare_uint64_uint64_b1 a0 a1) a0.length 0 ()) fun x1 => match x1 with
  | .inr r => some r
  | .inl y1 =>
  if (decide ((a0.length : Int) < (a1.length : Int))) = true then
    some (-1)
  else
  some 0
theorem w_slices_Compare_uint64_uint64 {a0 : List UInt64} {a1 : List UInt64} {r : Int} (hm : m_slices_Compare_uint64_uint64 a0 a1 = some r) : Sf prog 76 [sl eU a0, sl eU a1] (.d (.i r)) :=
  sp call76 func76 rfl ntmps76 rfl fun D0 As η0 m0 hd => by
    unfold m_slices_Compare_uint64_uint64 at hm
    obtain ⟨x1, q1, hm⟩ := obind_some hm
    refine glen 0 (E := eU) (xs := a0) 9 (by kernel_rfl) fun hle1 => ?_
    refine gjU 0 (fun (y1 : Unit) => ⟨[(0, sl eU a0), (1, sl eU a1)], [], [], 0⟩) (fun y1 => x1 = .inl y1) (by kernel_rfl) (fun Jp bk1 => ?_) fun y1 hy => ?_
    · refine gl hd (fun (p : Int × (Unit)) => let (p0, _) := p; ⟨[(0, sl eU a0), (1, sl eU a1), (9, sl eU a0), (10, .d (.i (a0.length : Int))), (11, .d (.i p0))], [], [], 0⟩) (fun p => ∃ i : Nat, p.1 = (i : Int) ∧ i ≤ a0.length ∧ eachN (m_slices_Compare_uint64_uint64_b1 a0 a1) (a0.length - i) (i : Int) p.2 = some x1) (fun p => a0.length - p.1.toNat) (0, ()) ⟨0, rfl, Nat.zero_le _, q1⟩ (by kernel_rfl) ?_
      rintro ⟨_, s1⟩ ⟨i1, rfl, hi, q2⟩ Jl bl1
      refine gi' (b := decide ((i1 : Int) < (a0.length : Int))) (by kernel_rfl) (fun hc3 => ?_) fun hc3 => ?_
      · have hlt1 : i1 < a0.length := by have := of_decide_eq_true hc3; omega
        obtain ⟨y2, q4, q3⟩ := eachN_in q2 hlt1
        unfold m_slices_Compare_uint64_uint64_b1 at q4
        obtain ⟨x3, q6, q4⟩ := obind_some q4
        refine gidx (k := 1) (E := eU) (fun _ => rfl) (fun _ => q6) (by kernel_rfl) ?_
        refine gi q4 (by kernel_rfl) (fun hc1 q4 => ?_) fun hc1 q4 => ?_
        · skip
          cases q4
          rcases q3 with ⟨sn, e, _⟩ | ⟨tn, e, e2⟩
          · cases e
          cases e
          cases e2
          dsimp only at hm
          have e0 := Option.some.inj hm
          subst e0
          exact gend hd (by kernel_rfl)
        obtain ⟨x4, q7, q4⟩ := obind_some q4
        refine gidx (k := 1) (E := eU) (fun _ => rfl) (fun _ => q7) (by kernel_rfl) ?_
        obtain ⟨x5, q8, q4⟩ := obind_some q4
        refine gc (fun _ => w_cmp_Compare_uint64 q8) (by kernel_rfl) ?_
        refine gi q4 (by kernel_rfl) (fun hc2 q4 => ?_) fun hc2 q4 => ?_
        · skip
          cases q4
          rcases q3 with ⟨sn, e, _⟩ | ⟨tn, e, e2⟩
          · cases e
          cases e
          cases e2
          dsimp only at hm
          have e0 := Option.some.inj hm
          subst e0
          exact gend hd (by kernel_rfl)
        have e0 := Option.some.inj q4
        subst e0
        rcases q3 with ⟨sn, e, q3'⟩ | ⟨tn, e, _⟩
        · have e := Sum.inl.inj e
          subst e
          exact gb bl1 hd (w64 ((i1 : Int) + 1), _) ⟨⟨i1 + 1, w64_succ hlt1 hle1, by omega, q3'⟩, mu_lt hlt1 hle1⟩ (by kernel_rfl)
        cases sum_lr e
      have hlt1 : ¬ i1 < a0.length := by have := of_decide_eq_false hc3; omega
      have e := eachN_out q2 hlt1
      cases e
      exact gb bk1 hd _ rfl (by kernel_rfl)
    subst hy
    dsimp only at hm
    refine gi hm (by kernel_rfl) (fun hc4 hm => ?_) fun hc4 hm => ?_
    · skip
      have e0 := Option.some.inj hm
      subst e0
      exact gend hd (by kernel_rfl)
    have e0 := Option.some.inj hm
    subst e0
    exact gend hd (by kernel_rfl)
theorem v_slices_Compare_uint64_uint64 {m : Mem} {As : List Ow} {w : World} {a0 : List UInt64} {a0v0 : Value} {a1 : List UInt64} {a1v0 : Value} {r : Int} (S : St m As w) (a0h0 : SlR m a0v0 a0) (a1h0 : SlR m a1v0 a1) (hm : m_slices_Compare_uint64_uint64 a0 a1 = some r) :
    CallsR prog 76 #[a0v0, a1v0] w fun v w' => ∃ (M : Mem), m ≤ M ∧ St M (As) w' ∧ v = vI r := by
  refine CallsR.mono ((w_slices_Compare_uint64_uint64 hm).2 none0 m As w [a0v0, a1v0] (.cons (.d (Br.toS Br.u a0h0)) (.cons (.d (Br.toS Br.u a1h0)) .nil)) (fun n h => absurd rfl h) S) ?_
  rintro v w' ⟨M, η', r', obs', n1, hle, _, ⟨rfl, rfl, rfl⟩, hdom, hR, S'⟩
  obtain rfl := hR.i_inv
  exact ⟨M, hle, S', rfl⟩
def m_gossip_head_against (a0 : g_api_Head) (a1 : g_api_Head) : Option Int :=
  obind (m_cmp_Compare_int a0.Log a1.Log) fun x1 =>
  obind (m_cmp_Compare_int a0.Size a1.Size) fun x2 =>
  obind (m_slices_Compare_uint64_uint64 ([a0.Root.1, a0.Root.2] : List UInt64) ([a1.Root.1, a1.Root.2] : List UInt64)) fun x3 =>
  obind (m_cmp_Compare_int a0.At a1.At) fun x4 =>
  obind (m_gossip_row ([x1, x2, x3, x4] : List Int)) fun x5 =>
  some x5
theorem w_gossip_head_against {m : Mem} {As : List Ow} {w : World} {a0 : g_api_Head} {a1 : g_api_Head} {r : Int} (S : St m (As) w) (hm : m_gossip_head_against a0 a1 = some r) :
    CallsR Tryz.prog 50 #[.agg (c_api_Head a0).toArray, .agg (c_api_Head a1).toArray] w fun v w' => ∃ (M : Mem), m ≤ M ∧ St M (As) w' ∧ v = vI r := by
 unfold m_gossip_head_against at hm
 have L0 := Mem.rfl' m
 refine callsR (args := [.agg (c_api_Head a0).toArray, .agg (c_api_Head a1).toArray]) func50 rfl ntmps50 (nb rfl) <| ws <| s_box S rfl fun b1 w1 S1 => ?_
 replace S1 : St _ ((bx b1 (c_api_Head a0) 82) :: As) _ := S1
 clear S
 refine s_box S1 rfl fun b2 w2 S2 => ?_
 replace S2 : St _ ((bx b2 (c_api_Head a1) 82) :: (bx b1 (c_api_Head a0) 82) :: As) _ := S2
 clear S1
 refine s_asv (v := vI 0) rfl <| wpl_nil <| nrm <| wpc_seq ?_
 obtain ⟨m1, l1, h1, S3⟩ := St.bxKeep (i := 1) S2 rfl
 clear S2
 obtain ⟨m2, l2, h2, S4⟩ := St.bxKeep (i := 0) S3 rfl
 clear S3
 obtain ⟨x1, q1, hm⟩ := obind_some hm
 obtain ⟨x2, q2, hm⟩ := obind_some hm
 obtain ⟨x3, q3, hm⟩ := obind_some hm
 have HM : MonoAll [(5, fun (M : Mem) (v : Value) => ∃ (p1 : Value), v = p1 ∧ PtC M p1 (c_api_Head a0)), (6, fv (vI a0.Log)), (7, fun (M : Mem) (v : Value) => ∃ (p2 : Value), v = p2 ∧ PtC M p2 (c_api_Head a1)), (8, fv (vI a1.Log)), (9, fv (vI x1)), (10, fun (M : Mem) (v : Value) => ∃ (p3 : Value), v = p3 ∧ PtC M p3 [vI a0.Size, vU a0.Root.1, vU a0.Root.2, vI a0.At, vU a0.Sig.E, vU a0.Sig.S]), (11, fv (vI a0.Size)), (12, fun (M : Mem) (v : Value) => ∃ (p4 : Value), v = p4 ∧ PtC M p4 [vI a1.Size, vU a1.Root.1, vU a1.Root.2, vI a1.At, vU a1.Sig.E, vU a1.Sig.S]), (13, fv (vI a1.Size)), (14, fv (vI x2)), (15, fun (M : Mem) (v : Value) => ∃ (p5 : Value), v = p5 ∧ PtC M p5 [vU a0.Root.1, vU a0.Root.2, vI a0.At, vU a0.Sig.E, vU a0.Sig.S]), (16, fun (M : Mem) (v : Value) => ∃ (v6 : Value), v = v6 ∧ SlR M v6 ([a0.Root.1, a0.Root.2] : List UInt64)), (17, fun (M : Mem) (v : Value) => ∃ (p6 : Value), v = p6 ∧ PtC M p6 [vU a1.Root.1, vU a1.Root.2, vI a1.At, vU a1.Sig.E, vU a1.Sig.S]), (18, fun (M : Mem) (v : Value) => ∃ (v8 : Value), v = v8 ∧ SlR M v8 ([a1.Root.1, a1.Root.2] : List UInt64)), (19, fv (vI x3)), (20, fun (M : Mem) (v : Value) => ∃ (p7 : Value), v = p7 ∧ PtC M p7 [vI a0.At, vU a0.Sig.E, vU a0.Sig.S]), (21, fv (vI a0.At)), (22, fun (M : Mem) (v : Value) => ∃ (p8 : Value), v = p8 ∧ PtC M p8 [vI a1.At, vU a1.Sig.E, vU a1.Sig.S]), (23, fv (vI a1.At))] := ⟨(fun _ _ _ l ⟨p1, e, h3⟩ => ⟨p1, e, h3.up l⟩), mv, (fun _ _ _ l ⟨p2, e, h5⟩ => ⟨p2, e, h5.up l⟩), mv, mv, (fun _ _ _ l ⟨p3, e, h7⟩ => ⟨p3, e, h7.up l⟩), mv, (fun _ _ _ l ⟨p4, e, h9⟩ => ⟨p4, e, h9.up l⟩), mv, mv, (fun _ _ _ l ⟨p5, e, h11⟩ => ⟨p5, e, h11.up l⟩), (fun _ _ _ l ⟨v6, e, h13⟩ => ⟨v6, e, h13.up l⟩), (fun _ _ _ l ⟨p6, e, h14⟩ => ⟨p6, e, h14.up l⟩), (fun _ _ _ l ⟨v8, e, h16⟩ => ⟨v8, e, h16.up l⟩), mv, (fun _ _ _ l ⟨p7, e, h19⟩ => ⟨p7, e, h19.up l⟩), mv, (fun _ _ _ l ⟨p8, e, h21⟩ => ⟨p8, e, h21.up l⟩), mv, trivial⟩
 refine wpc_flowG HM 19 mixed rfl rfl rfl (rg 5 19) (fun L f M w => St M (As) w) (St.drew S4 _) ?_ ?_
 · refine ⟨?_, ?_, ?_, ?_, ?_, ?_, ?_, ?_, ?_, ?_, ?_, ?_, ?_, ?_, ?_, ?_, ?_, ?_, ?_, trivial⟩
   · intro L f1 w3 hL hd hc ⟨m3, L1, S5, K, hO⟩
     obtain ⟨u1, rfl⟩ := fr_of (N := 27) (L := []) hO trivial
     replace h1 := h1.up (mt l2 L1)
     refine s_fldM (n := 0) rfl h1 underlying82 rfl rfl sizeOf3 fun p1 h3 => ?_
     replace h3 : PtC _ _ (c_api_Head a0) := h3
     exact oS HM L1 S5 rfl K rfl rfl ⟨p1, rfl, h3⟩ outP
   · intro L f2 w4 hL hd hc ⟨m4, L3, S6, K, hO⟩
     obtain ⟨v1, e1, h4⟩ := K 0 (dep hd rfl)
     obtain ⟨u2, rfl⟩ := fr_of (N := 27) (L := [(5, _)]) hO ⟨e1, trivial⟩
     exact s_ldM (cs := [vI a0.Log]) S6 rfl h4 rfl isAgg3 sizeOf3 (fun _ => rfl) <| oS HM L3 S6 rfl K rfl rfl rfl outP
   · intro L f3 w5 hL hd hc ⟨m5, L5, S7, K, hO⟩
     obtain ⟨u3, rfl⟩ := fr_of (N := 27) (L := []) hO trivial
     refine s_fldM (n := 0) rfl (h2.up L5) underlying82 rfl rfl sizeOf3 fun p2 h5 => ?_
     replace h5 : PtC _ _ (c_api_Head a1) := h5
     exact oS HM L5 S7 rfl K rfl rfl ⟨p2, rfl, h5⟩ outP
   · intro L f4 w6 hL hd hc ⟨m6, L7, S8, K, hO⟩
     obtain ⟨v2, e2, h6⟩ := K 2 (dep hd rfl)
     obtain ⟨u4, rfl⟩ := fr_of (N := 27) (L := [(7, _)]) hO ⟨e2, trivial⟩
     exact s_ldM (cs := [vI a1.Log]) S8 rfl h6 rfl isAgg3 sizeOf3 (fun _ => rfl) <| oS HM L7 S8 rfl K rfl rfl rfl outP
   · intro L f5 w7 hL hd hc ⟨m7, L9, S9, K, hO⟩
     obtain ⟨u5, rfl⟩ := fr_of (N := 27) (L := [(6, _), (8, _)]) hO ⟨K 1 (dep hd rfl), K 3 (dep hd rfl), trivial⟩
     have L10 := Mem.rfl' m7
     refine s_call call54 (v_cmp_Compare_int (a0 := a0.Log) (a1 := a1.Log) S9  q1) rfl ?_
     rintro _ w8 ⟨m8, l3, S10, rfl⟩
     clear S9
     refine wpn ?_
     replace L10 := Mem.tr L10 l3
     exact ⟨m8, Mem.tr L9 L10, S10, facts_step HM rfl K L10 rfl rfl rfl, outP⟩
   · intro L f6 w9 hL hd hc ⟨m9, L11, S11, K, hO⟩
     obtain ⟨u6, rfl⟩ := fr_of (N := 27) (L := []) hO trivial
     replace h1 := h1.up (mt l2 L11)
     refine s_fldM (n := 0) rfl h1 underlying82 rfl rfl sizeOf3 fun p3 h7 => ?_
     replace h7 : PtC _ _ [vI a0.Size, vU a0.Root.1, vU a0.Root.2, vI a0.At, vU a0.Sig.E, vU a0.Sig.S] := h7
     exact oS HM L11 S11 rfl K rfl rfl ⟨p3, rfl, h7⟩ outP
   · intro L f7 w10 hL hd hc ⟨m10, L13, S12, K, hO⟩
     obtain ⟨v3, e5, h8⟩ := K 5 (dep hd rfl)
     obtain ⟨u7, rfl⟩ := fr_of (N := 27) (L := [(10, _)]) hO ⟨e5, trivial⟩
     exact s_ldM (cs := [vI a0.Size]) S12 rfl h8 rfl isAgg3 sizeOf3 (fun _ => rfl) <| oS HM L13 S12 rfl K rfl rfl rfl outP
   · intro L f8 w11 hL hd hc ⟨m11, L15, S13, K, hO⟩
     obtain ⟨u8, rfl⟩ := fr_of (N := 27) (L := []) hO trivial
     refine s_fldM (n := 0) rfl (h2.up L15) underlying82 rfl rfl sizeOf3 fun p4 h9 => ?_
     replace h9 : PtC _ _ [vI a1.Size, vU a1.Root.1, vU a1.Root.2, vI a1.At, vU a1.Sig.E, vU a1.Sig.S] := h9
     exact oS HM L15 S13 rfl K rfl rfl ⟨p4, rfl, h9⟩ outP
   · intro L f9 w12 hL hd hc ⟨m12, L17, S14, K, hO⟩
     obtain ⟨v4, e6, h10⟩ := K 7 (dep hd rfl)
     obtain ⟨u9, rfl⟩ := fr_of (N := 27) (L := [(12, _)]) hO ⟨e6, trivial⟩
     exact s_ldM (cs := [vI a1.Size]) S14 rfl h10 rfl isAgg3 sizeOf3 (fun _ => rfl) <| oS HM L17 S14 rfl K rfl rfl rfl outP
   · intro L f10 w13 hL hd hc ⟨m13, L19, S15, K, hO⟩
     obtain ⟨u10, rfl⟩ := fr_of (N := 27) (L := [(11, _), (13, _)]) hO ⟨K 6 (dep hd rfl), K 8 (dep hd rfl), trivial⟩
     have L20 := Mem.rfl' m13
     refine s_call call54 (v_cmp_Compare_int (a0 := a0.Size) (a1 := a1.Size) S15  q2) rfl ?_
     rintro _ w14 ⟨m14, l4, S16, rfl⟩
     clear S15
     refine wpn ?_
     replace L20 := Mem.tr L20 l4
     exact ⟨m14, Mem.tr L19 L20, S16, facts_step HM rfl K L20 rfl rfl rfl, outP⟩
   · intro L f11 w15 hL hd hc ⟨m15, L21, S17, K, hO⟩
     obtain ⟨u11, rfl⟩ := fr_of (N := 27) (L := []) hO trivial
     replace h1 := h1.up (mt l2 L21)
     refine s_fldM (n := 1) rfl h1 underlying82 rfl rfl sizeOf27 fun p5 h11 => ?_
     replace h11 : PtC _ _ [vU a0.Root.1, vU a0.Root.2, vI a0.At, vU a0.Sig.E, vU a0.Sig.S] := h11
     exact oS HM L21 S17 rfl K rfl rfl ⟨p5, rfl, h11⟩ outP
   · intro L f12 w16 hL hd hc ⟨m16, L23, S18, K, hO⟩
     obtain ⟨v5, e9, h12⟩ := K 10 (dep hd rfl)
     obtain ⟨u12, rfl⟩ := fr_of (N := 27) (L := [(15, _)]) hO ⟨e9, trivial⟩
     exact s_sliceM (n := 2) (cs := [vU a0.Root.1, vU a0.Root.2]) (ds := [vI a0.At, vU a0.Sig.E, vU a0.Sig.S]) (xs := ([a0.Root.1, a0.Root.2] : List UInt64)) rfl h12 (RepL.cons (c := [vU a0.Root.1]) rfl (RepL.cons (c := [vU a0.Root.2]) rfl RepL.nil)) rfl (by decide) underlying27 sizeOf25 fun v6 h13 => oS HM L23 S18 rfl K rfl rfl ⟨v6, rfl, h13⟩ outP
   · intro L f13 w17 hL hd hc ⟨m17, L25, S19, K, hO⟩
     obtain ⟨u13, rfl⟩ := fr_of (N := 27) (L := []) hO trivial
     refine s_fldM (n := 1) rfl (h2.up L25) underlying82 rfl rfl sizeOf27 fun p6 h14 => ?_
     replace h14 : PtC _ _ [vU a1.Root.1, vU a1.Root.2, vI a1.At, vU a1.Sig.E, vU a1.Sig.S] := h14
     exact oS HM L25 S19 rfl K rfl rfl ⟨p6, rfl, h14⟩ outP
   · intro L f14 w18 hL hd hc ⟨m18, L27, S20, K, hO⟩
     obtain ⟨v7, e10, h15⟩ := K 12 (dep hd rfl)
     obtain ⟨u14, rfl⟩ := fr_of (N := 27) (L := [(17, _)]) hO ⟨e10, trivial⟩
     exact s_sliceM (n := 2) (cs := [vU a1.Root.1, vU a1.Root.2]) (ds := [vI a1.At, vU a1.Sig.E, vU a1.Sig.S]) (xs := ([a1.Root.1, a1.Root.2] : List UInt64)) rfl h15 (RepL.cons (c := [vU a1.Root.1]) rfl (RepL.cons (c := [vU a1.Root.2]) rfl RepL.nil)) rfl (by decide) underlying27 sizeOf25 fun v8 h16 => oS HM L27 S20 rfl K rfl rfl ⟨v8, rfl, h16⟩ outP
   · intro L f15 w19 hL hd hc ⟨m19, L29, S21, K, hO⟩
     obtain ⟨v9, e11, h17⟩ := K 11 (dep hd rfl)
     obtain ⟨v10, e12, h18⟩ := K 13 (dep hd rfl)
     obtain ⟨u15, rfl⟩ := fr_of (N := 27) (L := [(16, _), (18, _)]) hO ⟨e11, e12, trivial⟩
     have L30 := Mem.rfl' m19
     refine s_call call76 (v_slices_Compare_uint64_uint64 (a0 := ([a0.Root.1, a0.Root.2] : List UInt64)) (a1 := ([a1.Root.1, a1.Root.2] : List UInt64)) S21 h17 h18 q3) rfl ?_
     rintro _ w20 ⟨m20, l5, S22, rfl⟩
     clear S21
     refine wpn ?_
     replace L30 := Mem.tr L30 l5
     exact ⟨m20, Mem.tr L29 L30, S22, facts_step HM rfl K L30 rfl rfl rfl, outP⟩
   · intro L f16 w21 hL hd hc ⟨m21, L31, S23, K, hO⟩
     obtain ⟨u16, rfl⟩ := fr_of (N := 27) (L := []) hO trivial
     replace h1 := h1.up (mt l2 L31)
     refine s_fldM (n := 0) rfl h1 underlying82 rfl rfl sizeOf3 fun p7 h19 => ?_
     replace h19 : PtC _ _ [vI a0.At, vU a0.Sig.E, vU a0.Sig.S] := h19
     exact oS HM L31 S23 rfl K rfl rfl ⟨p7, rfl, h19⟩ outP
   · intro L f17 w22 hL hd hc ⟨m22, L33, S24, K, hO⟩
     obtain ⟨v11, e13, h20⟩ := K 15 (dep hd rfl)
     obtain ⟨u17, rfl⟩ := fr_of (N := 27) (L := [(20, _)]) hO ⟨e13, trivial⟩
     exact s_ldM (cs := [vI a0.At]) S24 rfl h20 rfl isAgg3 sizeOf3 (fun _ => rfl) <| oS HM L33 S24 rfl K rfl rfl rfl outP
   · intro L f18 w23 hL hd hc ⟨m23, L35, S25, K, hO⟩
     obtain ⟨u18, rfl⟩ := fr_of (N := 27) (L := []) hO trivial
     refine s_fldM (n := 0) rfl (h2.up L35) underlying82 rfl rfl sizeOf3 fun p8 h21 => ?_
     replace h21 : PtC _ _ [vI a1.At, vU a1.Sig.E, vU a1.Sig.S] := h21
     exact oS HM L35 S25 rfl K rfl rfl ⟨p8, rfl, h21⟩ outP
   · intro L f19 w24 hL hd hc ⟨m24, L37, S26, K, hO⟩
     obtain ⟨v12, e14, h22⟩ := K 17 (dep hd rfl)
     obtain ⟨u19, rfl⟩ := fr_of (N := 27) (L := [(22, _)]) hO ⟨e14, trivial⟩
     exact s_ldM (cs := [vI a1.At]) S26 rfl h22 rfl isAgg3 sizeOf3 (fun _ => rfl) <| oS HM L37 S26 rfl K rfl rfl rfl outP
 intro L f20 w25 hall ⟨m25, L39, S27, K, hO⟩
 have d4 : L 4 = true := hall 4 (by decide)
 have d9 : L 9 = true := hall 9 (by decide)
 have d14 : L 14 = true := hall 14 (by decide)
 have d16 : L 16 = true := hall 16 (by decide)
 have d18 : L 18 = true := hall 18 (by decide)
 obtain ⟨u20, rfl⟩ := fr_of (N := 27) (L := [(9, _), (14, _), (19, _), (21, _), (23, _)]) hO ⟨K 4 d4, K 9 d9, K 14 d14, K 16 d16, K 18 d18, trivial⟩
 replace S27 : St _ (As) _ := S27
 clear S4
 obtain ⟨x4, q4, hm⟩ := obind_some hm
 refine s_call call54 (v_cmp_Compare_int (a0 := a0.At) (a1 := a1.At) S27  q4) rfl ?_
 rintro _ w26 ⟨m26, l6, S28, rfl⟩
 clear S27
 refine s_litC (parts := [.tmp 9, .tmp 14, .tmp 19, .tmp 24]) (vs := [vI x1, vI x2, vI x3, vI x4]) (cls := [[vI x1], [vI x2], [vI x3], [vI x4]]) (xs := ([x1, x2, x3, x4] : List Int)) (n := 4) S28 underlying63 sizeOf3 zeroValue3 rfl ⟨rfl, rfl, rfl, rfl, trivial⟩ (RepL.cons (c := [vI x1]) (x := x1) rfl (RepL.cons (c := [vI x2]) (x := x2) rfl (RepL.cons (c := [vI x3]) (x := x3) rfl (RepL.cons (c := [vI x4]) (x := x4) rfl RepL.nil)))) rfl rfl rfl (by decide) (by decide) fun v13 m27 w27 l7 S29 h23 => ?_
 clear S28
 obtain ⟨x5, q5, hm⟩ := obind_some hm
 refine s_call call53 (v_gossip_row (a0 := ([x1, x2, x3, x4] : List Int)) S29 h23 q5) rfl ?_
 rintro _ w28 ⟨m28, l8, S30, rfl⟩
 clear S29
 refine s_asv (v := vI x5) rfl <| wpl_nil <| nrm <| wpc_ret <| outRw fun we hpd => ?_
 replace S30 := St.pd S30 hpd
 have e0 := Option.some.inj hm
 subst e0
 replace L0 := Mem.tr L0 (mt l1 (mt l2 (mt L39 (mt l6 (mt l7 l8)))))
 exact outR [_] rfl ⟨rfl, trivial⟩ ⟨_, L0, S30, rfl⟩
theorem s_gossip_head_against {a0 : g_api_Head} {a1 : g_api_Head} {r : Int} (hm : m_gossip_head_against a0 a1 = some r) : Sf prog 50 [ag (e_api_Head a0), ag (e_api_Head a1)] (.d (.i r)) :=
  ⟨call50, fun η m As w vs hv0 hd S => by
    have S : St m As w := S
    obtain ⟨v0, u0, rfl, r0, hv1⟩ := RelL.cons_inv hv0
    obtain ⟨c0, rfl, g0⟩ := Br.ofA b_api_Head r0
    obtain rfl := rep_g_api_Head g0
    obtain ⟨v1, u1, rfl, r1, hv2⟩ := RelL.cons_inv hv1
    obtain ⟨c1, rfl, g1⟩ := Br.ofA b_api_Head r1
    obtain rfl := rep_g_api_Head g1
    obtain rfl := RelL.nil_inv hv2
    refine CallsR.mono (w_gossip_head_against S  hm) ?_
    rintro v w' ⟨M, hle, S0, rfl⟩
    exact ⟨M, none0, _, _, _, hle, dom0 hd _, ⟨rfl, rfl, rfl⟩, fun n h => absurd rfl h, (.d (.i _)), S0⟩⟩
def m_gossip_order (a0 : g_api_Head) (a1 : g_api_Head) : Option Int :=
  obind (m_gossip_head_against a0 a1) fun x1 =>
  some x1
theorem w_gossip_order {a0 : g_api_Head} {a1 : g_api_Head} {r : Int} (hm : m_gossip_order a0 a1 = some r) : Sf prog 39 [ag (e_api_Head a0), ag (e_api_Head a1)] (.d (.i r)) :=
  sp call39 func39 rfl ntmps39 rfl fun D0 As η0 m0 hd => by
    unfold m_gossip_order at hm
    obtain ⟨x1, q1, hm⟩ := obind_some hm
    refine gc (fun _ => s_gossip_head_against q1) (by kernel_rfl) ?_
    have e0 := Option.some.inj hm
    subst e0
    exact gend hd (by kernel_rfl)
theorem v_gossip_order {m : Mem} {As : List Ow} {w : World} {a0 : g_api_Head} {a1 : g_api_Head} {r : Int} (S : St m As w) (hm : m_gossip_order a0 a1 = some r) :
    CallsR prog 39 #[.agg #[vI a0.Log, vI a0.Size, vU a0.Root.1, vU a0.Root.2, vI a0.At, vU a0.Sig.E, vU a0.Sig.S], .agg #[vI a1.Log, vI a1.Size, vU a1.Root.1, vU a1.Root.2, vI a1.At, vU a1.Sig.E, vU a1.Sig.S]] w fun v w' => ∃ (M : Mem), m ≤ M ∧ St M (As) w' ∧ v = vI r := by
  refine CallsR.mono ((w_gossip_order hm).2 none0 m As w [.agg #[vI a0.Log, vI a0.Size, vU a0.Root.1, vU a0.Root.2, vI a0.At, vU a0.Sig.E, vU a0.Sig.S], .agg #[vI a1.Log, vI a1.Size, vU a1.Root.1, vU a1.Root.2, vI a1.At, vU a1.Sig.E, vU a1.Sig.S]] (.cons (Br.toA b_api_Head (mk_g_api_Head)) (.cons (Br.toA b_api_Head (mk_g_api_Head)) .nil)) (fun n h => absurd rfl h) S) ?_
  rintro v w' ⟨M, η', r', obs', n1, hle, _, ⟨rfl, rfl, rfl⟩, hdom, hR, S'⟩
  obtain rfl := hR.i_inv
  exact ⟨M, hle, S', rfl⟩
def m_gossip_ordered_b2 (a0 : g_api_Pool) (i1 : Int) (s1 : Unit) : Option ((Unit) ⊕ Bool) :=
  obind (gu (decide ((i1 : Int) > 0)) (idx a0.L (w64 ((i1 : Int) - 1)))) fun x3 =>
  obind (gu (decide ((i1 : Int) > 0)) (idx a0.L (i1 : Int))) fun x4 =>
  obind (gu (decide ((i1 : Int) > 0)) (m_gossip_order x3 x4)) fun x5 =>
  if ((decide ((i1 : Int) > 0)) && (decide (x5 ≥ 0))) = true then
    some (.inr false)
  else
  some (.inl ())
def m_gossip_ordered (a0 : g_api_Pool) : Option Bool :=
  obind (eachN (m_gossip_ordered_b2 a0) a0.L.length 0 ()) fun x1 => match x1 with
  | .inr r => some r
  | .inl y1 =>
  some true
theorem w_gossip_ordered {a0 : g_api_Pool} {r : Bool} (hm : m_gossip_ordered a0 = some r) : Sf prog 45 [ag (e_api_Pool a0)] (.d (.t r)) :=
  sp call45 func45 rfl ntmps45 rfl fun D0 As η0 m0 hd => by
    unfold m_gossip_ordered at hm
    obtain ⟨x1, q1, hm⟩ := obind_some hm
    refine glen 0 (E := e_api_Head) (xs := a0.L) 5 (by kernel_rfl) fun hle1 => ?_
    refine gjU 0 (fun (y1 : Unit) => ⟨[], [(0, .box 0 [sl e_api_Head a0.L] 24)], [], 1⟩) (fun y1 => x1 = .inl y1) (by kernel_rfl) (fun Jp bk1 => ?_) fun y1 hy => ?_
    · refine gl hd (fun (p : Int × (Unit)) => let (p0, _) := p; ⟨[(1, .pb 0 0), (6, .d (.i (a0.L.length : Int))), (7, .d (.i p0))], [(0, .box 0 [sl e_api_Head a0.L] 24)], [], 1⟩) (fun p => ∃ i : Nat, p.1 = (i : Int) ∧ i ≤ a0.L.length ∧ eachN (m_gossip_ordered_b2 a0) (a0.L.length - i) (i : Int) p.2 = some x1) (fun p => a0.L.length - p.1.toNat) (0, ()) ⟨0, rfl, Nat.zero_le _, q1⟩ (by kernel_rfl) ?_
      rintro ⟨_, s1⟩ ⟨i1, rfl, hi, q2⟩ Jl bl1
      refine gi' (b := decide ((i1 : Int) < (a0.L.length : Int))) (by kernel_rfl) (fun hc2 => ?_) fun hc2 => ?_
      · have hlt1 : i1 < a0.L.length := by have := of_decide_eq_true hc2; omega
        obtain ⟨y2, q4, q3⟩ := eachN_in q2 hlt1
        unfold m_gossip_ordered_b2 at q4
        obtain ⟨x3, q6, q4⟩ := obind_some q4
        refine gidxG (k := 7) (E := e_api_Head) (fun _ => rfl) (fun h => gu_t h q6) (by kernel_rfl) ?_
        obtain ⟨x4, q7, q4⟩ := obind_some q4
        refine gidxG (k := 7) (E := e_api_Head) (fun _ => rfl) (fun h => gu_t h q7) (by kernel_rfl) ?_
        obtain ⟨x5, q8, q4⟩ := obind_some q4
        refine gcG (fun h => w_gossip_order (gu_t h q8)) (by kernel_rfl) ?_
        refine gi q4 (by kernel_rfl) (fun hc1 q4 => ?_) fun hc1 q4 => ?_
        · skip
          cases q4
          rcases q3 with ⟨sn, e, _⟩ | ⟨tn, e, e2⟩
          · cases e
          cases e
          cases e2
          dsimp only at hm
          have e0 := Option.some.inj hm
          subst e0
          exact gend hd (by kernel_rfl)
        have e0 := Option.some.inj q4
        subst e0
        rcases q3 with ⟨sn, e, q3'⟩ | ⟨tn, e, _⟩
        · have e := Sum.inl.inj e
          subst e
          exact gb bl1 hd (w64 ((i1 : Int) + 1), _) ⟨⟨i1 + 1, w64_succ hlt1 hle1, by omega, q3'⟩, mu_lt hlt1 hle1⟩ (by kernel_rfl)
        cases sum_lr e
      have hlt1 : ¬ i1 < a0.L.length := by have := of_decide_eq_false hc2; omega
      have e := eachN_out q2 hlt1
      cases e
      exact gb bk1 hd _ rfl (by kernel_rfl)
    subst hy
    dsimp only at hm
    have e0 := Option.some.inj hm
    subst e0
    exact gend hd (by kernel_rfl)
def m_gossip_Check_b2 (a1 : List g_api_Key) (i1 : Int) (x4 : g_api_Head) (s1 : Unit) : Option ((Unit) ⊕ Int) :=
  obind (m_gossip_right x4 a1) fun x5 =>
  if (!x5) = true then
    some (.inr 40)
  else
  some (.inl ())
def m_gossip_Check (a0 : g_api_Pool) (a1 : List g_api_Key) : Option Int :=
  bnd ((decide ((a0.L.length : Int) > 1024))) fun x1 =>
  if x1 = true then
    some 2
  else
  obind (m_gossip_ordered a0) fun x2 =>
  if (!x2) = true then
    some 1
  else
  obind (eachR (m_gossip_Check_b2 a1) a0.L 0 ()) fun x3 => match x3 with
  | .inr r => some r
  | .inl y1 =>
  some 0
theorem w_gossip_Check {a0 : g_api_Pool} {a1 : List g_api_Key} {r : Int} (hm : m_gossip_Check a0 a1 = some r) : Sf prog 16 [ag (e_api_Pool a0), sl e_api_Key a1] (.d (.i r)) :=
  sp call16 func16 rfl ntmps16 rfl fun D0 As η0 m0 hd => by
    unfold m_gossip_Check at hm
    have hm := bnd_is hm
    let x1 : Bool := ((decide ((a0.L.length : Int) > 1024)))
    refine gi hm (by kernel_rfl) (fun hc1 hm => ?_) fun hc1 hm => ?_
    · skip
      have e0 := Option.some.inj hm
      subst e0
      exact gend hd (by kernel_rfl)
    obtain ⟨x2, q2, hm⟩ := obind_some hm
    refine gc (fun _ => w_gossip_ordered q2) (by kernel_rfl) ?_
    refine gi hm (by kernel_rfl) (fun hc2 hm => ?_) fun hc2 hm => ?_
    · skip
      have e0 := Option.some.inj hm
      subst e0
      exact gend hd (by kernel_rfl)
    obtain ⟨x3, q3, hm⟩ := obind_some hm
    refine glen 1 (E := e_api_Head) (xs := a0.L) 17 (by kernel_rfl) fun hle1 => ?_
    refine gjU 1 (fun (y1 : Unit) => ⟨[], [(0, .box 0 [sl e_api_Head a0.L] 24)], [], 1⟩) (fun y1 => x3 = .inl y1) (by kernel_rfl) (fun Jp bk1 => ?_) fun y1 hy => ?_
    · refine gl hd (fun (p : Int × (Unit)) => let (p0, _) := p; ⟨[(1, sl e_api_Key a1), (17, sl e_api_Head a0.L), (18, .d (.i (a0.L.length : Int))), (19, .d (.i p0))], [(0, .box 0 [sl e_api_Head a0.L] 24)], [], 1⟩) (fun p => ∃ i : Nat, p.1 = (i : Int) ∧ i ≤ a0.L.length ∧ eachR (m_gossip_Check_b2 a1) (a0.L.drop i) (i : Int) p.2 = some x3) (fun p => a0.L.length - p.1.toNat) (0, ()) ⟨0, rfl, Nat.zero_le _, q3⟩ (by kernel_rfl) ?_
      rintro ⟨_, s1⟩ ⟨i1, rfl, hi, q4⟩ Jl bl1
      refine gi' (b := decide ((i1 : Int) < (a0.L.length : Int))) (by kernel_rfl) (fun hc4 => ?_) fun hc4 => ?_
      · have hlt1 : i1 < a0.L.length := by have := of_decide_eq_true hc4; omega
        obtain ⟨x4, y2, q7, q6, q5⟩ := eachR_in q4 hlt1
        unfold m_gossip_Check_b2 at q6
        refine gidx (k := 7) (E := e_api_Head) (fun _ => rfl) (fun _ => q7) (by kernel_rfl) ?_
        obtain ⟨x5, q8, q6⟩ := obind_some q6
        refine gc (fun _ => w_gossip_right q8) (by kernel_rfl) ?_
        refine gi q6 (by kernel_rfl) (fun hc3 q6 => ?_) fun hc3 q6 => ?_
        · skip
          cases q6
          rcases q5 with ⟨sn, e, _⟩ | ⟨tn, e, e2⟩
          · cases e
          cases e
          cases e2
          dsimp only at hm
          have e0 := Option.some.inj hm
          subst e0
          exact gend hd (by kernel_rfl)
        have e0 := Option.some.inj q6
        subst e0
        rcases q5 with ⟨sn, e, q5'⟩ | ⟨tn, e, _⟩
        · have e := Sum.inl.inj e
          subst e
          exact gb bl1 hd (w64 ((i1 : Int) + 1), _) ⟨⟨i1 + 1, w64_succ hlt1 hle1, by omega, q5'⟩, mu_lt hlt1 hle1⟩ (by kernel_rfl)
        cases sum_lr e
      have hlt1 : ¬ i1 < a0.L.length := by have := of_decide_eq_false hc4; omega
      have e := eachR_out q4 hlt1
      cases e
      exact gb bk1 hd _ rfl (by kernel_rfl)
    subst hy
    dsimp only at hm
    have e0 := Option.some.inj hm
    subst e0
    exact gend hd (by kernel_rfl)
theorem v_gossip_Check {m : Mem} {As : List Ow} {w : World} {a0 : g_api_Pool} {a0v0 : Value} {a1 : List g_api_Key} {a1v0 : Value} {r : Int} (S : St m As w) (a0h0 : SlR m a0v0 a0.L) (a1h0 : SlR m a1v0 a1) (hm : m_gossip_Check a0 a1 = some r) :
    CallsR prog 16 #[.agg #[a0v0], a1v0] w fun v w' => ∃ (M : Mem), m ≤ M ∧ St M (As) w' ∧ v = vI r := by
  refine CallsR.mono ((w_gossip_Check hm).2 none0 m As w [.agg #[a0v0], a1v0] (.cons (Br.toA b_api_Pool (mk_g_api_Pool a0h0)) (.cons (.d (Br.toS b_api_Key a1h0)) .nil)) (fun n h => absurd rfl h) S) ?_
  rintro v w' ⟨M, η', r', obs', n1, hle, _, ⟨rfl, rfl, rfl⟩, hdom, hR, S'⟩
  obtain rfl := hR.i_inv
  exact ⟨M, hle, S', rfl⟩
def m_slices_Insert_api_Head_api_Head (a0 : List g_api_Head) (a1 : Int) (a2 : List g_api_Head) : Option (List g_api_Head) :=
  if (0 : Int) ≤ a1 ∧ a1 ≤ (a0.length : Int) then
    if ((a2.length : Int) == 0) = true then
      some a0
    else
    if (a1 == (a0.length : Int)) = true then
      obind (app 56 a0 a2) fun x1 =>
      some x1
    else
    obind (app 56 a0 a2) fun _ =>
    some (a0.take a1.toNat ++ a2 ++ a0.drop a1.toNat)
  else none
theorem w_slices_Insert_api_Head_api_Head {m : Mem} {As : List Ow} {w : World} {a0 : List g_api_Head} {a0v0 : Value} {a0c0 : List Value} {a1 : Int} {a2 : List g_api_Head} {a2v0 : Value} {r : List g_api_Head} (S : St m ((row 7 a0v0 a0c0 a0.length) :: As) w) (a0h0 : RepL m a0c0 a0) (a2h0 : SlR m a2v0 a2) (hm : m_slices_Insert_api_Head_api_Head a0 a1 a2 = some r) :
    CallsR Tryz.prog 40 #[a0v0, vI a1, a2v0] w fun v w' => ∃ (M : Mem), m ≤ M ∧ ∃ (rv0 : Value) (rc0 : List Value), St M ((row 7 rv0 rc0 r.length) :: As) w' ∧ v = rv0 ∧ RepL M rc0 r := by
 unfold m_slices_Insert_api_Head_api_Head at hm
 have L0 := Mem.rfl' m
 refine callsR (args := [a0v0, vI a1, a2v0]) func40 rfl ntmps40 (nb rfl) <| ws <| s_asv (v := .slice none 0 0) rfl <| nx <| s_mvv (v := a0v0) rfl <| s_mvv (v := vI a1) rfl ?_
 obtain ⟨⟨q1, q2⟩, hm⟩ := if_some hm
 refine s_cutX (i := 0) S rfl rfl underlying22 sizeOf31 rfl q1 q2 fun v1 => nx <| s_mvv (v := a2v0) rfl <| s_lenR (xs := a2) rfl a2h0 underlying22 <| s_asv (v := vI (a2.length : Int)) rfl <| wpl_nil <| nrm <| wpc_seq <| ws <| s_mvv (v := vI (a2.length : Int)) rfl <| s_eql (m := (a2.length : Int)) (n := 0) rfl rfl <| wpl_nil <| nrm <| wpc_if (t := ((a2.length : Int) == 0)) rfl (fun hc1 => ?_) (fun hc1 => ?_)
 · replace hm := ifT hc1 hm
   refine ws <| s_mvv (v := a0v0) rfl <| s_asv (v := a0v0) rfl <| wpl_nil <| nrm <| wpc_ret <| thR <| outRw fun we hpd => ?_
   replace S := St.pd S hpd
   have e0 := Option.some.inj hm
   subst e0
   exact outR [_] rfl ⟨rfl, trivial⟩ ⟨_, L0, _, _, S, rfl, a0h0⟩
 replace hm := ifF hc1 hm
 refine wpc_skip <| nrm <| ws <| s_mvv (v := a0v0) rfl <| s_lenO (i := 0) S rfl rfl underlying22 <| s_asv (v := vI (a0.length : Int)) rfl <| wpl_nil <| nrm <| wpc_seq <| ws <| s_mvv (v := vI a1) rfl <| s_mvv (v := vI (a0.length : Int)) rfl <| s_eql (m := a1) (n := (a0.length : Int)) rfl rfl <| wpl_nil <| nrm <| wpc_if (t := (a1 == (a0.length : Int))) rfl (fun hc2 => ?_) (fun hc2 => ?_)
 · replace hm := ifT hc2 hm
   refine ws <| s_mvv (v := a0v0) rfl <| s_mvv (v := a2v0) rfl ?_
   obtain ⟨x1, q3, hm⟩ := obind_some hm
   refine s_app (i := 0) (zs := x1) (bytes := 56) (ti := Tryz.t31) S rfl rfl a0h0 rfl rfl a2h0 q3 underlying22 type31 rfl rfl rfl rfl fun v2 c1 w1 S1 h1 => ?_
   replace S1 : St _ ((row 7 v2 c1 x1.length) :: As) _ := S1
   clear S
   refine s_asv (v := v2) rfl <| wpl_nil <| nrm <| wpc_ret <| thR <| outRw fun we hpd => ?_
   replace S1 := St.pd S1 hpd
   have e0 := Option.some.inj hm
   subst e0
   exact outR [_] rfl ⟨rfl, trivial⟩ ⟨_, L0, _, _, S1, rfl, h1⟩
 replace hm := ifF hc2 hm
 obtain ⟨xz, q3, hm⟩ := obind_some hm
 obtain ⟨⟨qb, q63⟩, _⟩ := if_some q3
 have e0 := Option.some.inj hm
 clear hm q3
 obtain ⟨i, rfl⟩ : ∃ i : Nat, a1 = (i : Int) := ⟨a1.toNat, by omega⟩
 rw [Int.toNat_natCast] at e0
 have hin : i < a0.length := by
   have : ((i : Int) == (a0.length : Int)) = false := hc2
   have := ne_of_beq_false this
   omega
 have hm0 : 0 < a2.length := by
   have := ne_of_beq_false hc1
   omega
 obtain ⟨b, cap, l, e, fr, rfl, hc, ht, hl, hnc, hcm, hfr, hf2, S1⟩ := S.rowBlk (by omega)
 clear S
 have hfr0 : fr.1 = fr.2 := hf2.resolve_right (by decide)
 obtain ⟨ds, hs2, hr2⟩ := a2h0
 have hs2' := hs2
 obtain ⟨hdl, hd63, ⟨hz, _⟩ | ⟨b2, off2, cap2, l2, e2, fr2, rfl, hcap2, hb2, hget2⟩⟩ := hs2
 · omega
 replace hdl : ds.length = a2.length * 7 := hdl
 have him : i + a2.length ≤ a0.length + a2.length := Nat.add_le_add_right (Nat.le_of_lt hin) _
 have hrl : r.length = a0.length + a2.length := by rw [← e0]; simp only [List.length_append, List.length_take, List.length_drop]; omega
 have hcl : a0c0.length = i * 7 + (a0.length - i) * 7 := by rw [hc]; omega
 have hone0 := a0h0.one
 have hone2 := hr2.one
 have hrep : RepL m (a0c0.take (i * 7) ++ ds ++ a0c0.drop (i * 7)) r := by rw [← e0]; exact ((a0h0.take i).append hr2).append (a0h0.drop i)
 have hls : l.toList.length = cap * 7 := by rw [Array.length_toList]; exact hl
 have hes : (l.toList.drop (i * 7)).take ((a0.length - i) * 7) = a0c0.drop (i * 7) := by
   rw [← ht, List.drop_take]; congr 1; omega
 have hdr : (a0c0.drop (i * 7)).length = (a0.length - i) * 7 := by rw [List.length_drop, hcl]; omega
 have htk : l.toList.take (i * 7) = a0c0.take (i * 7) := by rw [← ht, List.take_take]; congr 1; omega
 refine wpc_skip <| nrm <| wpc_seq <| ws <| s_mvv (v := vI (a0.length : Int)) rfl <| s_mvv (v := vI (a2.length : Int)) rfl <| s_addI (m := (a0.length : Int)) (n := (a2.length : Int)) rfl rfl <| s_re (congrArg vI (w64_addN (a := a0.length) (b := a2.length) q63)) <| s_mvv (v := .slice (some ⟨b, 0, none⟩) a0.length cap) rfl <| s_cap rfl underlying22 <| s_gtr (m := ((a0.length + a2.length : Nat) : Int)) (n := (cap : Int)) rfl rfl <| wpl_nil <| nrm <| wpc_if (t := decide (((a0.length + a2.length : Nat) : Int) > (cap : Int))) rfl (fun hc3 => ?_) (fun hc3 => ?_)
 · have hc3 : cap < a0.length + a2.length := by have := of_decide_eq_true hc3; omega
   refine ws <| s_mvv (v := .slice (some ⟨b, 0, none⟩) a0.length cap) rfl <| s_mvv (v := vI (i : Int)) rfl <| s_upto (b := b) (o := 0) (n := a0.length) (cap := cap) (j := i) rfl rfl underlying22 sizeOf31 (by omega) (by omega) <| s_mvv (v := vI (a0.length : Int)) rfl <| s_mvv (v := vI (a2.length : Int)) rfl <| s_addI (m := (a0.length : Int)) (n := (a2.length : Int)) rfl rfl <| s_re (congrArg vI (w64_addN (a := a0.length) (b := a2.length) q63)) <| s_mvv (v := vI (i : Int)) rfl <| s_subI (m := ((a0.length + a2.length : Nat) : Int)) (n := (i : Int)) rfl rfl <| s_re (congrArg vI (w64_subN (a := a0.length + a2.length) (b := i) q63 (Nat.le_trans (Nat.le_add_right i a2.length) him))) ?_
   refine s_appZ (sz := 7) (bytes := 56) (i := i) (k := a0.length + a2.length - i) (ti := Tryz.t31) S1 rfl rfl (by omega) (by omega) (by omega) (by omega) (by omega) underlying22 underlying3 type31 rfl rfl rfl rfl (by decide) fun nb c2 w3 L hg1 hg2 hL hLt S3 => ?_
   rw [show i + (a0.length + a2.length - i) = a0.length + a2.length from by omega] at hg1 ⊢
   have hLs : L.toList.length = c2 * 7 := by rw [Array.length_toList]; exact hL
   refine s_asv (v := .slice (some ⟨nb, 0, none⟩) (a0.length + a2.length) c2) rfl <| wpl_nil <| nrm <| ws <| s_mvv (v := .slice (some ⟨nb, 0, none⟩) (a0.length + a2.length) c2) rfl <| s_mvv (v := vI (i : Int)) rfl <| s_from (b := nb) (o := 0) (n := a0.length + a2.length) (cap := c2) (j := i) rfl rfl underlying22 sizeOf31 (by omega) (by omega) (by omega) <| s_mvv (v := .slice (some ⟨b2, off2, none⟩) a2.length cap2) rfl ?_
   refine s_copy (i := 0) (sz := 7) (k := a2.length) (sl := a2.length) (ds := ds) S3 rfl rfl rfl underlying22 sizeOf31 (run_lenOf _) (by show min _ _ = _; omega) (run_firstCellsR S3 hs2' _) hone2 (by rw [hdl, hL]; omega) (by simp [frOk]) fun w4 S4 => ?_
   rw [List.set_cons_zero, Nat.zero_add, hdl] at S4
   refine wpl_nil <| nrm ?_
   have hb4 := S4.blk (i := 1) rfl
   have HM : MonoAll [(46, fv (.slice (some ⟨nb, 0, none⟩) (a0.length + a2.length) c2)), (47, fv (vI (i : Int))), (48, fv (vI (a2.length : Int))), (49, fv (vI ((i + a2.length : Nat) : Int))), (50, fv (.slice (some ⟨nb, 0 + (i + a2.length) * 7, none⟩) (a0.length + a2.length - (i + a2.length)) (c2 - (i + a2.length)))), (51, fv (.slice (some ⟨b, 0, none⟩) a0.length cap)), (52, fv (vI (i : Int))), (53, fv (.slice (some ⟨b, 0 + i * 7, none⟩) (a0.length - i) (cap - i)))] := ⟨mv, mv, mv, mv, mv, mv, mv, mv, trivial⟩
   refine wpc_seq <| wpc_flowG HM 8 mixed rfl rfl rfl (rg 46 8) (fun L f M w => St M (_ :: _ :: As) w) (St.drew S4 _) ?_ ?_
   · refine ⟨?_, ?_, ?_, ?_, ?_, ?_, ?_, ?_, trivial⟩
     · exact flp HM rfl [] (fun _ _ => trivial) (fun _ _ q => s_mvv (v := .slice (some ⟨nb, 0, none⟩) (a0.length + a2.length) c2) rfl q) rfl
     · exact flp HM rfl [] (fun _ _ => trivial) (fun _ _ q => s_mvv (v := vI (i : Int)) rfl q) rfl
     · exact flp HM rfl [] (fun _ _ => trivial) (fun _ _ q => s_mvv (v := vI (a2.length : Int)) rfl q) rfl
     · exact flp HM rfl [(47, _), (48, _)] (fun K _ => ⟨K 1 rfl, K 2 rfl, trivial⟩) (fun _ _ q => s_addI (m := (i : Int)) (n := (a2.length : Int)) rfl rfl (s_re (congrArg vI (w64_addN (a := i) (b := a2.length) (Nat.le_trans him q63))) q)) rfl
     · exact flp HM rfl [(46, _), (49, _)] (fun K _ => ⟨K 0 rfl, K 3 rfl, trivial⟩) (fun _ _ q => s_from (b := nb) (o := 0) (n := a0.length + a2.length) (cap := c2) (j := i + a2.length) rfl rfl underlying22 sizeOf31 (by omega) (by omega) (by omega) q) rfl
     · exact flp HM rfl [] (fun _ _ => trivial) (fun _ _ q => s_mvv (v := .slice (some ⟨b, 0, none⟩) a0.length cap) rfl q) rfl
     · exact flp HM rfl [] (fun _ _ => trivial) (fun _ _ q => s_mvv (v := vI (i : Int)) rfl q) rfl
     · exact flp HM rfl [(51, _), (52, _)] (fun K _ => ⟨K 5 rfl, K 6 rfl, trivial⟩) (fun _ _ q => s_from (b := b) (o := 0) (n := a0.length) (cap := cap) (j := i) rfl rfl underlying22 sizeOf31 (by omega) (by omega) (by omega) q) rfl
   intro L8 f8 w8 hall ⟨m8, l8, S8, K, hO⟩
   have d4 : L8 4 = true := hall 4 (by decide)
   have d7 : L8 7 = true := hall 7 (by decide)
   obtain ⟨u8, rfl⟩ := fr_of (N := 95) (L := [(50, _), (53, _)]) hO ⟨K 4 d4, K 7 d7, trivial⟩
   have hb8 := S8.blk (i := 1) rfl
   have hq8 := run_firstCellsB (P := Tryz.prog) (n := a0.length - i) (c := cap - i) (sz := 7) (k := a0.length - i) (off := 0 + i * 7) hb8 (by omega)
   rw [show (l.toList.drop (0 + i * 7)).take ((a0.length - i) * 7) = a0c0.drop (i * 7) from by rw [Nat.zero_add]; exact hes] at hq8
   refine s_copy (i := 0) (sz := 7) (k := a0.length - i) (sl := a0.length - i) (ds := a0c0.drop (i * 7)) S8 rfl rfl rfl underlying22 sizeOf31 (run_lenOf _) (by show min _ _ = _; omega) hq8 (fun u hu => hone0 u (List.mem_of_mem_drop hu)) (by simp only [hdr, List.size_toArray, List.length_append, List.length_take, List.length_drop]; omega) (by simp [frOk]) fun w9 S9 => ?_
   rw [List.set_cons_zero, hdr, show 0 + (i + a2.length) * 7 = i * 7 + a2.length * 7 from by omega] at S9
   refine wpl_nil <| nrm <| ws <| s_mvv (v := .slice (some ⟨nb, 0, none⟩) (a0.length + a2.length) c2) rfl <| s_asv (v := .slice (some ⟨nb, 0, none⟩) (a0.length + a2.length) c2) rfl <| wpl_nil <| nrm <| wpc_ret <| thR <| outRw fun we hpd => ?_
   obtain ⟨m9, l9, S10⟩ := S9.drop 1
   have S11 := St.pd S10 hpd
   have S12 : St m9 (row 7 (.slice (some ⟨nb, 0, none⟩) (a0.length + a2.length) c2) (a0c0.take (i * 7) ++ ds ++ a0c0.drop (i * 7)) r.length :: As) we := by
     rw [hrl]
     refine St.blkRow S11 ?_ ?_ ?_ hg1 hg2 (by simp [frOk]) (.inl rfl)
     · simp only [List.length_append, List.length_take, hdr]; omega
     · rw [show (a0.length + a2.length) * 7 = i * 7 + a2.length * 7 + (a0.length - i) * 7 from by omega]
       exact insA hdl hcl (hLt.trans htk) (by omega)
     · simp only [List.size_toArray, List.length_append, List.length_take, List.length_drop]; omega
   exact outR [_] rfl ⟨rfl, trivial⟩ ⟨_, mt l8 l9, _, _, S12, rfl, RepL.up (mt l8 l9) hrep⟩
 have hc3 : a0.length + a2.length ≤ cap := by have := of_decide_eq_false hc3; omega
 have hne : b2 ≠ b := by
   rintro rfl
   obtain ⟨h1, ha, _, hd, _⟩ := S1.take (i := 0) rfl
   rcases hd b2 with q | q
   · rw [hb2] at q; cases q
   · rw [show h1 = PH.one b2 _ from ha] at q; simp [PH.one] at q
 have hl2 : l2.size ≠ 0 := by
   intro q
   have h0 : 0 < ds.length := by omega
   have := hget2 0 _ (List.getElem?_eq_getElem h0)
   rw [Array.getElem?_eq_none (by omega)] at this
   cases this
 refine wpc_skip <| nrm <| ws <| s_mvv (v := .slice (some ⟨b, 0, none⟩) a0.length cap) rfl <| s_mvv (v := vI (a0.length : Int)) rfl <| s_mvv (v := vI (a2.length : Int)) rfl <| s_addI (m := (a0.length : Int)) (n := (a2.length : Int)) rfl rfl <| s_re (congrArg vI (w64_addN (a := a0.length) (b := a2.length) q63)) <| s_upto (b := b) (o := 0) (n := a0.length) (cap := cap) (j := a0.length + a2.length) rfl rfl underlying22 sizeOf31 hc3 (by omega) <| s_asv (v := .slice (some ⟨b, 0, none⟩) (a0.length + a2.length) cap) rfl <| wpl_nil <| nrm <| wpc_seq <| ws <| s_mvv (v := .slice (some ⟨b2, off2, none⟩) a2.length cap2) rfl <| s_mvv (v := .slice (some ⟨b, 0, none⟩) (a0.length + a2.length) cap) rfl <| s_mvv (v := vI (i : Int)) rfl <| s_mvv (v := vI (a2.length : Int)) rfl <| s_addI (m := (i : Int)) (n := (a2.length : Int)) rfl rfl <| s_re (congrArg vI (w64_addN (a := i) (b := a2.length) (Nat.le_trans him q63))) <| s_from (b := b) (o := 0) (n := a0.length + a2.length) (cap := cap) (j := i + a2.length) rfl rfl underlying22 sizeOf31 (by omega) (by omega) (by omega) ?_
 refine s_overlaps (ps := #[22, 22]) (rs := #[4]) func71 rfl rfl rfl (by kernel_rfl) rfl rfl rfl underlying22 sizeOf31 (by omega) (by omega) (by decide) hne (S1.mem hb2) (S1.blk (i := 0) rfl) hl2 hfr0 ?_
 refine s_not rfl <| wpl_nil <| nrm <| wpc_if (t := (!false)) rfl (fun _ => ?_) (fun h => by cases h)
 have HM : MonoAll [(69, fv (.slice (some ⟨b, 0, none⟩) (a0.length + a2.length) cap)), (70, fv (vI (i : Int))), (71, fv (vI (a2.length : Int))), (72, fv (vI ((i + a2.length : Nat) : Int))), (73, fv (.slice (some ⟨b, 0 + (i + a2.length) * 7, none⟩) (a0.length + a2.length - (i + a2.length)) (cap - (i + a2.length)))), (74, fv (.slice (some ⟨b, 0, none⟩) (a0.length + a2.length) cap)), (75, fv (vI (i : Int))), (76, fv (.slice (some ⟨b, 0 + i * 7, none⟩) (a0.length + a2.length - i) (cap - i)))] := ⟨mv, mv, mv, mv, mv, mv, mv, mv, trivial⟩
 refine wpc_seq <| wpc_flowG HM 8 mixed rfl rfl rfl (rg 69 8) (fun L f M w => St M (_ :: As) w) (St.drew S1 _) ?_ ?_
 · refine ⟨?_, ?_, ?_, ?_, ?_, ?_, ?_, ?_, trivial⟩
   · exact flp HM rfl [] (fun _ _ => trivial) (fun _ _ q => s_mvv (v := .slice (some ⟨b, 0, none⟩) (a0.length + a2.length) cap) rfl q) rfl
   · exact flp HM rfl [] (fun _ _ => trivial) (fun _ _ q => s_mvv (v := vI (i : Int)) rfl q) rfl
   · exact flp HM rfl [] (fun _ _ => trivial) (fun _ _ q => s_mvv (v := vI (a2.length : Int)) rfl q) rfl
   · exact flp HM rfl [(70, _), (71, _)] (fun K _ => ⟨K 1 rfl, K 2 rfl, trivial⟩) (fun _ _ q => s_addI (m := (i : Int)) (n := (a2.length : Int)) rfl rfl (s_re (congrArg vI (w64_addN (a := i) (b := a2.length) (Nat.le_trans him q63))) q)) rfl
   · exact flp HM rfl [(69, _), (72, _)] (fun K _ => ⟨K 0 rfl, K 3 rfl, trivial⟩) (fun _ _ q => s_from (b := b) (o := 0) (n := a0.length + a2.length) (cap := cap) (j := i + a2.length) rfl rfl underlying22 sizeOf31 (by omega) (by omega) (by omega) q) rfl
   · exact flp HM rfl [] (fun _ _ => trivial) (fun _ _ q => s_mvv (v := .slice (some ⟨b, 0, none⟩) (a0.length + a2.length) cap) rfl q) rfl
   · exact flp HM rfl [] (fun _ _ => trivial) (fun _ _ q => s_mvv (v := vI (i : Int)) rfl q) rfl
   · exact flp HM rfl [(74, _), (75, _)] (fun K _ => ⟨K 5 rfl, K 6 rfl, trivial⟩) (fun _ _ q => s_from (b := b) (o := 0) (n := a0.length + a2.length) (cap := cap) (j := i) rfl rfl underlying22 sizeOf31 (by omega) (by omega) (by omega) q) rfl
 intro L8 f8 w8 hall ⟨m8, l8, S8, K, hO⟩
 have d4 : L8 4 = true := hall 4 (by decide)
 have d7 : L8 7 = true := hall 7 (by decide)
 obtain ⟨u8, rfl⟩ := fr_of (N := 95) (L := [(73, _), (76, _)]) hO ⟨K 4 d4, K 7 d7, trivial⟩
 have hb8 := S8.blk (i := 0) rfl
 have hq8 := run_firstCellsB (P := Tryz.prog) (n := a0.length + a2.length - i) (c := cap - i) (sz := 7) (k := a0.length - i) (off := 0 + i * 7) hb8 (by omega)
 rw [show (l.toList.drop (0 + i * 7)).take ((a0.length - i) * 7) = a0c0.drop (i * 7) from by rw [Nat.zero_add]; exact hes] at hq8
 refine s_copy (i := 0) (sz := 7) (k := a0.length - i) (sl := a0.length + a2.length - i) (ds := a0c0.drop (i * 7)) S8 rfl rfl rfl underlying22 sizeOf31 (run_lenOf _) (by show min _ _ = _; omega) hq8 (fun u hu => hone0 u (List.mem_of_mem_drop hu)) (by rw [hdr]; omega) hfr fun w9 S9 => ?_
 rw [List.set_cons_zero, hdr, show 0 + (i + a2.length) * 7 = i * 7 + a2.length * 7 from by omega] at S9
 have hsz1 : (l.toList.take (i * 7 + a2.length * 7) ++ a0c0.drop (i * 7) ++ l.toList.drop (i * 7 + a2.length * 7 + (a0.length - i) * 7)).toArray.size = l.size := by
   simp only [List.size_toArray, List.length_append, List.length_take, List.length_drop, hdr]; omega
 refine wpl_nil <| nrm <| ws <| s_mvv (v := .slice (some ⟨b, 0, none⟩) (a0.length + a2.length) cap) rfl <| s_mvv (v := vI (i : Int)) rfl <| s_from (b := b) (o := 0) (n := a0.length + a2.length) (cap := cap) (j := i) rfl rfl underlying22 sizeOf31 (by omega) (by omega) (by omega) <| s_mvv (v := .slice (some ⟨b2, off2, none⟩) a2.length cap2) rfl ?_
 refine s_copy (i := 0) (sz := 7) (k := a2.length) (sl := a2.length) (ds := ds) S9 rfl rfl rfl underlying22 sizeOf31 (run_lenOf _) (by show min _ _ = _; omega) (run_firstCellsR S9 (hs2'.up l8) _) hone2 (by rw [hdl, hsz1, hl]; omega) (by rw [hsz1]; exact hfr) fun w10 S10 => ?_
 rw [List.set_cons_zero, Nat.zero_add, hdl] at S10
 refine wpl_nil <| nrm <| ws <| s_mvv (v := .slice (some ⟨b, 0, none⟩) (a0.length + a2.length) cap) rfl <| s_asv (v := .slice (some ⟨b, 0, none⟩) (a0.length + a2.length) cap) rfl <| wpl_nil <| nrm <| wpc_ret <| thR <| outRw fun we hpd => ?_
 have S11 := St.pd S10 hpd
 have S12 : St m8 (row 7 (.slice (some ⟨b, 0, none⟩) (a0.length + a2.length) cap) (a0c0.take (i * 7) ++ ds ++ a0c0.drop (i * 7)) r.length :: As) we := by
   rw [hrl]
   have hsz : (List.take (i * 7) (l.toList.take (i * 7 + a2.length * 7) ++ a0c0.drop (i * 7) ++ l.toList.drop (i * 7 + a2.length * 7 + (a0.length - i) * 7)) ++ ds ++ List.drop (i * 7 + a2.length * 7) (l.toList.take (i * 7 + a2.length * 7) ++ a0c0.drop (i * 7) ++ l.toList.drop (i * 7 + a2.length * 7 + (a0.length - i) * 7))).toArray.size = l.size := by
     simp only [List.size_toArray, List.length_append, List.length_take, List.length_drop, hdr]; omega
   refine St.blkRow S11 ?_ ?_ (hsz.trans hl) hc3 hcm (hsz ▸ hfr) (.inl hfr0)
   · simp only [List.length_append, List.length_take, hdr]; omega
   · rw [show (a0.length + a2.length) * 7 = i * 7 + a2.length * 7 + (a0.length - i) * 7 from by omega]
     exact insB hdl (by rw [← ht]; congr 1; omega) (by omega)
 exact outR [_] rfl ⟨rfl, trivial⟩ ⟨_, l8, _, _, S12, rfl, RepL.up l8 hrep⟩
def m_slices_Clone_api_Head_api_Head (a0 : List g_api_Head) : Option (List g_api_Head) :=
  obind (app 56 ([] : List g_api_Head) a0) fun x1 =>
  some x1
theorem w_slices_Clone_api_Head_api_Head {m : Mem} {As : List Ow} {w : World} {a0 : List g_api_Head} {a0v0 : Value} {r : List g_api_Head} (S : St m (As) w) (a0h0 : SlR m a0v0 a0) (hm : m_slices_Clone_api_Head_api_Head a0 = some r) :
    CallsR Tryz.prog 41 #[a0v0] w fun v w' => ∃ (M : Mem), m ≤ M ∧ ∃ (rv0 : Value) (rc0 : List Value), St M ((row 7 rv0 rc0 r.length) :: As) w' ∧ v = rv0 ∧ RepL M rc0 r := by
 unfold m_slices_Clone_api_Head_api_Head at hm
 have L0 := Mem.rfl' m
 refine callsR (args := [a0v0]) func41 rfl ntmps41 (nb rfl) <| ws <| s_asv (v := .slice none 0 0) rfl <| wpl_nil <| nrm <| wpc_seq <| ws <| s_mvv (v := a0v0) rfl <| s_eqlNil rfl rfl a0h0 underlying22 <| wpl_nil <| nrm <| wpc_if (t := (isNilV a0v0)) rfl (fun hc1 => ?_) (fun hc1 => ?_)
 · have he1 : a0 = [] := SlR.nilOf a0h0 hc1
   rw [he1] at hm
   replace hm : (some ([] : List g_api_Head)) = some _ := hm
   refine ws <| s_asv (v := .slice none 0 0) rfl <| wpl_nil <| nrm <| wpc_ret <| thR <| outRw fun we hpd => ?_
   replace S := St.pd S hpd
   have S1 := St.rowNil S 7
   have h1 : RepL m [] ([] : List g_api_Head) := RepL.nil
   replace S1 : St _ ((row 7 (.slice none 0 0) [] ([] : List g_api_Head).length) :: As) _ := S1
   clear S
   have e0 := Option.some.inj hm
   subst e0
   exact outR [_] rfl ⟨rfl, trivial⟩ ⟨_, L0, _, _, S1, rfl, h1⟩
 refine wpc_skip <| nrm <| ws <| s_litOC (parts := []) (vs := []) (cls := []) (n := 0) (sz := 7) S underlying22 sizeOf31 zeroValue31 rfl trivial rfl rfl (by decide) (by decide) fun v1 w1 S2 => ?_
 have h2 : RepL m [] ([] : List g_api_Head) := RepL.nil
 replace S2 : St _ ((row 7 v1 [] ([] : List g_api_Head).length) :: As) _ := S2
 clear S
 refine s_mvv (v := a0v0) rfl ?_
 obtain ⟨x1, q1, hm⟩ := obind_some hm
 refine s_app (i := 0) (zs := x1) (bytes := 56) (ti := Tryz.t31) S2 rfl rfl h2 rfl rfl a0h0 q1 underlying22 type31 rfl rfl rfl rfl fun v2 c1 w2 S3 h3 => ?_
 replace S3 : St _ ((row 7 v2 c1 x1.length) :: As) _ := S3
 clear S2
 refine s_asv (v := v2) rfl <| wpl_nil <| nrm <| wpc_ret <| outRw fun we hpd => ?_
 replace S3 := St.pd S3 hpd
 have e0 := Option.some.inj hm
 subst e0
 exact outR [_] rfl ⟨rfl, trivial⟩ ⟨_, L0, _, _, S3, rfl, h3⟩
theorem s_slices_Clone_api_Head_api_Head {a0 : List g_api_Head} {r : List g_api_Head} (hm : m_slices_Clone_api_Head_api_Head a0 = some r) : Sp prog 41 [sl e_api_Head a0] [] 0 (is (.ow 0) [.row 0 7 _ e_api_Head r] 1) :=
  ⟨call41, fun η m As w vs hv0 hd S => by
    have S : St m As w := S
    obtain ⟨v0, u0, rfl, r0, hv1⟩ := RelL.cons_inv hv0
    have f0 := Br.ofS b_api_Head r0.dd
    obtain rfl := RelL.nil_inv hv1
    refine CallsR.mono (w_slices_Clone_api_Head_api_Head S f0 hm) ?_
    rintro v w' ⟨M, hle, y0, c0, S0, rfl, h0⟩
    exact ⟨M, (envL [v]), _, _, _, hle, dom0 hd _, ⟨rfl, rfl, rfl⟩, envL_dom rfl, (.ow rfl (row_one S0)), (St.impL S0 (sepC (Br.toR b_api_Head rfl rfl (row_one S0) h0) fun _ h => h))⟩⟩
def m_slices_BinarySearchFunc_api_Head_api_Head_api_Head_39_b2 (a0 : List g_api_Head) (a1 : g_api_Head) (s1 : Int × Int) : Option ((Int × Int) ⊕ (Int)) :=
  if (decide (s1.1 < s1.2)) = true then
    bnd ((w64 ((shrU (toU (w64 (s1.1 + s1.2))) 1).toNat : Int))) fun x4 =>
    obind (idx a0 x4) fun x5 =>
    obind (m_gossip_order x5 a1) fun x6 =>
    if (decide (x6 < 0)) = true then
      some (.inl ((w64 (x4 + 1)), s1.2))
    else
    some (.inl (s1.1, x4))
  else
  some (.inr s1.1)
def m_slices_BinarySearchFunc_api_Head_api_Head_api_Head_39 (a0 : List g_api_Head) (a1 : g_api_Head) : Option (Int × Bool) :=
  obind (
    obind (iter (m_slices_BinarySearchFunc_api_Head_api_Head_api_Head_39_b2 a0 a1) FUEL (0, (a0.length : Int))) fun x2 =>
    some x2
  ) fun x1 =>
  obind (gu (decide (x1 < (a0.length : Int))) (idx a0 x1)) fun x7 =>
  obind (gu (decide (x1 < (a0.length : Int))) (m_gossip_order x7 a1)) fun x8 =>
  bnd (((decide (x1 < (a0.length : Int))) && (x8 == 0))) fun x9 =>
  some (x1, x9)
theorem w_slices_BinarySearchFunc_api_Head_api_Head_api_Head_39 {m : Mem} {As : List Ow} {w : World} {a0 : List g_api_Head} {a0v0 : Value} {a1 : g_api_Head} {r : Int × Bool} (S : St m (As) w) (a0h0 : SlR m a0v0 a0) (hm : m_slices_BinarySearchFunc_api_Head_api_Head_api_Head_39 a0 a1 = some r) :
    CallsR Tryz.prog 38 #[a0v0, .agg (c_api_Head a1).toArray, .func (.func 39) #[] #[]] w fun v w' => ∃ (M : Mem), m ≤ M ∧ St M (As) w' ∧ v = .tuple #[vI r.1, vb r.2] := by
 unfold m_slices_BinarySearchFunc_api_Head_api_Head_api_Head_39 at hm
 have L0 := Mem.rfl' m
 refine callsR (args := [a0v0, .agg (c_api_Head a1).toArray, .func (.func 39) #[] #[]]) func38 rfl ntmps38 (nb rfl) <| ws <| s_box S rfl fun b1 w1 S1 => ?_
 replace S1 : St _ ((bx b1 (c_api_Head a1) 31) :: As) _ := S1
 clear S
 refine s_asv (v := vI 0) rfl <| s_asv (v := vb false) rfl <| nx <| s_mvv (v := a0v0) rfl <| s_lenR (xs := a0) rfl a0h0 underlying22 <| s_asv (v := vI (a0.length : Int)) rfl <| nx <| s_mvv (v := vI (a0.length : Int)) rfl <| s_asv (v := vI 0) rfl <| s_asv (v := vI (a0.length : Int)) rfl <| wpl_nil <| nrm ?_
 obtain ⟨x1, q1, hm⟩ := obind_some hm
 have L1 := Mem.rfl' m
 refine wpc_seq <| wpc_join [9, 10, 11, 15, 16, 17, 18, 19, 20, 21, 22, 23, 24, 25, 26, 27, 28, 29, 30, 31, 32, 33, 34] (fun f' w' => ∃ (M1 : Mem), m ≤ M1 ∧ St M1 ((bx b1 (c_api_Head a1) 31) :: As) w' ∧ AllAt f' [(9, vI x1)]) ?_ ?_
 · obtain ⟨x2, q2, q1⟩ := obind_some q1
   have L2 := Mem.rfl' m
   refine wpc_join [9, 10, 11, 15, 16, 17, 18, 19, 20, 21, 22, 23, 24, 25, 26, 27, 28, 29, 30, 31, 32, 33, 34] (fun f' w' => ∃ (M2 : Mem), m ≤ M2 ∧ St M2 ((bx b1 (c_api_Head a1) 31) :: As) w' ∧ AllAt f' [(9, vI x2)]) ?_ ?_
   · refine wpc_block <| wpc_rounds [9, 10, 11, 15, 16, 17, 18, 19, 20, 21, 22, 23, 24, 25, 26, 27, 28, 29, 30, 31, 32, 33, 34] (fun n1 f' w' => ∃ (s1 : Int × Int) (m10 : Mem), iter (m_slices_BinarySearchFunc_api_Head_api_Head_api_Head_39_b2 a0 a1) n1 s1 = some x2 ∧ m ≤ m10 ∧ St m10 ((bx b1 (c_api_Head a1) 31) :: As) w' ∧ AllAt f' [(9, vI s1.1), (10, vI s1.2)]) FUEL ⟨(0, (a0.length : Int)), m, q2, L2, S1, ⟨rfl, rfl, trivial⟩⟩ ?_
     rintro n1 f1 w2 ho ⟨s1, m1, q3, L4, S2, ha⟩
     obtain ⟨u1, rfl⟩ := fr_of (N := 49) ho ha
     clear ho ha
     have L3 := Mem.rfl' m1
     clear S1
     cases n1 with
     | zero => exact (iter_zero q3).elim
     | succ n1 =>
      obtain ⟨y1, q5, q4⟩ := iter_succ q3
      unfold m_slices_BinarySearchFunc_api_Head_api_Head_api_Head_39_b2 at q5
      refine wpc_seq <| ws <| s_mvv (v := vI s1.1) rfl <| s_mvv (v := vI s1.2) rfl <| s_lss (m := s1.1) (n := s1.2) rfl rfl <| wpl_nil <| nrm <| wpc_if (t := (decide (s1.1 < s1.2))) rfl (fun hc1 => ?_) (fun hc1 => ?_)
      · replace q5 := ifT hc1 q5
        refine wpc_skip <| nrm <| wpc_block <| ws <| s_mvv (v := vI s1.1) rfl <| s_mvv (v := vI s1.2) rfl <| s_addI (m := s1.1) (n := s1.2) rfl rfl <| s_convU rfl underlying3 underlying113 <| s_shrU (m := (toU (w64 (s1.1 + s1.2)))) (n := 1) rfl rfl (by decide) <| s_convI rfl underlying113 underlying3 ?_
        obtain ⟨x4, q7, q5⟩ := bnd_eq q5
        refine s_asv (v := vI x4) (congrArg (fun z => vI z) q7.symm) <| wpl_nil <| nrm <| wpc_seq ?_
        obtain ⟨x5, q8, q5⟩ := obind_some q5
        have HM : MonoAll [(24, fv (.func (.func 39) #[] #[])), (25, fv a0v0), (26, fv (vI x4)), (27, fun (M : Mem) (v : Value) => ∃ (p1 : Value), v = p1 ∧ PtC M p1 (c_api_Head x5)), (28, fv (.agg (c_api_Head x5).toArray)), (29, fv (.agg (c_api_Head a1).toArray))] := ⟨mv, mv, mv, (fun _ _ _ l ⟨p1, e, h1⟩ => ⟨p1, e, h1.up l⟩), mv, mv, trivial⟩
        refine wpc_flowG HM 6 mixed rfl rfl rfl (rg 24 6) (fun L f M w => St M ((bx b1 (c_api_Head a1) 31) :: As) w) (St.drew S2 _) ?_ ?_
        · refine ⟨?_, ?_, ?_, ?_, ?_, ?_, trivial⟩
          · exact flp HM rfl [] (fun _ _ => trivial) (fun _ _ q => s_mvv (v := .func (.func 39) #[] #[]) rfl q) rfl
          · exact flp HM rfl [] (fun _ _ => trivial) (fun _ _ q => s_mvv (v := a0v0) rfl q) rfl
          · exact flp HM rfl [] (fun _ _ => trivial) (fun _ _ q => s_mvv (v := vI x4) rfl q) rfl
          · intro L f5 w6 hL hd hc ⟨m5, L11, S6, K, hO⟩
            obtain ⟨u5, rfl⟩ := fr_of (N := 49) (L := [(25, _), (26, _)]) hO ⟨K 1 (dep hd rfl), K 2 (dep hd rfl), trivial⟩
            replace a0h0 := a0h0.up (mt L4 L11)
            refine s_idx (q := x5) rfl rfl a0h0 q8 underlying22 sizeOf31 fun p1 c1 h1 r1 => ?_
            obtain rfl := rep_g_api_Head r1
            exact oS HM L11 S6 rfl K rfl rfl ⟨p1, rfl, h1⟩ outP
          · intro L f6 w7 hL hd hc ⟨m6, L13, S7, K, hO⟩
            obtain ⟨v1, e3, h2⟩ := K 3 (dep hd rfl)
            obtain ⟨u6, rfl⟩ := fr_of (N := 49) (L := [(27, _)]) hO ⟨e3, trivial⟩
            exact s_ldM (cs := (c_api_Head x5)) S7 rfl h2 rfl isAgg31 sizeOf31 (fun h => by cases h) <| oS HM L13 S7 rfl K rfl rfl rfl outP
          · exact flp HM rfl [] (fun _ _ => trivial) (fun _ S8 q => s_ld (i := 0) (cs := (c_api_Head a1)) S8 rfl rfl isAgg31 sizeOf31 rfl (fun h => by cases h) q) rfl
        intro L f8 w9 hall ⟨m8, L17, S9, K, hO⟩
        have d0 : L 0 = true := hall 0 (by decide)
        have d4 : L 4 = true := hall 4 (by decide)
        have d5 : L 5 = true := hall 5 (by decide)
        obtain ⟨u8, rfl⟩ := fr_of (N := 49) (L := [(24, _), (28, _), (29, _)]) hO ⟨K 0 d0, K 4 d4, K 5 d5, trivial⟩
        replace S9 : St _ ((bx b1 (c_api_Head a1) 31) :: As) _ := S9
        clear S2
        obtain ⟨x6, q9, q5⟩ := obind_some q5
        refine s_callC rfl call39 (v_gossip_order (a0 := x5) (a1 := a1) S9  q9) rfl rfl ?_
        rintro _ w10 ⟨m9, l1, S10, rfl⟩
        clear S9
        refine s_lss (m := x6) (n := 0) rfl rfl <| wpl_nil <| nrm <| wpc_if (t := (decide (x6 < 0))) rfl (fun hc2 => ?_) (fun hc2 => ?_)
        · replace q5 := ifT hc2 q5
          refine wpc_region <| s_mvv (v := vI x4) rfl <| s_addI (m := x4) (n := 1) rfl rfl <| s_asv (v := vI (w64 (x4 + 1))) rfl <| wpl_nil <| nrmB <| nrm ?_
          have e0 := Option.some.inj q5
          subst e0
          rcases q4 with ⟨sn, e, q4'⟩ | e
          · cases e
            replace L3 := Mem.tr L3 (mt L17 l1)
            exact ⟨outP, _, Nat.lt_succ_self _, ⟨_, m9, q4', Mem.tr L4 L3, S10, ⟨rfl, rfl, trivial⟩⟩⟩
          · cases e
        replace q5 := ifF hc2 q5
        refine wpc_region <| s_mvv (v := vI x4) rfl <| s_asv (v := vI x4) rfl <| wpl_nil <| nrmB <| nrm ?_
        have e0 := Option.some.inj q5
        subst e0
        rcases q4 with ⟨sn, e, q4'⟩ | e
        · cases e
          replace L3 := Mem.tr L3 (mt L17 l1)
          exact ⟨outP, _, Nat.lt_succ_self _, ⟨_, m9, q4', Mem.tr L4 L3, S10, ⟨rfl, rfl, trivial⟩⟩⟩
        · cases e
      replace q5 := ifF hc1 q5
      refine wpc_exit <| thE <| thE <| exB <| nrm ?_
      have e0 := Option.some.inj q5
      subst e0
      rcases q4 with ⟨sn, e, _⟩ | e
      · cases e
      · cases e
        exact ⟨outP, m1, Mem.tr L4 L3, S2, ⟨rfl, trivial⟩⟩
   rintro f9 w11 ho ⟨m11, l2, S11, ha⟩
   obtain ⟨u9, rfl⟩ := fr_of (N := 49) ho ha
   clear ho ha S1
   have e0 := Option.some.inj q1
   subst e0
   replace L1 := Mem.tr L1 l2
   exact ⟨outP, m11, L1, S11, ⟨rfl, trivial⟩⟩
 rintro f10 w12 ho ⟨m12, l3, S12, ha⟩
 obtain ⟨u10, rfl⟩ := fr_of (N := 49) ho ha
 clear S1
 refine wpc_seq ?_
 obtain ⟨x7, q10, hm⟩ := obind_some hm
 obtain ⟨x8, q11, hm⟩ := obind_some hm
 have HM : MonoAll [(35, fv (vI x1)), (36, fv (vI x1)), (37, fv (vI (a0.length : Int))), (38, fv (vb (decide (x1 < (a0.length : Int))))), (39, fv (vb (decide (x1 < (a0.length : Int))))), (40, fc (decide (x1 < (a0.length : Int))) (fv (.func (.func 39) #[] #[]))), (41, fc (decide (x1 < (a0.length : Int))) (fv a0v0)), (42, fc (decide (x1 < (a0.length : Int))) (fv (vI x1))), (43, fc (decide (x1 < (a0.length : Int))) (fun (M : Mem) (v : Value) => ∃ (p2 : Value), v = p2 ∧ PtC M p2 (c_api_Head x7))), (44, fc (decide (x1 < (a0.length : Int))) (fv (.agg (c_api_Head x7).toArray))), (45, fc (decide (x1 < (a0.length : Int))) (fv (.agg (c_api_Head a1).toArray))), (46, fc (decide (x1 < (a0.length : Int))) (fv (vI x8))), (47, fc (decide (x1 < (a0.length : Int))) (fv (vb (x8 == 0)))), (48, fv (vb ((decide (x1 < (a0.length : Int))) && (x8 == 0)))), (6, fv (vI x1))] := ⟨mv, mv, mv, mv, mv, (mc mv), (mc mv), (mc mv), (mc (fun _ _ _ l ⟨p2, e, h3⟩ => ⟨p2, e, h3.up l⟩)), (mc mv), (mc mv), (mc mv), (mc mv), mv, mv, trivial⟩
 refine wpc_flowG HM 15 mixed rfl rfl rfl [6, 35, 36, 37, 38, 39, 40, 41, 42, 43, 44, 45, 46, 47, 48] (fun L f M w => St M ((bx b1 (c_api_Head a1) 31) :: As) w) (St.drew S12 _) ?_ ?_
 · refine ⟨?_, ?_, ?_, ?_, ?_, ?_, ?_, ?_, ?_, ?_, ?_, ?_, ?_, ?_, ?_, trivial⟩
   · exact flp HM rfl [] (fun _ _ => trivial) (fun _ _ q => s_mvv (v := vI x1) rfl q) rfl
   · exact flp HM rfl [] (fun _ _ => trivial) (fun _ _ q => s_mvv (v := vI x1) rfl q) rfl
   · exact flp HM rfl [] (fun _ _ => trivial) (fun _ _ q => s_mvv (v := vI (a0.length : Int)) rfl q) rfl
   · exact flp HM rfl [(36, _), (37, _)] (fun K _ => ⟨K 1 rfl, K 2 rfl, trivial⟩) (fun _ _ q => s_lss (m := x1) (n := (a0.length : Int)) rfl rfl q) rfl
   · exact flp HM rfl [(38, _)] (fun K _ => ⟨K 3 rfl, trivial⟩) (fun _ _ q => s_mvv (v := vb (decide (x1 < (a0.length : Int)))) rfl q) rfl
   · exact flg HM rfl rfl (fun K _ => K 4 rfl) [] (fun _ _ _ => trivial) (fun _ => fun _ _ q => s_mvv (v := .func (.func 39) #[] #[]) rfl q) (fun _ => rfl)
   · exact flg HM rfl rfl (fun K _ => K 4 rfl) [] (fun _ _ _ => trivial) (fun _ => fun _ _ q => s_mvv (v := a0v0) rfl q) (fun _ => rfl)
   · exact flg HM rfl rfl (fun K _ => K 4 rfl) [] (fun _ _ _ => trivial) (fun _ => fun _ _ q => s_mvv (v := vI x1) rfl q) (fun _ => rfl)
   · refine flb HM rfl rfl (fun K _ => K 4 rfl) fun hb4 => ?_
     intro L f19 w21 hL hd hc ⟨m21, L34, S21, K, hO⟩
     obtain ⟨u19, rfl⟩ := fr_of (N := 49) (L := [(41, _), (42, _)]) hO ⟨(K 6 (dep hd rfl)).1 hb4, (K 7 (dep hd rfl)).1 hb4, trivial⟩
     replace S21 : St _ ((bx b1 (c_api_Head a1) 31) :: As) _ := S21
     replace q10 := gu_t hb4 q10
     replace a0h0 := a0h0.up (mt l3 L34)
     refine s_idx (q := x7) rfl rfl a0h0 q10 underlying22 sizeOf31 fun p2 c2 h3 r2 => ?_
     obtain rfl := rep_g_api_Head r2
     exact oS HM L34 S21 rfl K rfl rfl ⟨fun _ => ⟨p2, rfl, h3⟩, fun hx => tf hb4 hx⟩ outP
   · refine flb HM rfl rfl (fun K _ => K 4 rfl) fun hb5 => ?_
     intro L f20 w22 hL hd hc ⟨m22, L36, S22, K, hO⟩
     obtain ⟨v2, e12, h4⟩ := (K 8 (dep hd rfl)).1 hb5
     obtain ⟨u20, rfl⟩ := fr_of (N := 49) (L := [(43, _)]) hO ⟨e12, trivial⟩
     replace S22 : St _ ((bx b1 (c_api_Head a1) 31) :: As) _ := S22
     exact s_ldM (cs := (c_api_Head x7)) S22 rfl h4 rfl isAgg31 sizeOf31 (fun h => by cases h) <| oS HM L36 S22 rfl K rfl rfl ⟨fun _ => rfl, fun hx => tf hb5 hx⟩ outP
   · exact flg HM rfl rfl (fun K _ => K 4 rfl) [] (fun _ _ _ => trivial) (fun _ => fun _ S23 q => s_ld (i := 0) (cs := (c_api_Head a1)) S23 rfl rfl isAgg31 sizeOf31 rfl (fun h => by cases h) q) (fun _ => rfl)
   · refine flb HM rfl rfl (fun K _ => K 4 rfl) fun hb7 => ?_
     intro L f22 w24 hL hd hc ⟨m24, L40, S24, K, hO⟩
     obtain ⟨u22, rfl⟩ := fr_of (N := 49) (L := [(40, _), (44, _), (45, _)]) hO ⟨(K 5 (dep hd rfl)).1 hb7, (K 9 (dep hd rfl)).1 hb7, (K 10 (dep hd rfl)).1 hb7, trivial⟩
     replace S24 : St _ ((bx b1 (c_api_Head a1) 31) :: As) _ := S24
     have L41 := Mem.rfl' m24
     replace q11 := gu_t hb7 q11
     refine s_callC rfl call39 (v_gossip_order (a0 := x7) (a1 := a1) S24  q11) rfl rfl ?_
     rintro _ w25 ⟨m25, l4, S25, rfl⟩
     clear S24
     refine wpn ?_
     replace L41 := Mem.tr L41 l4
     exact ⟨m25, Mem.tr L40 L41, S25, facts_step HM rfl K L41 rfl rfl ⟨fun _ => rfl, fun hx => tf hb7 hx⟩, outP⟩
   · exact flg HM rfl rfl (fun K _ => K 4 rfl) [(46, _)] (fun K _ hb => ⟨(K 11 rfl).1 hb, trivial⟩) (fun _ => fun _ _ q => s_eql (m := x8) (n := 0) rfl rfl q) (fun _ => rfl)
   · exact flc HM rfl (decide (x1 < (a0.length : Int))) [(39, _), (47, _)] [(39, _)] (fun K _ hb => ⟨K 4 rfl, (K 12 rfl).1 hb, trivial⟩) (fun K _ _ => ⟨K 4 rfl, trivial⟩) (fun hb => fun _ _ q => s_pickT (cb hb) rfl q) (fun hb => fun _ _ q => s_pickF (cb hb) rfl q) (fun hb => cb (and_t hb)) (fun hb => cb (and_f hb))
   · exact flp HM rfl [(35, _)] (fun K _ => ⟨K 0 rfl, trivial⟩) (fun _ _ q => s_asv (v := vI x1) rfl q) rfl
 intro L f26 w29 hall ⟨m29, L49, S29, K, hO⟩
 have d14 : L 14 = true := hall 14 (by decide)
 have d13 : L 13 = true := hall 13 (by decide)
 obtain ⟨u27, rfl⟩ := fr_of (N := 49) (L := [(6, _), (48, _)]) hO ⟨K 14 d14, K 13 d13, trivial⟩
 replace S29 : St _ ((bx b1 (c_api_Head a1) 31) :: As) _ := S29
 clear S12
 obtain ⟨x9, q12, hm⟩ := bnd_eq hm
 refine s_asv (v := vb x9) (congrArg (fun z => vb z) q12.symm) <| wpl_nil <| nrm <| wpc_ret <| outRw fun we hpd => ?_
 replace S29 := St.pd S29 hpd
 obtain ⟨m30, l5, S30⟩ := St.drop S29 0
 clear S29
 replace S30 : St _ (As) _ := S30
 have e0 := Option.some.inj hm
 subst e0
 replace L0 := Mem.tr L0 (mt l3 (mt L49 l5))
 exact outR [_, _] rfl ⟨rfl, rfl, trivial⟩ ⟨_, L0, S30, rfl⟩
end Go.Proofs.YtgnklegamndglaaGreat
