/- The steps that touch no memory: numbers, truths, choices. Conditions: none. -/
import Derived.Test.YtemiampgjgenhaaGreatDoorGwA
set_option linter.unusedSimpArgs false
set_option linter.unusedVariables false
namespace Go.Gw
open Go

abbrev vI (n : Int) : Value := .int .i64 n
abbrev vU (x : UInt64) : Value := .int .u64 (x.toNat : Int)
abbrev vW (x : UInt32) : Value := .int .u32 (x.toNat : Int)
abbrev vB (x : UInt8) : Value := .int .u8 (x.toNat : Int)
abbrev vR (n : Int) : Value := .int .i32 n
abbrev vb (b : Bool) : Value := .bool b
abbrev vS (s : ByteArray) : Value := .string s

def w64 (n : Int) : Int := (n + 9223372036854775808) % 18446744073709551616 - 9223372036854775808
theorem w64_in {n : Int} (h1 : -9223372036854775808 ≤ n) (h2 : n ≤ 9223372036854775807) : w64 n = n := by unfold w64; omega
theorem w64_ge (n : Int) : -9223372036854775808 ≤ w64 n := by unfold w64; omega
theorem w64_le (n : Int) : w64 n ≤ 9223372036854775807 := by unfold w64; omega
theorem wrap_i64 (n : Int) : IntKind.i64.wrap n = w64 n := by
  simp only [IntKind.wrap, IntKind.bits, IntKind.signed, w64]
  simp only [Bool.true_and, decide_eq_true_eq, ge_iff_le]
  split <;> omega
theorem wrap_u64 (n : Int) : IntKind.u64.wrap n = n % 18446744073709551616 := by
  simp [IntKind.wrap, IntKind.bits, IntKind.signed]
theorem wrap_u32 (n : Int) : IntKind.u32.wrap n = n % 4294967296 := by
  simp [IntKind.wrap, IntKind.bits, IntKind.signed]
theorem wrap_u8 (n : Int) : IntKind.u8.wrap n = n % 256 := by
  simp [IntKind.wrap, IntKind.bits, IntKind.signed]

def toU (n : Int) : UInt64 := UInt64.ofNat (n % 18446744073709551616).toNat
def toW (n : Int) : UInt32 := UInt32.ofNat (n % 4294967296).toNat
def toB (n : Int) : UInt8 := UInt8.ofNat (n % 256).toNat
theorem toU_nat (n : Int) : ((toU n).toNat : Int) = n % 18446744073709551616 := by
  simp [toU, UInt64.toNat_ofNat']; omega
theorem toW_nat (n : Int) : ((toW n).toNat : Int) = n % 4294967296 := by
  simp [toW, UInt32.toNat_ofNat']; omega
theorem toB_nat (n : Int) : ((toB n).toNat : Int) = n % 256 := by
  simp [toB, UInt8.toNat_ofNat']; omega
theorem wrapU (n : Int) : IntKind.u64.wrap n = ((toU n).toNat : Int) := by rw [wrap_u64, toU_nat]
theorem wrapW (n : Int) : IntKind.u32.wrap n = ((toW n).toNat : Int) := by rw [wrap_u32, toW_nat]
theorem wrapB (n : Int) : IntKind.u8.wrap n = ((toB n).toNat : Int) := by rw [wrap_u8, toB_nat]

def shl64 (n : Int) (k : Nat) : Int := w64 (n * 2 ^ (min k 64))
def shr64 (n : Int) (k : Nat) : Int := n.fdiv (2 ^ (min k 64))
def shlU (x : UInt64) (k : Nat) : UInt64 := toU (x.toNat * 2 ^ (min k 64))
def shrU (x : UInt64) (k : Nat) : UInt64 := UInt64.ofNat (x.toNat / 2 ^ (min k 64))
def shrW (x : UInt32) (k : Nat) : UInt32 := UInt32.ofNat (x.toNat / 2 ^ (min k 32))
def shrB (x : UInt8) (k : Nat) : UInt8 := UInt8.ofNat (x.toNat / 2 ^ (min k 8))
def and64 (a b : Int) : Int := w64 (BitVec.ofInt 64 a &&& BitVec.ofInt 64 b).toNat
def or64 (a b : Int) : Int := w64 (BitVec.ofInt 64 a ||| BitVec.ofInt 64 b).toNat
def xor64 (a b : Int) : Int := w64 (BitVec.ofInt 64 a ^^^ BitVec.ofInt 64 b).toNat

theorem bv64 (x : UInt64) : BitVec.ofInt 64 (x.toNat : Int) = x.toBitVec := by
  apply BitVec.eq_of_toNat_eq; simp
theorem bv32 (x : UInt32) : BitVec.ofInt 32 (x.toNat : Int) = x.toBitVec := by
  apply BitVec.eq_of_toNat_eq; simp
theorem bv8 (x : UInt8) : BitVec.ofInt 8 (x.toNat : Int) = x.toBitVec := by
  apply BitVec.eq_of_toNat_eq; simp
theorem wrapU_lt (n : Nat) (h : n < 18446744073709551616) : IntKind.u64.wrap (n : Int) = (n : Int) := by rw [wrap_u64]; omega
theorem wrapW_lt (n : Nat) (h : n < 4294967296) : IntKind.u32.wrap (n : Int) = (n : Int) := by rw [wrap_u32]; omega
theorem wrapB_lt (n : Nat) (h : n < 256) : IntKind.u8.wrap (n : Int) = (n : Int) := by rw [wrap_u8]; omega

section
variable {ρ : Option Nat} {P : Program} {N : Nat} {D : World} {ops : Array Oper} {rest : List Oper} {Q : Post} {f : Fr} {w w' : World} {v : Value}
variable {dst : Option Nat} {ty t t' : TypeId} {pos : String} {af : Array Edge} {x y c a b : Operand}

theorem s_mv (h : wpl ρ P N D ops rest Q (upo N f dst (ev f x)) w) : wpl ρ P N D ops (⟨dst, .move x, ty, pos, af, none⟩ :: rest) Q f w := wpl_val rfl (fun _ e => by cases e) rfl h
theorem s_as (h : wpl ρ P N D ops rest Q (upo N f dst (ev f x)) w) : wpl ρ P N D ops (⟨dst, .assign x, ty, pos, af, none⟩ :: rest) Q f w := wpl_val rfl (fun _ e => by cases e) rfl h
theorem s_mvv (hx : ev f x = v) (h : wpl ρ P N D ops rest Q (upo N f dst v) w) : wpl ρ P N D ops (⟨dst, .move x, ty, pos, af, none⟩ :: rest) Q f w := s_mv (hx ▸ h)
theorem s_asv (hx : ev f x = v) (h : wpl ρ P N D ops rest Q (upo N f dst v) w) : wpl ρ P N D ops (⟨dst, .assign x, ty, pos, af, none⟩ :: rest) Q f w := s_as (hx ▸ h)

theorem s_pickT (hc : ev f c = .bool true) (ha : ev f a = v) (h : wpl ρ P N D ops rest Q (upo N f dst v) w) : wpl ρ P N D ops (⟨dst, .pick c a b, ty, pos, af, none⟩ :: rest) Q f w :=
  wpl_val (v := v) (w' := w) rfl (fun _ e => by cases e) (by simp [execOp, hc, ha, asBool]) h
theorem s_pickF (hc : ev f c = .bool false) (hb : ev f b = v) (h : wpl ρ P N D ops rest Q (upo N f dst v) w) : wpl ρ P N D ops (⟨dst, .pick c a b, ty, pos, af, none⟩ :: rest) Q f w :=
  wpl_val (v := v) (w' := w) rfl (fun _ e => by cases e) (by simp [execOp, hc, hb, asBool]) h
theorem s_pick {p q r : Bool} (hc : ev f c = .bool p) (ha : ev f a = .bool q) (hb : ev f b = .bool r) (h : wpl ρ P N D ops rest Q (upo N f dst (.bool (if p then q else r))) w) :
    wpl ρ P N D ops (⟨dst, .pick c a b, ty, pos, af, none⟩ :: rest) Q f w := by
  cases p
  · exact s_pickF hc hb h
  · exact s_pickT hc ha h

theorem s_not {p : Bool} (hx : ev f x = .bool p) (h : wpl ρ P N D ops rest Q (upo N f dst (.bool (!p))) w) : wpl ρ P N D ops (⟨dst, .unOp .not t x, ty, pos, af, none⟩ :: rest) Q f w :=
  wpl_val (v := .bool (!p)) (w' := w) rfl (fun _ e => by cases e) (by simp [execOp, hx, Op.unary]) h

/-- Two numbers of a kind. -/
theorem s_bin {op : BinOp} {k : IntKind} {m n : Int} (hx : ev f x = .int k m) (hy : ev f y = .int k n) (hr : (binOp op t (.int k m) (.int k n)).run P w = .ok v w)
    (h : wpl ρ P N D ops rest Q (upo N f dst v) w) : wpl ρ P N D ops (⟨dst, .binOp op t x y t', ty, pos, af, none⟩ :: rest) Q f w :=
  wpl_val (v := v) (w' := w) rfl (fun _ e => by cases e) (by
    simp only [execOp, hx, hy]
    have hg : (eqGuard op t x y (.int k m) (.int k n)).run P w = .ok () w := by
      cases op <;> simp [eqGuard]
    simp [hg, hr]) h

/-! #### int -/
theorem s_addI {m n : Int} (hx : ev f x = vI m) (hy : ev f y = vI n) (h : wpl ρ P N D ops rest Q (upo N f dst (vI (w64 (m + n)))) w) :
    wpl ρ P N D ops (⟨dst, .binOp .add t x y t', ty, pos, af, none⟩ :: rest) Q f w := s_bin hx hy (by simp [binOp, Op.intArith, wrap_i64]) h
theorem s_subI {m n : Int} (hx : ev f x = vI m) (hy : ev f y = vI n) (h : wpl ρ P N D ops rest Q (upo N f dst (vI (w64 (m - n)))) w) :
    wpl ρ P N D ops (⟨dst, .binOp .sub t x y t', ty, pos, af, none⟩ :: rest) Q f w := s_bin hx hy (by simp [binOp, Op.intArith, wrap_i64]) h
theorem s_mulI {m n : Int} (hx : ev f x = vI m) (hy : ev f y = vI n) (h : wpl ρ P N D ops rest Q (upo N f dst (vI (w64 (m * n)))) w) :
    wpl ρ P N D ops (⟨dst, .binOp .mul t x y t', ty, pos, af, none⟩ :: rest) Q f w := s_bin hx hy (by simp [binOp, Op.intArith, wrap_i64]) h
theorem s_quoI {m n : Int} (hx : ev f x = vI m) (hy : ev f y = vI n) (hn : n ≠ 0) (h : wpl ρ P N D ops rest Q (upo N f dst (vI (w64 (m.tdiv n)))) w) :
    wpl ρ P N D ops (⟨dst, .binOp .quo t x y t', ty, pos, af, none⟩ :: rest) Q f w := s_bin hx hy (by simp [binOp, Op.intDiv, wrap_i64, hn]) h
theorem s_remI {m n : Int} (hx : ev f x = vI m) (hy : ev f y = vI n) (hn : n ≠ 0) (h : wpl ρ P N D ops rest Q (upo N f dst (vI (m.tmod n))) w) :
    wpl ρ P N D ops (⟨dst, .binOp .rem t x y t', ty, pos, af, none⟩ :: rest) Q f w := s_bin hx hy (by simp [binOp, Op.intDiv, hn]) h
theorem s_andI {m n : Int} (hx : ev f x = vI m) (hy : ev f y = vI n) (h : wpl ρ P N D ops rest Q (upo N f dst (vI (and64 m n))) w) :
    wpl ρ P N D ops (⟨dst, .binOp .and t x y t', ty, pos, af, none⟩ :: rest) Q f w := s_bin hx hy (by simp only [binOp, Op.intBits, ne_eq, not_true_eq_false, if_false, IntKind.bits, wrap_i64, and64, vI]; rfl) h
theorem s_orI {m n : Int} (hx : ev f x = vI m) (hy : ev f y = vI n) (h : wpl ρ P N D ops rest Q (upo N f dst (vI (or64 m n))) w) :
    wpl ρ P N D ops (⟨dst, .binOp .or t x y t', ty, pos, af, none⟩ :: rest) Q f w := s_bin hx hy (by simp only [binOp, Op.intBits, ne_eq, not_true_eq_false, if_false, IntKind.bits, wrap_i64, or64, vI]; rfl) h
theorem s_xorI {m n : Int} (hx : ev f x = vI m) (hy : ev f y = vI n) (h : wpl ρ P N D ops rest Q (upo N f dst (vI (xor64 m n))) w) :
    wpl ρ P N D ops (⟨dst, .binOp .xor t x y t', ty, pos, af, none⟩ :: rest) Q f w := s_bin hx hy (by simp only [binOp, Op.intBits, ne_eq, not_true_eq_false, if_false, IntKind.bits, wrap_i64, xor64, vI]; rfl) h

/-! #### comparisons, of any kind of number -/
theorem s_eql {k : IntKind} {m n : Int} (hx : ev f x = .int k m) (hy : ev f y = .int k n) (h : wpl ρ P N D ops rest Q (upo N f dst (.bool (m == n))) w) :
    wpl ρ P N D ops (⟨dst, .binOp .eql t x y t', ty, pos, af, none⟩ :: rest) Q f w := s_bin hx hy (by simp [binOp, Op.intCmp]) h
theorem s_neq {k : IntKind} {m n : Int} (hx : ev f x = .int k m) (hy : ev f y = .int k n) (h : wpl ρ P N D ops rest Q (upo N f dst (.bool (m != n))) w) :
    wpl ρ P N D ops (⟨dst, .binOp .neq t x y t', ty, pos, af, none⟩ :: rest) Q f w := s_bin hx hy (by simp [binOp, Op.intCmp]) h
theorem s_lss {k : IntKind} {m n : Int} (hx : ev f x = .int k m) (hy : ev f y = .int k n) (h : wpl ρ P N D ops rest Q (upo N f dst (.bool (decide (m < n)))) w) :
    wpl ρ P N D ops (⟨dst, .binOp .lss t x y t', ty, pos, af, none⟩ :: rest) Q f w := s_bin hx hy (by simp [binOp, Op.intCmp]) h
theorem s_leq {k : IntKind} {m n : Int} (hx : ev f x = .int k m) (hy : ev f y = .int k n) (h : wpl ρ P N D ops rest Q (upo N f dst (.bool (decide (m ≤ n)))) w) :
    wpl ρ P N D ops (⟨dst, .binOp .leq t x y t', ty, pos, af, none⟩ :: rest) Q f w := s_bin hx hy (by simp [binOp, Op.intCmp]) h
theorem s_gtr {k : IntKind} {m n : Int} (hx : ev f x = .int k m) (hy : ev f y = .int k n) (h : wpl ρ P N D ops rest Q (upo N f dst (.bool (decide (m > n)))) w) :
    wpl ρ P N D ops (⟨dst, .binOp .gtr t x y t', ty, pos, af, none⟩ :: rest) Q f w := s_bin hx hy (by simp [binOp, Op.intCmp]) h
theorem s_geq {k : IntKind} {m n : Int} (hx : ev f x = .int k m) (hy : ev f y = .int k n) (h : wpl ρ P N D ops rest Q (upo N f dst (.bool (decide (m ≥ n)))) w) :
    wpl ρ P N D ops (⟨dst, .binOp .geq t x y t', ty, pos, af, none⟩ :: rest) Q f w := s_bin hx hy (by simp [binOp, Op.intCmp]) h

/-! #### uint64 -/
theorem s_addU {m n : UInt64} (hx : ev f x = vU m) (hy : ev f y = vU n) (h : wpl ρ P N D ops rest Q (upo N f dst (vU (m + n))) w) :
    wpl ρ P N D ops (⟨dst, .binOp .add t x y t', ty, pos, af, none⟩ :: rest) Q f w :=
  s_bin hx hy (by simp only [binOp, Op.intArith, ne_eq, not_true_eq_false, if_false, Sem.run_pure, wrap_u64, vU, UInt64.toNat_add]; rfl) h
theorem s_subU {m n : UInt64} (hx : ev f x = vU m) (hy : ev f y = vU n) (h : wpl ρ P N D ops rest Q (upo N f dst (vU (m - n))) w) :
    wpl ρ P N D ops (⟨dst, .binOp .sub t x y t', ty, pos, af, none⟩ :: rest) Q f w :=
  s_bin hx hy (by
    simp only [binOp, Op.intArith, ne_eq, not_true_eq_false, if_false, Sem.run_pure, wrap_u64, vU, UInt64.toNat_sub]
    have := m.toNat_lt; have := n.toNat_lt
    congr 2; omega) h
theorem s_mulU {m n : UInt64} (hx : ev f x = vU m) (hy : ev f y = vU n) (h : wpl ρ P N D ops rest Q (upo N f dst (vU (m * n))) w) :
    wpl ρ P N D ops (⟨dst, .binOp .mul t x y t', ty, pos, af, none⟩ :: rest) Q f w :=
  s_bin hx hy (by simp only [binOp, Op.intArith, ne_eq, not_true_eq_false, if_false, Sem.run_pure, wrap_u64, vU, UInt64.toNat_mul]; rfl) h
theorem s_quoU {m n : UInt64} (hx : ev f x = vU m) (hy : ev f y = vU n) (hn : n ≠ 0) (h : wpl ρ P N D ops rest Q (upo N f dst (vU (m / n))) w) :
    wpl ρ P N D ops (⟨dst, .binOp .quo t x y t', ty, pos, af, none⟩ :: rest) Q f w :=
  s_bin hx hy (by
    have h0 : ¬ ((n.toNat : Int) = 0) := by
      intro e; apply hn; rw [← UInt64.toNat_inj]; simpa using e
    simp only [binOp, Op.intDiv, ne_eq, not_true_eq_false, if_false, Sem.run_pure, wrap_u64, vU, UInt64.toNat_div, h0]
    have := m.toNat_lt
    rw [← Int.ofNat_tdiv]
    have hq : m.toNat / n.toNat ≤ m.toNat := Nat.div_le_self _ _
    generalize m.toNat / n.toNat = q at *
    congr 2; omega) h
theorem s_remU {m n : UInt64} (hx : ev f x = vU m) (hy : ev f y = vU n) (hn : n ≠ 0) (h : wpl ρ P N D ops rest Q (upo N f dst (vU (m % n))) w) :
    wpl ρ P N D ops (⟨dst, .binOp .rem t x y t', ty, pos, af, none⟩ :: rest) Q f w :=
  s_bin hx hy (by
    have h0 : ¬ ((n.toNat : Int) = 0) := by
      intro e; apply hn; rw [← UInt64.toNat_inj]; simpa using e
    simp only [binOp, Op.intDiv, ne_eq, not_true_eq_false, if_false, Sem.run_pure, vU, UInt64.toNat_mod, h0]
    rfl) h
theorem s_andU {m n : UInt64} (hx : ev f x = vU m) (hy : ev f y = vU n) (h : wpl ρ P N D ops rest Q (upo N f dst (vU (m &&& n))) w) :
    wpl ρ P N D ops (⟨dst, .binOp .and t x y t', ty, pos, af, none⟩ :: rest) Q f w :=
  s_bin hx hy (by
    simp only [binOp, Op.intBits, ne_eq, not_true_eq_false, if_false, IntKind.bits, vU, vW, bv64, ← UInt64.toBitVec_and, Sem.run_pure]
    rw [wrapU_lt _ (by have := (m &&& n).toBitVec.isLt; exact this)]; rfl) h
theorem s_orU {m n : UInt64} (hx : ev f x = vU m) (hy : ev f y = vU n) (h : wpl ρ P N D ops rest Q (upo N f dst (vU (m ||| n))) w) :
    wpl ρ P N D ops (⟨dst, .binOp .or t x y t', ty, pos, af, none⟩ :: rest) Q f w :=
  s_bin hx hy (by
    simp only [binOp, Op.intBits, ne_eq, not_true_eq_false, if_false, IntKind.bits, vU, vW, bv64, ← UInt64.toBitVec_or, Sem.run_pure]
    rw [wrapU_lt _ (by have := (m ||| n).toBitVec.isLt; exact this)]; rfl) h
theorem s_xorU {m n : UInt64} (hx : ev f x = vU m) (hy : ev f y = vU n) (h : wpl ρ P N D ops rest Q (upo N f dst (vU (m ^^^ n))) w) :
    wpl ρ P N D ops (⟨dst, .binOp .xor t x y t', ty, pos, af, none⟩ :: rest) Q f w :=
  s_bin hx hy (by
    simp only [binOp, Op.intBits, ne_eq, not_true_eq_false, if_false, IntKind.bits, vU, vW, bv64, ← UInt64.toBitVec_xor, Sem.run_pure]
    rw [wrapU_lt _ (by have := (m ^^^ n).toBitVec.isLt; exact this)]; rfl) h
theorem s_andW {m n : UInt32} (hx : ev f x = vW m) (hy : ev f y = vW n) (h : wpl ρ P N D ops rest Q (upo N f dst (vW (m &&& n))) w) :
    wpl ρ P N D ops (⟨dst, .binOp .and t x y t', ty, pos, af, none⟩ :: rest) Q f w :=
  s_bin hx hy (by
    simp only [binOp, Op.intBits, ne_eq, not_true_eq_false, if_false, IntKind.bits, vU, vW, bv32, ← UInt32.toBitVec_and, Sem.run_pure]
    rw [wrapW_lt _ (by have := (m &&& n).toBitVec.isLt; exact this)]; rfl) h
theorem s_negB {n : UInt8} (hx : ev f x = vB n) (h : wpl ρ P N D ops rest Q (upo N f dst (vB (toB (-(n.toNat : Int))))) w) :
    wpl ρ P N D ops (⟨dst, .unOp .neg t x, ty, pos, af, none⟩ :: rest) Q f w :=
  wpl_val (v := vB (toB (-(n.toNat : Int)))) (w' := w) rfl (fun _ e => by cases e) (by simp [execOp, hx, Op.unary, Op.intArith, wrapB]) h
theorem s_negI {n : Int} (hx : ev f x = vI n) (h : wpl ρ P N D ops rest Q (upo N f dst (vI (w64 (-n)))) w) :
    wpl ρ P N D ops (⟨dst, .unOp .neg t x, ty, pos, af, none⟩ :: rest) Q f w :=
  wpl_val (v := vI (w64 (-n))) (w' := w) rfl (fun _ e => by cases e) (by simp [execOp, hx, Op.unary, Op.intArith, wrap_i64]) h

/-! #### shifts: by an unsigned count, or one that is not below 0 -/
theorem s_shift {op : BinOp} {k yk : IntKind} {m n : Int} (hx : ev f x = .int k m) (hy : ev f y = .int yk n) (hop : op = .shl ∨ op = .shr) (hr : (Op.shift op k m yk n).run P w = .ok v w)
    (h : wpl ρ P N D ops rest Q (upo N f dst v) w) : wpl ρ P N D ops (⟨dst, .binOp op t x y t', ty, pos, af, none⟩ :: rest) Q f w :=
  wpl_val (v := v) (w' := w) rfl (fun _ e => by cases e) (by
    simp only [execOp, hx, hy]
    have hg : (eqGuard op t x y (.int k m) (.int yk n)).run P w = .ok () w := by
      rcases hop with rfl | rfl <;> simp [eqGuard]
    rcases hop with rfl | rfl <;> simp [hg, hr, binOp]) h
theorem s_shlI {m n : Int} {yk : IntKind} (hx : ev f x = vI m) (hy : ev f y = .int yk n) (hn : 0 ≤ n) (h : wpl ρ P N D ops rest Q (upo N f dst (vI (shl64 m n.toNat))) w) :
    wpl ρ P N D ops (⟨dst, .binOp .shl t x y t', ty, pos, af, none⟩ :: rest) Q f w :=
  s_shift hx hy (.inl rfl) (by simp [Op.shift, Int.not_lt.2 hn, IntKind.bits, wrap_i64, shl64]) h
theorem s_shrI {m n : Int} {yk : IntKind} (hx : ev f x = vI m) (hy : ev f y = .int yk n) (hn : 0 ≤ n) (h : wpl ρ P N D ops rest Q (upo N f dst (vI (shr64 m n.toNat))) w) :
    wpl ρ P N D ops (⟨dst, .binOp .shr t x y t', ty, pos, af, none⟩ :: rest) Q f w :=
  s_shift hx hy (.inr rfl) (by simp [Op.shift, Int.not_lt.2 hn, IntKind.bits, shr64]) h
theorem s_shlU {m : UInt64} {n : Int} {yk : IntKind} (hx : ev f x = vU m) (hy : ev f y = .int yk n) (hn : 0 ≤ n) (h : wpl ρ P N D ops rest Q (upo N f dst (vU (shlU m n.toNat))) w) :
    wpl ρ P N D ops (⟨dst, .binOp .shl t x y t', ty, pos, af, none⟩ :: rest) Q f w :=
  s_shift hx hy (.inl rfl) (by simp [Op.shift, Int.not_lt.2 hn, IntKind.bits, wrapU, shlU]) h
theorem fdiv_nat (a b : Nat) : ((a : Int).fdiv (b : Int)) = ((a / b : Nat) : Int) := by
  rw [Int.fdiv_eq_ediv_of_nonneg _ (by omega)]; rfl
theorem s_shrU {m : UInt64} {n : Int} {yk : IntKind} (hx : ev f x = vU m) (hy : ev f y = .int yk n) (hn : 0 ≤ n) (h : wpl ρ P N D ops rest Q (upo N f dst (vU (shrU m n.toNat))) w) :
    wpl ρ P N D ops (⟨dst, .binOp .shr t x y t', ty, pos, af, none⟩ :: rest) Q f w :=
  s_shift hx hy (.inr rfl) (by
    have e : ((2 : Int) ^ (min n.toNat 64)) = ((2 ^ (min n.toNat 64) : Nat) : Int) := by simp
    have l : m.toNat / 2 ^ (min n.toNat 64) < 18446744073709551616 := Nat.lt_of_le_of_lt (Nat.div_le_self _ _) m.toNat_lt
    simp only [Op.shift, Int.not_lt.2 hn, IntKind.bits, if_false, Sem.run_pure, e, fdiv_nat, shrU, vU, UInt64.toNat_ofNat', Nat.mod_eq_of_lt l]) h
theorem s_shrW {m : UInt32} {n : Int} {yk : IntKind} (hx : ev f x = vW m) (hy : ev f y = .int yk n) (hn : 0 ≤ n) (h : wpl ρ P N D ops rest Q (upo N f dst (vW (shrW m n.toNat))) w) :
    wpl ρ P N D ops (⟨dst, .binOp .shr t x y t', ty, pos, af, none⟩ :: rest) Q f w :=
  s_shift hx hy (.inr rfl) (by
    have e : ((2 : Int) ^ (min n.toNat 32)) = ((2 ^ (min n.toNat 32) : Nat) : Int) := by simp
    have l : m.toNat / 2 ^ (min n.toNat 32) < 4294967296 := Nat.lt_of_le_of_lt (Nat.div_le_self _ _) m.toNat_lt
    simp only [Op.shift, Int.not_lt.2 hn, IntKind.bits, if_false, Sem.run_pure, e, fdiv_nat, shrW, vW, UInt32.toNat_ofNat', Nat.mod_eq_of_lt l]) h
theorem s_shrB {m : UInt8} {n : Int} {yk : IntKind} (hx : ev f x = vB m) (hy : ev f y = .int yk n) (hn : 0 ≤ n) (h : wpl ρ P N D ops rest Q (upo N f dst (vB (shrB m n.toNat))) w) :
    wpl ρ P N D ops (⟨dst, .binOp .shr t x y t', ty, pos, af, none⟩ :: rest) Q f w :=
  s_shift hx hy (.inr rfl) (by
    have e : ((2 : Int) ^ (min n.toNat 8)) = ((2 ^ (min n.toNat 8) : Nat) : Int) := by simp
    have l : m.toNat / 2 ^ (min n.toNat 8) < 256 := Nat.lt_of_le_of_lt (Nat.div_le_self _ _) m.toNat_lt
    simp only [Op.shift, Int.not_lt.2 hn, IntKind.bits, if_false, Sem.run_pure, e, fdiv_nat, shrB, vB, UInt8.toNat_ofNat', Nat.mod_eq_of_lt l]) h

/-! #### conversions of numbers -/
theorem s_conv {k : IntKind} {n : Int} {j : IntKind} {d1 : TypeDesc} (hx : ev f x = .int j n) (h1 : P.underlying t = some d1) (h2 : P.underlying t' = some (.int k)) (h : wpl ρ P N D ops rest Q (upo N f dst (.int k (k.wrap n))) w) :
    wpl ρ P N D ops (⟨dst, .convert t t' x, ty, pos, af, none⟩ :: rest) Q f w :=
  wpl_val (v := .int k (k.wrap n)) (w' := w) rfl (fun _ e => by cases e) (by
    simp only [execOp, hx]
    cases d1 <;> simp [convert, run_underlying h1, run_underlying h2, Conv.intToInt]) h
theorem s_convI {n : Int} {j : IntKind} {d1 : TypeDesc} (hx : ev f x = .int j n) (h1 : P.underlying t = some d1) (h2 : P.underlying t' = some (.int .i64)) (h : wpl ρ P N D ops rest Q (upo N f dst (vI (w64 n))) w) :
    wpl ρ P N D ops (⟨dst, .convert t t' x, ty, pos, af, none⟩ :: rest) Q f w := s_conv hx h1 h2 (by rw [wrap_i64]; exact h)
theorem s_convU {n : Int} {j : IntKind} {d1 : TypeDesc} (hx : ev f x = .int j n) (h1 : P.underlying t = some d1) (h2 : P.underlying t' = some (.int .u64)) (h : wpl ρ P N D ops rest Q (upo N f dst (vU (toU n))) w) :
    wpl ρ P N D ops (⟨dst, .convert t t' x, ty, pos, af, none⟩ :: rest) Q f w := s_conv hx h1 h2 (by rw [wrapU]; exact h)
theorem s_convW {n : Int} {j : IntKind} {d1 : TypeDesc} (hx : ev f x = .int j n) (h1 : P.underlying t = some d1) (h2 : P.underlying t' = some (.int .u32)) (h : wpl ρ P N D ops rest Q (upo N f dst (vW (toW n))) w) :
    wpl ρ P N D ops (⟨dst, .convert t t' x, ty, pos, af, none⟩ :: rest) Q f w := s_conv hx h1 h2 (by rw [wrapW]; exact h)
theorem s_convB {n : Int} {j : IntKind} {d1 : TypeDesc} (hx : ev f x = .int j n) (h1 : P.underlying t = some d1) (h2 : P.underlying t' = some (.int .u8)) (h : wpl ρ P N D ops rest Q (upo N f dst (vB (toB n))) w) :
    wpl ρ P N D ops (⟨dst, .convert t t' x, ty, pos, af, none⟩ :: rest) Q f w := s_conv hx h1 h2 (by rw [wrapB]; exact h)

theorem s_ext {i : Nat} {vs : Array Value} (hx : ev f x = .tuple vs) (hv : vs[i]? = some v) (h : wpl ρ P N D ops rest Q (upo N f dst v) w) :
    wpl ρ P N D ops (⟨dst, .extract x i, ty, pos, af, none⟩ :: rest) Q f w :=
  wpl_val (v := v) (w' := w) rfl (fun _ e => by cases e) (by simp [execOp, hx, Instr.extract, hv]) h
theorem s_func {fn : Fn} {first cap : Array Operand} (h : wpl ρ P N D ops rest Q (upo N f dst (.func fn (first.map (ev f)) (cap.map (ev f)))) w) :
    wpl ρ P N D ops (⟨dst, .makeFunc fn first cap, ty, pos, af, none⟩ :: rest) Q f w :=
  wpl_val (w' := w) rfl (fun _ e => by cases e) (by simp [execOp, Instr.makeFunc]) h
end
end Go.Gw
