/- The walks of some functions, written by program. Conditions: none. -/
import Derived.Test.YtohipjalgccmnaaDoorWkF
set_option maxHeartbeats 20000000
set_option maxRecDepth 100000
set_option linter.unusedVariables false
set_option linter.unusedSimpArgs false
namespace Go.Proofs.YtohipjalgccmnaaDoor
open Go Go.Gw

def m_law08_few (a0 : List (UInt64 × UInt64)) : Option Bool :=
  bnd (((decide ((a0.length : Int) ≤ 40)) || (decide ((a0.length : Int) > 256)))) fun x1 =>
  some x1

theorem w_law08_few {m : Mem} {As : List Ow} {w : World} {a0 : List (UInt64 × UInt64)} {a0v0 : Value} {r : Bool} (S : St m (As) w) (a0h0 : SlR m a0v0 a0) (hm : m_law08_few a0 = some r) :
    CallsR Tryd.prog 17 #[a0v0] w fun v w' => ∃ (M : Mem), m ≤ M ∧ St M (As) w' ∧ v = vb r := by
  unfold m_law08_few at hm
  have L0 := Mem.rfl' m
  refine callsR (args := [a0v0]) Tryd.func17 rfl Tryd.ntmps17 (Nat.le_of_ble_eq_true rfl) ?_
  refine wpc_seq ?_
  refine wpc_region ?_
  refine s_asv (v := vb false) rfl ?_
  refine wpl_nil ?_
  refine nrm ?_
  refine wpc_seq ?_
  refine wpc_region ?_
  refine s_mvv (v := a0v0) rfl ?_
  refine s_lenR (xs := a0) rfl a0h0 Tryd.underlying22 ?_
  refine s_leq (m := (a0.length : Int)) (n := 40) rfl rfl ?_
  refine s_mvv (v := vb (decide ((a0.length : Int) ≤ 40))) rfl ?_
  refine wpl_cut 4 [7, 8, 9, 10] (fun f' w' => w' = w ∧ AllAt f' [(10, vb ((decide ((a0.length : Int) ≤ 40)) || (decide ((a0.length : Int) > 256))))]) ?_ ?_
  · rcases bool_tf (decide ((a0.length : Int) ≤ 40)) with hb1 | hb1
    · refine wpl_no (d := 6) rfl rfl (congrArg Value.bool hb1) ?_
      refine wpl_no (d := 6) rfl rfl (congrArg Value.bool hb1) ?_
      refine wpl_no (d := 6) rfl rfl (congrArg Value.bool hb1) ?_
      refine s_pickT (congrArg Value.bool hb1) rfl ?_
      exact wpl_nil (nrm ⟨outP, rfl, congrArg Value.bool (or_t hb1), trivial⟩)
    · refine wpl_yes (d := 6) rfl rfl (congrArg Value.bool hb1) ?_
      refine s_mvv (v := a0v0) rfl ?_
      refine wpl_yes (d := 6) rfl rfl (congrArg Value.bool hb1) ?_
      refine s_lenR (xs := a0) rfl a0h0 Tryd.underlying22 ?_
      refine wpl_yes (d := 6) rfl rfl (congrArg Value.bool hb1) ?_
      refine s_gtr (m := (a0.length : Int)) (n := 256) rfl rfl ?_
      refine s_pickF (congrArg Value.bool hb1) rfl ?_
      exact wpl_nil (nrm ⟨outP, rfl, congrArg Value.bool (or_f hb1), trivial⟩)
  rintro f1 w1 ho ⟨h1, ha⟩
  subst h1
  obtain ⟨u1, rfl⟩ := fr_of (N := 11) ho ha
  obtain ⟨x1, q1, hm⟩ := bnd_eq hm
  refine s_asv (v := vb x1) (congrArg (fun z => vb z) q1.symm) ?_
  refine wpl_nil ?_
  refine nrm ?_
  refine wpc_ret ?_
  refine outRw ?_
  intro we hpd
  replace S := St.pd S hpd
  have e0 := Option.some.inj hm
  subst e0
  exact outR [_] rfl ⟨rfl, trivial⟩ ⟨_, L0, S, rfl⟩

end Go.Proofs.YtohipjalgccmnaaDoor
