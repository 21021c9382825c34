/- The walks of the laws, in the form in which they are asked for, written by program. Conditions: none. -/
import Derived.Test.YtgnklegamndglaaGreatZh
import Derived.Test.YtgnklegamndglaaGreatZi
import Derived.Test.YtgnklegamndglaaGreatZj
set_option linter.unusedSimpArgs false
set_option linter.unusedVariables false
set_option maxHeartbeats 20000000
set_option maxRecDepth 100000
namespace Go.Proofs.YtgnklegamndglaaGreat
open Go Go.Gw Go.Ax Tryz
theorem v_law28_GossipAdds {m : Mem} {As : List Ow} {w : World} {a0 : g_api_Pool} {a0v0 : Value} {a1 : g_api_Head} {a2 : List g_api_Key} {a2v0 : Value} {r : Bool} (S : St m As w) (a0h0 : SlR m a0v0 a0.L) (a2h0 : SlR m a2v0 a2) (hm : m_law28_GossipAdds a0 a1 a2 = some r) :
    CallsR prog 3 #[.agg #[a0v0], .agg #[vI a1.Log, vI a1.Size, vU a1.Root.1, vU a1.Root.2, vI a1.At, vU a1.Sig.E, vU a1.Sig.S], a2v0] w fun v w' => ∃ (M : Mem), m ≤ M ∧ St M (As) w' ∧ v = vb r := by
  refine CallsR.mono ((w_law28_GossipAdds hm).2 none0 m As w [.agg #[a0v0], .agg #[vI a1.Log, vI a1.Size, vU a1.Root.1, vU a1.Root.2, vI a1.At, vU a1.Sig.E, vU a1.Sig.S], a2v0] (.cons (Br.toA b_api_Pool (mk_g_api_Pool a0h0)) (.cons (Br.toA b_api_Head (mk_g_api_Head)) (.cons (.d (Br.toS b_api_Key a2h0)) .nil))) (fun n h => absurd rfl h) S) ?_
  rintro v w' ⟨M, η', r', obs', n1, hle, _, ⟨rfl, rfl, rfl⟩, hdom, hR, S'⟩
  obtain rfl := hR.t_inv
  exact ⟨M, hle, S', rfl⟩
theorem v_law28_GossipTells {m : Mem} {As : List Ow} {w : World} {a0 : g_api_Pool} {a0v0 : Value} {a1 : g_api_Pool} {a1v0 : Value} {a2 : Int} {r : Bool} (S : St m As w) (a0h0 : SlR m a0v0 a0.L) (a1h0 : SlR m a1v0 a1.L) (hm : m_law28_GossipTells a0 a1 a2 = some r) :
    CallsR prog 4 #[.agg #[a0v0], .agg #[a1v0], vI a2] w fun v w' => ∃ (M : Mem), m ≤ M ∧ St M (As) w' ∧ v = vb r := by
  refine CallsR.mono ((w_law28_GossipTells hm).2 none0 m As w [.agg #[a0v0], .agg #[a1v0], vI a2] (.cons (Br.toA b_api_Pool (mk_g_api_Pool a0h0)) (.cons (Br.toA b_api_Pool (mk_g_api_Pool a1h0)) (.cons (.d (.i _)) .nil))) (fun n h => absurd rfl h) S) ?_
  rintro v w' ⟨M, η', r', obs', n1, hle, _, ⟨rfl, rfl, rfl⟩, hdom, hR, S'⟩
  obtain rfl := hR.t_inv
  exact ⟨M, hle, S', rfl⟩
theorem v_law28_GossipSpreads {m : Mem} {As : List Ow} {w : World} {a0 : List g_api_Pool} {a0v0 : Value} {a1 : List (Int × Int)} {a1v0 : Value} {r : Bool} (S : St m As w) (a0h0 : SlR m a0v0 a0) (a1h0 : SlR m a1v0 a1) (hm : m_law28_GossipSpreads a0 a1 = some r) :
    CallsR prog 5 #[a0v0, a1v0] w fun v w' => ∃ (M : Mem), m ≤ M ∧ St M (As) w' ∧ v = vb r := by
  refine CallsR.mono ((w_law28_GossipSpreads hm).2 none0 m As w [a0v0, a1v0] (.cons (.d (Br.toS b_api_Pool a0h0)) (.cons (.d (Br.toS b_a2_eI a1h0)) .nil)) (fun n h => absurd rfl h) S) ?_
  rintro v w' ⟨M, η', r', obs', n1, hle, _, ⟨rfl, rfl, rfl⟩, hdom, hR, S'⟩
  obtain rfl := hR.t_inv
  exact ⟨M, hle, S', rfl⟩
theorem v_law28_GossipAll {m : Mem} {As : List Ow} {w : World} {a0 : List g_api_Pool} {a0v0 : Value} {r : Bool} (S : St m As w) (a0h0 : SlR m a0v0 a0) (hm : m_law28_GossipAll a0 = some r) :
    CallsR prog 6 #[a0v0] w fun v w' => ∃ (M : Mem), m ≤ M ∧ St M (As) w' ∧ v = vb r := by
  refine CallsR.mono ((w_law28_GossipAll hm).2 none0 m As w [a0v0] (.cons (.d (Br.toS b_api_Pool a0h0)) .nil) (fun n h => absurd rfl h) S) ?_
  rintro v w' ⟨M, η', r', obs', n1, hle, _, ⟨rfl, rfl, rfl⟩, hdom, hR, S'⟩
  obtain rfl := hR.t_inv
  exact ⟨M, hle, S', rfl⟩
theorem v_law28_GossipForks {m : Mem} {As : List Ow} {w : World} {a0 : List g_api_Pool} {a0v0 : Value} {a1 : Int} {a2 : Int} {a3 : Int} {a4 : Int} {r : Bool} (S : St m As w) (a0h0 : SlR m a0v0 a0) (hm : m_law28_GossipForks a0 a1 a2 a3 a4 = some r) :
    CallsR prog 7 #[a0v0, vI a1, vI a2, vI a3, vI a4] w fun v w' => ∃ (M : Mem), m ≤ M ∧ St M (As) w' ∧ v = vb r := by
  refine CallsR.mono ((w_law28_GossipForks hm).2 none0 m As w [a0v0, vI a1, vI a2, vI a3, vI a4] (.cons (.d (Br.toS b_api_Pool a0h0)) (.cons (.d (.i _)) (.cons (.d (.i _)) (.cons (.d (.i _)) (.cons (.d (.i _)) .nil))))) (fun n h => absurd rfl h) S) ?_
  rintro v w' ⟨M, η', r', obs', n1, hle, _, ⟨rfl, rfl, rfl⟩, hdom, hR, S'⟩
  obtain rfl := hR.t_inv
  exact ⟨M, hle, S', rfl⟩
theorem v_law28_GossipMerges {m : Mem} {As : List Ow} {w : World} {a0 : g_api_Pool} {a0v0 : Value} {a1 : g_api_Pool} {a1v0 : Value} {a2 : g_api_Pool} {a2v0 : Value} {r : Bool} (S : St m As w) (a0h0 : SlR m a0v0 a0.L) (a1h0 : SlR m a1v0 a1.L) (a2h0 : SlR m a2v0 a2.L) (hm : m_law28_GossipMerges a0 a1 a2 = some r) :
    CallsR prog 8 #[.agg #[a0v0], .agg #[a1v0], .agg #[a2v0]] w fun v w' => ∃ (M : Mem), m ≤ M ∧ St M (As) w' ∧ v = vb r := by
  refine CallsR.mono ((w_law28_GossipMerges hm).2 none0 m As w [.agg #[a0v0], .agg #[a1v0], .agg #[a2v0]] (.cons (Br.toA b_api_Pool (mk_g_api_Pool a0h0)) (.cons (Br.toA b_api_Pool (mk_g_api_Pool a1h0)) (.cons (Br.toA b_api_Pool (mk_g_api_Pool a2h0)) .nil))) (fun n h => absurd rfl h) S) ?_
  rintro v w' ⟨M, η', r', obs', n1, hle, _, ⟨rfl, rfl, rfl⟩, hdom, hR, S'⟩
  obtain rfl := hR.t_inv
  exact ⟨M, hle, S', rfl⟩
theorem v_law28_GossipLasts {m : Mem} {As : List Ow} {w : World} {a0 : g_api_Pool} {a0v0 : Value} {a1 : Int} {r : Bool} (S : St m As w) (a0h0 : SlR m a0v0 a0.L) (hm : m_law28_GossipLasts a0 a1 = some r) :
    CallsR prog 9 #[.agg #[a0v0], vI a1] w fun v w' => ∃ (M : Mem), m ≤ M ∧ St M (As) w' ∧ v = vb r := by
  refine CallsR.mono ((w_law28_GossipLasts hm).2 none0 m As w [.agg #[a0v0], vI a1] (.cons (Br.toA b_api_Pool (mk_g_api_Pool a0h0)) (.cons (.d (.i _)) .nil)) (fun n h => absurd rfl h) S) ?_
  rintro v w' ⟨M, η', r', obs', n1, hle, _, ⟨rfl, rfl, rfl⟩, hdom, hR, S'⟩
  obtain rfl := hR.t_inv
  exact ⟨M, hle, S', rfl⟩
theorem v_law28_GossipRight {m : Mem} {As : List Ow} {w : World} {a0 : g_api_Pool} {a0v0 : Value} {a1 : g_api_Pool} {a1v0 : Value} {a2 : g_api_Head} {a3 : List g_api_Key} {a3v0 : Value} {r : Bool} (S : St m As w) (a0h0 : SlR m a0v0 a0.L) (a1h0 : SlR m a1v0 a1.L) (a3h0 : SlR m a3v0 a3) (hm : m_law28_GossipRight a0 a1 a2 a3 = some r) :
    CallsR prog 10 #[.agg #[a0v0], .agg #[a1v0], .agg #[vI a2.Log, vI a2.Size, vU a2.Root.1, vU a2.Root.2, vI a2.At, vU a2.Sig.E, vU a2.Sig.S], a3v0] w fun v w' => ∃ (M : Mem), m ≤ M ∧ St M (As) w' ∧ v = vb r := by
  refine CallsR.mono ((w_law28_GossipRight hm).2 none0 m As w [.agg #[a0v0], .agg #[a1v0], .agg #[vI a2.Log, vI a2.Size, vU a2.Root.1, vU a2.Root.2, vI a2.At, vU a2.Sig.E, vU a2.Sig.S], a3v0] (.cons (Br.toA b_api_Pool (mk_g_api_Pool a0h0)) (.cons (Br.toA b_api_Pool (mk_g_api_Pool a1h0)) (.cons (Br.toA b_api_Head (mk_g_api_Head)) (.cons (.d (Br.toS b_api_Key a3h0)) .nil)))) (fun n h => absurd rfl h) S) ?_
  rintro v w' ⟨M, η', r', obs', n1, hle, _, ⟨rfl, rfl, rfl⟩, hdom, hR, S'⟩
  obtain rfl := hR.t_inv
  exact ⟨M, hle, S', rfl⟩
end Go.Proofs.YtgnklegamndglaaGreat
