/-
  No cell of these rows narrows 'for every input' (looked for: loops, veiled, ifaces, maps, wideKeys, modest, calm, conditions, laid).
  DERIVED. THE GIVEN ROWS OF THIS SEAT. 8 by the template 'for every input the law returns true; each argument reads behind the call as it read before'; 0 by the template 'total and deterministic' (their statements: YtgnklegamndglaaGreatTotals.lean).
  GIVEN WITH THE SEED: the statements are not yours to turn. If you find one false, say at which input.
  Laid BY PROGRAM, IN A SANDBOX (cutbox-rows.mjs): the forced cells as the released guide's own fill.sh prints them over the translation a19cd7d7b3f47ff1… (all of the seat's roots in one cut). By AI agents, Wed Nov 11 2026. No macro, syntax, notation, axiom, sorry.
-/
import Derived.Test.YtgnklegamndglaaGreatChecked
import GoSem.Claim
import GoSem.ClaimJoined
import GoSem.ClaimMapViews
import Derived.JoinedTies
import Derived.KernelRfl
namespace Go.Proofs.YtgnklegamndglaaGreat
/- THE CELL 'sum', in the pinned program and in every row, IS THE sha256 OF THE DUMP (.gsa) THAT YtgnklegamndglaaGreatProg.lean LOADS. Nothing in Lean hashes anything: it is a label: what it is worth is what the hold of that sum in a sandbox is worth. -/
noncomputable def Tryz.pinned : Pinned := { name := "ytgnklegamndglaagreat", sum := "a19cd7d7b3f47ff131d04a385d47870f1841361dcbe295bba2b12a0805180661", checked := Tryz.checked }
namespace Rows
def none {H : Type} : Left H := { results := [], args := [] }

/-- 'greatseallaw28.GossipAdds': WHATEVER THE INPUT: true; the input reads as it did. -/
def gossipAddsSpec : ChangeSpec := { name := "gossipAdds", fn := fun _ => fun
  | [d1, d2, d3] => { results := [.lit (.bool true)], args := [d1, d2, d3] }
  | _ => none }
def gossipAddsRow : OpenClaim := { program := "ytgnklegamndglaagreat", sum := "a19cd7d7b3f47ff131d04a385d47870f1841361dcbe295bba2b12a0805180661", func := "greatseal/greatseallaw28.GossipAdds", spec := "gossipAdds", inPlace := ["math/bits.Add64", "slices.overlaps[greatseal/api.Head]"], unfollowed := true, recurses := true, named := ["math/bits.divideError", "math/bits.overflowError"], apart := false }
def GossipAddsSaid : Prop := gossipAddsRow.holds Tryz.pinned (OpenSpec.ofChange gossipAddsSpec)

/-- ITS FALSE NEIGHBOUR: 'it returns false'. Refute it at one input. -/
def gossipAddsWrong : ChangeSpec := { name := "gossipAdds", fn := fun _ => fun
  | [d1, d2, d3] => { results := [.lit (.bool false)], args := [d1, d2, d3] }
  | _ => none }
def GossipAddsWrongFalsely : Prop := gossipAddsRow.holds Tryz.pinned (OpenSpec.ofChange gossipAddsWrong)

/-- 'greatseallaw28.GossipTells': WHATEVER THE INPUT: true; the input reads as it did. -/
def gossipTellsSpec : ChangeSpec := { name := "gossipTells", fn := fun _ => fun
  | [d1, d2, d3] => { results := [.lit (.bool true)], args := [d1, d2, d3] }
  | _ => none }
def gossipTellsRow : OpenClaim := { program := "ytgnklegamndglaagreat", sum := "a19cd7d7b3f47ff131d04a385d47870f1841361dcbe295bba2b12a0805180661", func := "greatseal/greatseallaw28.GossipTells", spec := "gossipTells", inPlace := ["math/bits.Add64", "slices.overlaps[greatseal/api.Head]"], unfollowed := true, recurses := true, named := ["math/bits.divideError", "math/bits.overflowError"], apart := false }
def GossipTellsSaid : Prop := gossipTellsRow.holds Tryz.pinned (OpenSpec.ofChange gossipTellsSpec)

/-- ITS FALSE NEIGHBOUR: 'it returns false'. Refute it at one input. -/
def gossipTellsWrong : ChangeSpec := { name := "gossipTells", fn := fun _ => fun
  | [d1, d2, d3] => { results := [.lit (.bool false)], args := [d1, d2, d3] }
  | _ => none }
def GossipTellsWrongFalsely : Prop := gossipTellsRow.holds Tryz.pinned (OpenSpec.ofChange gossipTellsWrong)

/-- 'greatseallaw28.GossipSpreads': WHATEVER THE INPUT: true; the input reads as it did. -/
def gossipSpreadsSpec : ChangeSpec := { name := "gossipSpreads", fn := fun _ => fun
  | [d1, d2] => { results := [.lit (.bool true)], args := [d1, d2] }
  | _ => none }
def gossipSpreadsRow : OpenClaim := { program := "ytgnklegamndglaagreat", sum := "a19cd7d7b3f47ff131d04a385d47870f1841361dcbe295bba2b12a0805180661", func := "greatseal/greatseallaw28.GossipSpreads", spec := "gossipSpreads", inPlace := ["math/bits.Add64", "slices.overlaps[greatseal/api.Head]"], unfollowed := true, recurses := true, named := ["math/bits.divideError", "math/bits.overflowError"], apart := false }
def GossipSpreadsSaid : Prop := gossipSpreadsRow.holds Tryz.pinned (OpenSpec.ofChange gossipSpreadsSpec)

/-- ITS FALSE NEIGHBOUR: 'it returns false'. Refute it at one input. -/
def gossipSpreadsWrong : ChangeSpec := { name := "gossipSpreads", fn := fun _ => fun
  | [d1, d2] => { results := [.lit (.bool false)], args := [d1, d2] }
  | _ => none }
def GossipSpreadsWrongFalsely : Prop := gossipSpreadsRow.holds Tryz.pinned (OpenSpec.ofChange gossipSpreadsWrong)

/-- 'greatseallaw28.GossipAll': WHATEVER THE INPUT: true; the input reads as it did. -/
def gossipAllSpec : ChangeSpec := { name := "gossipAll", fn := fun _ => fun
  | [d] => { results := [.lit (.bool true)], args := [d] }
  | _ => none }
def gossipAllRow : OpenClaim := { program := "ytgnklegamndglaagreat", sum := "a19cd7d7b3f47ff131d04a385d47870f1841361dcbe295bba2b12a0805180661", func := "greatseal/greatseallaw28.GossipAll", spec := "gossipAll", inPlace := ["math/bits.Add64", "slices.overlaps[greatseal/api.Head]"], unfollowed := true, recurses := true, named := ["math/bits.divideError", "math/bits.overflowError"], apart := false }
def GossipAllSaid : Prop := gossipAllRow.holds Tryz.pinned (OpenSpec.ofChange gossipAllSpec)

/-- ITS FALSE NEIGHBOUR: 'it returns false'. Refute it at one input. -/
def gossipAllWrong : ChangeSpec := { name := "gossipAll", fn := fun _ => fun
  | [d] => { results := [.lit (.bool false)], args := [d] }
  | _ => none }
def GossipAllWrongFalsely : Prop := gossipAllRow.holds Tryz.pinned (OpenSpec.ofChange gossipAllWrong)

/-- 'greatseallaw28.GossipForks': WHATEVER THE INPUT: true; the input reads as it did. -/
def gossipForksSpec : ChangeSpec := { name := "gossipForks", fn := fun _ => fun
  | [d1, d2, d3, d4, d5] => { results := [.lit (.bool true)], args := [d1, d2, d3, d4, d5] }
  | _ => none }
def gossipForksRow : OpenClaim := { program := "ytgnklegamndglaagreat", sum := "a19cd7d7b3f47ff131d04a385d47870f1841361dcbe295bba2b12a0805180661", func := "greatseal/greatseallaw28.GossipForks", spec := "gossipForks", inPlace := ["math/bits.Add64", "slices.overlaps[greatseal/api.Head]"], unfollowed := true, recurses := true, named := ["math/bits.divideError", "math/bits.overflowError"], apart := false }
def GossipForksSaid : Prop := gossipForksRow.holds Tryz.pinned (OpenSpec.ofChange gossipForksSpec)

/-- ITS FALSE NEIGHBOUR: 'it returns false'. Refute it at one input. -/
def gossipForksWrong : ChangeSpec := { name := "gossipForks", fn := fun _ => fun
  | [d1, d2, d3, d4, d5] => { results := [.lit (.bool false)], args := [d1, d2, d3, d4, d5] }
  | _ => none }
def GossipForksWrongFalsely : Prop := gossipForksRow.holds Tryz.pinned (OpenSpec.ofChange gossipForksWrong)

/-- 'greatseallaw28.GossipMerges': WHATEVER THE INPUT: true; the input reads as it did. -/
def gossipMergesSpec : ChangeSpec := { name := "gossipMerges", fn := fun _ => fun
  | [d1, d2, d3] => { results := [.lit (.bool true)], args := [d1, d2, d3] }
  | _ => none }
def gossipMergesRow : OpenClaim := { program := "ytgnklegamndglaagreat", sum := "a19cd7d7b3f47ff131d04a385d47870f1841361dcbe295bba2b12a0805180661", func := "greatseal/greatseallaw28.GossipMerges", spec := "gossipMerges", inPlace := ["math/bits.Add64", "slices.overlaps[greatseal/api.Head]"], unfollowed := true, recurses := true, named := ["math/bits.divideError", "math/bits.overflowError"], apart := false }
def GossipMergesSaid : Prop := gossipMergesRow.holds Tryz.pinned (OpenSpec.ofChange gossipMergesSpec)

/-- ITS FALSE NEIGHBOUR: 'it returns false'. Refute it at one input. -/
def gossipMergesWrong : ChangeSpec := { name := "gossipMerges", fn := fun _ => fun
  | [d1, d2, d3] => { results := [.lit (.bool false)], args := [d1, d2, d3] }
  | _ => none }
def GossipMergesWrongFalsely : Prop := gossipMergesRow.holds Tryz.pinned (OpenSpec.ofChange gossipMergesWrong)

/-- 'greatseallaw28.GossipLasts': WHATEVER THE INPUT: true; the input reads as it did. -/
def gossipLastsSpec : ChangeSpec := { name := "gossipLasts", fn := fun _ => fun
  | [d1, d2] => { results := [.lit (.bool true)], args := [d1, d2] }
  | _ => none }
def gossipLastsRow : OpenClaim := { program := "ytgnklegamndglaagreat", sum := "a19cd7d7b3f47ff131d04a385d47870f1841361dcbe295bba2b12a0805180661", func := "greatseal/greatseallaw28.GossipLasts", spec := "gossipLasts", inPlace := ["math/bits.Add64", "slices.overlaps[greatseal/api.Head]"], unfollowed := true, recurses := true, named := ["math/bits.divideError", "math/bits.overflowError"], apart := false }
def GossipLastsSaid : Prop := gossipLastsRow.holds Tryz.pinned (OpenSpec.ofChange gossipLastsSpec)

/-- ITS FALSE NEIGHBOUR: 'it returns false'. Refute it at one input. -/
def gossipLastsWrong : ChangeSpec := { name := "gossipLasts", fn := fun _ => fun
  | [d1, d2] => { results := [.lit (.bool false)], args := [d1, d2] }
  | _ => none }
def GossipLastsWrongFalsely : Prop := gossipLastsRow.holds Tryz.pinned (OpenSpec.ofChange gossipLastsWrong)

/-- 'greatseallaw28.GossipRight': WHATEVER THE INPUT: true; the input reads as it did. -/
def gossipRightSpec : ChangeSpec := { name := "gossipRight", fn := fun _ => fun
  | [d1, d2, d3, d4] => { results := [.lit (.bool true)], args := [d1, d2, d3, d4] }
  | _ => none }
def gossipRightRow : OpenClaim := { program := "ytgnklegamndglaagreat", sum := "a19cd7d7b3f47ff131d04a385d47870f1841361dcbe295bba2b12a0805180661", func := "greatseal/greatseallaw28.GossipRight", spec := "gossipRight", inPlace := ["math/bits.Add64", "slices.overlaps[greatseal/api.Head]"], unfollowed := true, recurses := true, named := ["math/bits.divideError", "math/bits.overflowError"], apart := false }
def GossipRightSaid : Prop := gossipRightRow.holds Tryz.pinned (OpenSpec.ofChange gossipRightSpec)

/-- ITS FALSE NEIGHBOUR: 'it returns false'. Refute it at one input. -/
def gossipRightWrong : ChangeSpec := { name := "gossipRight", fn := fun _ => fun
  | [d1, d2, d3, d4] => { results := [.lit (.bool false)], args := [d1, d2, d3, d4] }
  | _ => none }
def GossipRightWrongFalsely : Prop := gossipRightRow.holds Tryz.pinned (OpenSpec.ofChange gossipRightWrong)

/- THE SECOND FORM. 'bulk': how many values and letters a reading holds, each counted each time it is reached (what is shared counts as often as it is met; a slice's spare places count too). A statement '..UptoSaid' is the law's where the arguments, and the package variables that the reading takes, are together of bulk at most 1048576: NARROWER than '..Said'. Prove '..Said' where nothing that the law and all that it calls make is longer than what came in: it says more and counts as full. Else prove '..UptoSaid'. A law counts once. -/
mutual
def uptoBulk {H : Type} : DataW H → Nat
  | .lit (.string bytes) => bytes.length + 1
  | .lit _ => 1
  | .nil => 1
  | .ptr d => uptoBulk d + 1
  | .slice elems spare => uptoBulkAll elems + uptoBulkAll spare + 1
  | .agg parts => uptoBulkAll parts + 1
  | .iface _ d => uptoBulk d + 1
  | .map entries => uptoBulkEntries entries + 1
  | .held _ => 1
def uptoBulkAll {H : Type} : List (DataW H) → Nat
  | [] => 0
  | d :: r => uptoBulk d + uptoBulkAll r
def uptoBulkEntries {H : Type} : List (Lit × DataW H) → Nat
  | [] => 0
  | x :: r => uptoBulkEntry x + uptoBulkEntries r
def uptoBulkEntry {H : Type} : Lit × DataW H → Nat
  | (.string bytes, d) => bytes.length + uptoBulk d + 1
  | (_, d) => uptoBulk d + 1
 end
def uptoSmall : (H : Type) → List (DataW H) → Bool := fun _ ds => decide (uptoBulkAll ds ≤ 1048576)
def OpenSpec.upto (s : _root_.Go.ChangeSpec) : _root_.Go.OpenSpec := { _root_.Go.OpenSpec.ofChange s with cond := some uptoSmall }

/-- 'greatseallaw28.GossipAdds', WHERE WHAT IT READS IS OF BULK AT MOST 1048576: true; the input reads as it did. -/
def gossipAddsUptoRow : OpenClaim := { program := "ytgnklegamndglaagreat", sum := "a19cd7d7b3f47ff131d04a385d47870f1841361dcbe295bba2b12a0805180661", func := "greatseal/greatseallaw28.GossipAdds", spec := "gossipAdds", inPlace := ["math/bits.Add64", "slices.overlaps[greatseal/api.Head]"], unfollowed := true, recurses := true, named := ["math/bits.divideError", "math/bits.overflowError"], apart := false, narrowed := true }
def GossipAddsUptoSaid : Prop := gossipAddsUptoRow.holds Tryz.pinned (OpenSpec.upto gossipAddsSpec)

/-- 'greatseallaw28.GossipTells', WHERE WHAT IT READS IS OF BULK AT MOST 1048576: true; the input reads as it did. -/
def gossipTellsUptoRow : OpenClaim := { program := "ytgnklegamndglaagreat", sum := "a19cd7d7b3f47ff131d04a385d47870f1841361dcbe295bba2b12a0805180661", func := "greatseal/greatseallaw28.GossipTells", spec := "gossipTells", inPlace := ["math/bits.Add64", "slices.overlaps[greatseal/api.Head]"], unfollowed := true, recurses := true, named := ["math/bits.divideError", "math/bits.overflowError"], apart := false, narrowed := true }
def GossipTellsUptoSaid : Prop := gossipTellsUptoRow.holds Tryz.pinned (OpenSpec.upto gossipTellsSpec)

/-- 'greatseallaw28.GossipSpreads', WHERE WHAT IT READS IS OF BULK AT MOST 1048576: true; the input reads as it did. -/
def gossipSpreadsUptoRow : OpenClaim := { program := "ytgnklegamndglaagreat", sum := "a19cd7d7b3f47ff131d04a385d47870f1841361dcbe295bba2b12a0805180661", func := "greatseal/greatseallaw28.GossipSpreads", spec := "gossipSpreads", inPlace := ["math/bits.Add64", "slices.overlaps[greatseal/api.Head]"], unfollowed := true, recurses := true, named := ["math/bits.divideError", "math/bits.overflowError"], apart := false, narrowed := true }
def GossipSpreadsUptoSaid : Prop := gossipSpreadsUptoRow.holds Tryz.pinned (OpenSpec.upto gossipSpreadsSpec)

/-- 'greatseallaw28.GossipAll', WHERE WHAT IT READS IS OF BULK AT MOST 1048576: true; the input reads as it did. -/
def gossipAllUptoRow : OpenClaim := { program := "ytgnklegamndglaagreat", sum := "a19cd7d7b3f47ff131d04a385d47870f1841361dcbe295bba2b12a0805180661", func := "greatseal/greatseallaw28.GossipAll", spec := "gossipAll", inPlace := ["math/bits.Add64", "slices.overlaps[greatseal/api.Head]"], unfollowed := true, recurses := true, named := ["math/bits.divideError", "math/bits.overflowError"], apart := false, narrowed := true }
def GossipAllUptoSaid : Prop := gossipAllUptoRow.holds Tryz.pinned (OpenSpec.upto gossipAllSpec)

/-- 'greatseallaw28.GossipForks', WHERE WHAT IT READS IS OF BULK AT MOST 1048576: true; the input reads as it did. -/
def gossipForksUptoRow : OpenClaim := { program := "ytgnklegamndglaagreat", sum := "a19cd7d7b3f47ff131d04a385d47870f1841361dcbe295bba2b12a0805180661", func := "greatseal/greatseallaw28.GossipForks", spec := "gossipForks", inPlace := ["math/bits.Add64", "slices.overlaps[greatseal/api.Head]"], unfollowed := true, recurses := true, named := ["math/bits.divideError", "math/bits.overflowError"], apart := false, narrowed := true }
def GossipForksUptoSaid : Prop := gossipForksUptoRow.holds Tryz.pinned (OpenSpec.upto gossipForksSpec)

/-- 'greatseallaw28.GossipMerges', WHERE WHAT IT READS IS OF BULK AT MOST 1048576: true; the input reads as it did. -/
def gossipMergesUptoRow : OpenClaim := { program := "ytgnklegamndglaagreat", sum := "a19cd7d7b3f47ff131d04a385d47870f1841361dcbe295bba2b12a0805180661", func := "greatseal/greatseallaw28.GossipMerges", spec := "gossipMerges", inPlace := ["math/bits.Add64", "slices.overlaps[greatseal/api.Head]"], unfollowed := true, recurses := true, named := ["math/bits.divideError", "math/bits.overflowError"], apart := false, narrowed := true }
def GossipMergesUptoSaid : Prop := gossipMergesUptoRow.holds Tryz.pinned (OpenSpec.upto gossipMergesSpec)

/-- 'greatseallaw28.GossipLasts', WHERE WHAT IT READS IS OF BULK AT MOST 1048576: true; the input reads as it did. -/
def gossipLastsUptoRow : OpenClaim := { program := "ytgnklegamndglaagreat", sum := "a19cd7d7b3f47ff131d04a385d47870f1841361dcbe295bba2b12a0805180661", func := "greatseal/greatseallaw28.GossipLasts", spec := "gossipLasts", inPlace := ["math/bits.Add64", "slices.overlaps[greatseal/api.Head]"], unfollowed := true, recurses := true, named := ["math/bits.divideError", "math/bits.overflowError"], apart := false, narrowed := true }
def GossipLastsUptoSaid : Prop := gossipLastsUptoRow.holds Tryz.pinned (OpenSpec.upto gossipLastsSpec)

/-- 'greatseallaw28.GossipRight', WHERE WHAT IT READS IS OF BULK AT MOST 1048576: true; the input reads as it did. -/
def gossipRightUptoRow : OpenClaim := { program := "ytgnklegamndglaagreat", sum := "a19cd7d7b3f47ff131d04a385d47870f1841361dcbe295bba2b12a0805180661", func := "greatseal/greatseallaw28.GossipRight", spec := "gossipRight", inPlace := ["math/bits.Add64", "slices.overlaps[greatseal/api.Head]"], unfollowed := true, recurses := true, named := ["math/bits.divideError", "math/bits.overflowError"], apart := false, narrowed := true }
def GossipRightUptoSaid : Prop := gossipRightUptoRow.holds Tryz.pinned (OpenSpec.upto gossipRightSpec)

end Rows
end Go.Proofs.YtgnklegamndglaaGreat
