/-
  NARROWER THAN 'FOR EVERY INPUT', by the rows' own cells (each row's printed sentence says how): MerkleRoots: laid · MerkleProves: laid · MerkleGrows: laid · MerkleIn: laid · MerkleGrown: laid · MerkleFooled: laid · MerkleSame: laid · MerkleHalves: laid · MerkleTold: laid.
  DERIVED. THE GIVEN ROWS OF THIS SEAT. 9 by the template 'for every input the law returns true; each argument reads behind the call as it read before'; 0 by the template 'total and deterministic' (their statements: YtohipjalgccmnaaDoorTotals.lean).
  GIVEN WITH THE SEED: the statements are not yours to turn. If you find one false, say at which input.
  Laid BY PROGRAM, IN A SANDBOX (cutbox-rows.mjs): the forced cells as the released guide's own fill.sh prints them over the translation 66d5ad0ed21198ff… (all of the seat's roots in one cut). By AI agents, Wed Nov 11 2026. No macro, syntax, notation, axiom, sorry.
-/
import Derived.Test.YtohipjalgccmnaaDoorChecked
import GoSem.Claim
import GoSem.ClaimJoined
import GoSem.ClaimMapViews
import Derived.JoinedTies
import Derived.KernelRfl
namespace Go.Proofs.YtohipjalgccmnaaDoor
/- THE CELL 'sum', in the pinned program and in every row, IS THE sha256 OF THE DUMP (.gsa) THAT YtohipjalgccmnaaDoorProg.lean LOADS. Nothing in Lean hashes anything: it is a label: what it is worth is what the hold of that sum in a sandbox is worth. -/
noncomputable def Tryd.pinned : Pinned := { name := "ytohipjalgccmnaadoor", sum := "66d5ad0ed21198ff45526b2154f1980684a31ad6c6ac6d0d0b2889aa9b4637dd", checked := Tryd.checked }
namespace Rows
def none {H : Type} : Left H := { results := [], args := [] }

/- WHAT THE LISTED PACKAGE-LEVEL VARIABLES READ AS WHEN THE CALL BEGINS. Each datum BY PROGRAM (the guide's laid-datum.mjs) off the statement by which the dump's own 'gosem.cut.vars' lays the variable. In a bare row this is a premise. The card (YtohipjalgccmnaaDoorCards.lean) ties it to the program's text. -/
def laid_math_bits_deBruijn32tab {H : Type} : DataW H := .agg [.lit (.int .u8 0), .lit (.int .u8 1), .lit (.int .u8 28), .lit (.int .u8 2), .lit (.int .u8 29), .lit (.int .u8 14), .lit (.int .u8 24), .lit (.int .u8 3), .lit (.int .u8 30), .lit (.int .u8 22), .lit (.int .u8 20), .lit (.int .u8 15), .lit (.int .u8 25), .lit (.int .u8 17), .lit (.int .u8 4), .lit (.int .u8 8), .lit (.int .u8 31), .lit (.int .u8 27), .lit (.int .u8 13), .lit (.int .u8 23), .lit (.int .u8 21), .lit (.int .u8 19), .lit (.int .u8 16), .lit (.int .u8 7), .lit (.int .u8 26), .lit (.int .u8 12), .lit (.int .u8 18), .lit (.int .u8 6), .lit (.int .u8 11), .lit (.int .u8 5), .lit (.int .u8 10), .lit (.int .u8 9)]
def laid_math_bits_deBruijn64tab {H : Type} : DataW H := .agg [.lit (.int .u8 0), .lit (.int .u8 1), .lit (.int .u8 56), .lit (.int .u8 2), .lit (.int .u8 57), .lit (.int .u8 49), .lit (.int .u8 28), .lit (.int .u8 3), .lit (.int .u8 61), .lit (.int .u8 58), .lit (.int .u8 42), .lit (.int .u8 50), .lit (.int .u8 38), .lit (.int .u8 29), .lit (.int .u8 17), .lit (.int .u8 4), .lit (.int .u8 62), .lit (.int .u8 47), .lit (.int .u8 59), .lit (.int .u8 36), .lit (.int .u8 45), .lit (.int .u8 43), .lit (.int .u8 51), .lit (.int .u8 22), .lit (.int .u8 53), .lit (.int .u8 39), .lit (.int .u8 33), .lit (.int .u8 30), .lit (.int .u8 24), .lit (.int .u8 18), .lit (.int .u8 12), .lit (.int .u8 5), .lit (.int .u8 63), .lit (.int .u8 55), .lit (.int .u8 48), .lit (.int .u8 27), .lit (.int .u8 60), .lit (.int .u8 41), .lit (.int .u8 37), .lit (.int .u8 16), .lit (.int .u8 46), .lit (.int .u8 35), .lit (.int .u8 44), .lit (.int .u8 21), .lit (.int .u8 52), .lit (.int .u8 32), .lit (.int .u8 23), .lit (.int .u8 11), .lit (.int .u8 54), .lit (.int .u8 26), .lit (.int .u8 40), .lit (.int .u8 15), .lit (.int .u8 34), .lit (.int .u8 20), .lit (.int .u8 31), .lit (.int .u8 10), .lit (.int .u8 25), .lit (.int .u8 14), .lit (.int .u8 19), .lit (.int .u8 9), .lit (.int .u8 13), .lit (.int .u8 8), .lit (.int .u8 7), .lit (.int .u8 6)]

/-- 'greatseallaw08.MerkleRoots': WHATEVER THE INPUT: true; the input reads as it did. -/
def merkleRootsSpec : ChangeSpec := { name := "merkleRoots", fn := fun _ => fun
  | [d1, d2] => { results := [.lit (.bool true)], args := [d1, d2] }
  | _ => none }
def merkleRootsRow : OpenClaim := { program := "ytohipjalgccmnaadoor", sum := "66d5ad0ed21198ff45526b2154f1980684a31ad6c6ac6d0d0b2889aa9b4637dd", func := "greatseal/greatseallaw08.MerkleRoots", spec := "merkleRoots", unfollowed := true, recurses := true, named := ["math/bits.deBruijn32tab", "math/bits.deBruijn64tab"], apart := false, laid := [("math/bits.deBruijn32tab", laid_math_bits_deBruijn32tab), ("math/bits.deBruijn64tab", laid_math_bits_deBruijn64tab)] }
def MerkleRootsSaid : Prop := merkleRootsRow.holds Tryd.pinned (OpenSpec.ofChange merkleRootsSpec)

/-- ITS FALSE NEIGHBOUR: 'it returns false'. Refute it at one input. -/
def merkleRootsWrong : ChangeSpec := { name := "merkleRoots", fn := fun _ => fun
  | [d1, d2] => { results := [.lit (.bool false)], args := [d1, d2] }
  | _ => none }
def MerkleRootsWrongFalsely : Prop := merkleRootsRow.holds Tryd.pinned (OpenSpec.ofChange merkleRootsWrong)

/-- 'greatseallaw08.MerkleProves': WHATEVER THE INPUT: true; the input reads as it did. -/
def merkleProvesSpec : ChangeSpec := { name := "merkleProves", fn := fun _ => fun
  | [d1, d2, d3, d4, d5, d6] => { results := [.lit (.bool true)], args := [d1, d2, d3, d4, d5, d6] }
  | _ => none }
def merkleProvesRow : OpenClaim := { program := "ytohipjalgccmnaadoor", sum := "66d5ad0ed21198ff45526b2154f1980684a31ad6c6ac6d0d0b2889aa9b4637dd", func := "greatseal/greatseallaw08.MerkleProves", spec := "merkleProves", unfollowed := true, recurses := true, named := ["math/bits.deBruijn32tab", "math/bits.deBruijn64tab"], apart := false, laid := [("math/bits.deBruijn32tab", laid_math_bits_deBruijn32tab), ("math/bits.deBruijn64tab", laid_math_bits_deBruijn64tab)] }
def MerkleProvesSaid : Prop := merkleProvesRow.holds Tryd.pinned (OpenSpec.ofChange merkleProvesSpec)

/-- ITS FALSE NEIGHBOUR: 'it returns false'. Refute it at one input. -/
def merkleProvesWrong : ChangeSpec := { name := "merkleProves", fn := fun _ => fun
  | [d1, d2, d3, d4, d5, d6] => { results := [.lit (.bool false)], args := [d1, d2, d3, d4, d5, d6] }
  | _ => none }
def MerkleProvesWrongFalsely : Prop := merkleProvesRow.holds Tryd.pinned (OpenSpec.ofChange merkleProvesWrong)

/-- 'greatseallaw08.MerkleGrows': WHATEVER THE INPUT: true; the input reads as it did. -/
def merkleGrowsSpec : ChangeSpec := { name := "merkleGrows", fn := fun _ => fun
  | [d1, d2, d3, d4, d5, d6] => { results := [.lit (.bool true)], args := [d1, d2, d3, d4, d5, d6] }
  | _ => none }
def merkleGrowsRow : OpenClaim := { program := "ytohipjalgccmnaadoor", sum := "66d5ad0ed21198ff45526b2154f1980684a31ad6c6ac6d0d0b2889aa9b4637dd", func := "greatseal/greatseallaw08.MerkleGrows", spec := "merkleGrows", unfollowed := true, recurses := true, named := ["math/bits.deBruijn32tab", "math/bits.deBruijn64tab"], apart := false, laid := [("math/bits.deBruijn32tab", laid_math_bits_deBruijn32tab), ("math/bits.deBruijn64tab", laid_math_bits_deBruijn64tab)] }
def MerkleGrowsSaid : Prop := merkleGrowsRow.holds Tryd.pinned (OpenSpec.ofChange merkleGrowsSpec)

/-- ITS FALSE NEIGHBOUR: 'it returns false'. Refute it at one input. -/
def merkleGrowsWrong : ChangeSpec := { name := "merkleGrows", fn := fun _ => fun
  | [d1, d2, d3, d4, d5, d6] => { results := [.lit (.bool false)], args := [d1, d2, d3, d4, d5, d6] }
  | _ => none }
def MerkleGrowsWrongFalsely : Prop := merkleGrowsRow.holds Tryd.pinned (OpenSpec.ofChange merkleGrowsWrong)

/-- 'greatseallaw08.MerkleIn': WHATEVER THE INPUT: true; the input reads as it did. -/
def merkleInSpec : ChangeSpec := { name := "merkleIn", fn := fun _ => fun
  | [d1, d2] => { results := [.lit (.bool true)], args := [d1, d2] }
  | _ => none }
def merkleInRow : OpenClaim := { program := "ytohipjalgccmnaadoor", sum := "66d5ad0ed21198ff45526b2154f1980684a31ad6c6ac6d0d0b2889aa9b4637dd", func := "greatseal/greatseallaw08.MerkleIn", spec := "merkleIn", unfollowed := true, recurses := true, named := ["math/bits.deBruijn32tab", "math/bits.deBruijn64tab"], apart := false, laid := [("math/bits.deBruijn32tab", laid_math_bits_deBruijn32tab), ("math/bits.deBruijn64tab", laid_math_bits_deBruijn64tab)] }
def MerkleInSaid : Prop := merkleInRow.holds Tryd.pinned (OpenSpec.ofChange merkleInSpec)

/-- ITS FALSE NEIGHBOUR: 'it returns false'. Refute it at one input. -/
def merkleInWrong : ChangeSpec := { name := "merkleIn", fn := fun _ => fun
  | [d1, d2] => { results := [.lit (.bool false)], args := [d1, d2] }
  | _ => none }
def MerkleInWrongFalsely : Prop := merkleInRow.holds Tryd.pinned (OpenSpec.ofChange merkleInWrong)

/-- 'greatseallaw08.MerkleGrown': WHATEVER THE INPUT: true; the input reads as it did. -/
def merkleGrownSpec : ChangeSpec := { name := "merkleGrown", fn := fun _ => fun
  | [d1, d2] => { results := [.lit (.bool true)], args := [d1, d2] }
  | _ => none }
def merkleGrownRow : OpenClaim := { program := "ytohipjalgccmnaadoor", sum := "66d5ad0ed21198ff45526b2154f1980684a31ad6c6ac6d0d0b2889aa9b4637dd", func := "greatseal/greatseallaw08.MerkleGrown", spec := "merkleGrown", unfollowed := true, recurses := true, named := ["math/bits.deBruijn32tab", "math/bits.deBruijn64tab"], apart := false, laid := [("math/bits.deBruijn32tab", laid_math_bits_deBruijn32tab), ("math/bits.deBruijn64tab", laid_math_bits_deBruijn64tab)] }
def MerkleGrownSaid : Prop := merkleGrownRow.holds Tryd.pinned (OpenSpec.ofChange merkleGrownSpec)

/-- ITS FALSE NEIGHBOUR: 'it returns false'. Refute it at one input. -/
def merkleGrownWrong : ChangeSpec := { name := "merkleGrown", fn := fun _ => fun
  | [d1, d2] => { results := [.lit (.bool false)], args := [d1, d2] }
  | _ => none }
def MerkleGrownWrongFalsely : Prop := merkleGrownRow.holds Tryd.pinned (OpenSpec.ofChange merkleGrownWrong)

/-- 'greatseallaw08.MerkleFooled': WHATEVER THE INPUT: true; the input reads as it did. -/
def merkleFooledSpec : ChangeSpec := { name := "merkleFooled", fn := fun _ => fun
  | [d1, d2, d3, d4] => { results := [.lit (.bool true)], args := [d1, d2, d3, d4] }
  | _ => none }
def merkleFooledRow : OpenClaim := { program := "ytohipjalgccmnaadoor", sum := "66d5ad0ed21198ff45526b2154f1980684a31ad6c6ac6d0d0b2889aa9b4637dd", func := "greatseal/greatseallaw08.MerkleFooled", spec := "merkleFooled", unfollowed := true, recurses := true, named := ["math/bits.deBruijn32tab", "math/bits.deBruijn64tab"], apart := false, laid := [("math/bits.deBruijn32tab", laid_math_bits_deBruijn32tab), ("math/bits.deBruijn64tab", laid_math_bits_deBruijn64tab)] }
def MerkleFooledSaid : Prop := merkleFooledRow.holds Tryd.pinned (OpenSpec.ofChange merkleFooledSpec)

/-- ITS FALSE NEIGHBOUR: 'it returns false'. Refute it at one input. -/
def merkleFooledWrong : ChangeSpec := { name := "merkleFooled", fn := fun _ => fun
  | [d1, d2, d3, d4] => { results := [.lit (.bool false)], args := [d1, d2, d3, d4] }
  | _ => none }
def MerkleFooledWrongFalsely : Prop := merkleFooledRow.holds Tryd.pinned (OpenSpec.ofChange merkleFooledWrong)

/-- 'greatseallaw08.MerkleSame': WHATEVER THE INPUT: true; the input reads as it did. -/
def merkleSameSpec : ChangeSpec := { name := "merkleSame", fn := fun _ => fun
  | [d1, d2, d3, d4] => { results := [.lit (.bool true)], args := [d1, d2, d3, d4] }
  | _ => none }
def merkleSameRow : OpenClaim := { program := "ytohipjalgccmnaadoor", sum := "66d5ad0ed21198ff45526b2154f1980684a31ad6c6ac6d0d0b2889aa9b4637dd", func := "greatseal/greatseallaw08.MerkleSame", spec := "merkleSame", unfollowed := true, recurses := true, named := ["math/bits.deBruijn32tab", "math/bits.deBruijn64tab"], apart := false, laid := [("math/bits.deBruijn32tab", laid_math_bits_deBruijn32tab), ("math/bits.deBruijn64tab", laid_math_bits_deBruijn64tab)] }
def MerkleSameSaid : Prop := merkleSameRow.holds Tryd.pinned (OpenSpec.ofChange merkleSameSpec)

/-- ITS FALSE NEIGHBOUR: 'it returns false'. Refute it at one input. -/
def merkleSameWrong : ChangeSpec := { name := "merkleSame", fn := fun _ => fun
  | [d1, d2, d3, d4] => { results := [.lit (.bool false)], args := [d1, d2, d3, d4] }
  | _ => none }
def MerkleSameWrongFalsely : Prop := merkleSameRow.holds Tryd.pinned (OpenSpec.ofChange merkleSameWrong)

/-- 'greatseallaw08.MerkleHalves': WHATEVER THE INPUT: true; the input reads as it did. -/
def merkleHalvesSpec : ChangeSpec := { name := "merkleHalves", fn := fun _ => fun
  | [d1, d2, d3] => { results := [.lit (.bool true)], args := [d1, d2, d3] }
  | _ => none }
def merkleHalvesRow : OpenClaim := { program := "ytohipjalgccmnaadoor", sum := "66d5ad0ed21198ff45526b2154f1980684a31ad6c6ac6d0d0b2889aa9b4637dd", func := "greatseal/greatseallaw08.MerkleHalves", spec := "merkleHalves", unfollowed := true, recurses := true, named := ["math/bits.deBruijn32tab", "math/bits.deBruijn64tab"], apart := false, laid := [("math/bits.deBruijn32tab", laid_math_bits_deBruijn32tab), ("math/bits.deBruijn64tab", laid_math_bits_deBruijn64tab)] }
def MerkleHalvesSaid : Prop := merkleHalvesRow.holds Tryd.pinned (OpenSpec.ofChange merkleHalvesSpec)

/-- ITS FALSE NEIGHBOUR: 'it returns false'. Refute it at one input. -/
def merkleHalvesWrong : ChangeSpec := { name := "merkleHalves", fn := fun _ => fun
  | [d1, d2, d3] => { results := [.lit (.bool false)], args := [d1, d2, d3] }
  | _ => none }
def MerkleHalvesWrongFalsely : Prop := merkleHalvesRow.holds Tryd.pinned (OpenSpec.ofChange merkleHalvesWrong)

/-- 'greatseallaw08.MerkleTold': WHATEVER THE INPUT: true; the input reads as it did. -/
def merkleToldSpec : ChangeSpec := { name := "merkleTold", fn := fun _ => fun
  | [d1, d2, d3, d4, d5, d6] => { results := [.lit (.bool true)], args := [d1, d2, d3, d4, d5, d6] }
  | _ => none }
def merkleToldRow : OpenClaim := { program := "ytohipjalgccmnaadoor", sum := "66d5ad0ed21198ff45526b2154f1980684a31ad6c6ac6d0d0b2889aa9b4637dd", func := "greatseal/greatseallaw08.MerkleTold", spec := "merkleTold", unfollowed := true, recurses := true, named := ["math/bits.deBruijn32tab", "math/bits.deBruijn64tab"], apart := false, laid := [("math/bits.deBruijn32tab", laid_math_bits_deBruijn32tab), ("math/bits.deBruijn64tab", laid_math_bits_deBruijn64tab)] }
def MerkleToldSaid : Prop := merkleToldRow.holds Tryd.pinned (OpenSpec.ofChange merkleToldSpec)

/-- ITS FALSE NEIGHBOUR: 'it returns false'. Refute it at one input. -/
def merkleToldWrong : ChangeSpec := { name := "merkleTold", fn := fun _ => fun
  | [d1, d2, d3, d4, d5, d6] => { results := [.lit (.bool false)], args := [d1, d2, d3, d4, d5, d6] }
  | _ => none }
def MerkleToldWrongFalsely : Prop := merkleToldRow.holds Tryd.pinned (OpenSpec.ofChange merkleToldWrong)

/- THE SECOND FORM. 'bulk': how many values and letters a reading holds, each counted each time it is reached (what is shared counts as often as it is met; a slice's spare places count too). A statement '..UptoSaid' is the law's where the arguments, and the package variables that the reading takes, are together of bulk at most 1048576: NARROWER than '..Said'. Prove '..Said' where nothing that the law and all that it calls make is longer than what came in: it says more and counts as full. Else prove '..UptoSaid'. A law counts once. -/
mutual
def uptoBulk {H : Type} : DataW H → Nat
  | .lit (.string bytes) => bytes.length + 1
  | .lit _ => 1
  | .nil => 1
  | .ptr d => uptoBulk d + 1
  | .slice elems spare => uptoBulkAll elems + uptoBulkAll spare + 1
  | .agg parts => uptoBulkAll parts + 1
  | .iface _ d => uptoBulk d + 1
  | .map entries => uptoBulkEntries entries + 1
  | .held _ => 1
def uptoBulkAll {H : Type} : List (DataW H) → Nat
  | [] => 0
  | d :: r => uptoBulk d + uptoBulkAll r
def uptoBulkEntries {H : Type} : List (Lit × DataW H) → Nat
  | [] => 0
  | x :: r => uptoBulkEntry x + uptoBulkEntries r
def uptoBulkEntry {H : Type} : Lit × DataW H → Nat
  | (.string bytes, d) => bytes.length + uptoBulk d + 1
  | (_, d) => uptoBulk d + 1
 end
def uptoSmall : (H : Type) → List (DataW H) → Bool := fun _ ds => decide (uptoBulkAll ds ≤ 1048576)
def OpenSpec.upto (s : _root_.Go.ChangeSpec) : _root_.Go.OpenSpec := { _root_.Go.OpenSpec.ofChange s with cond := some uptoSmall }

/-- 'greatseallaw08.MerkleRoots', WHERE WHAT IT READS IS OF BULK AT MOST 1048576: true; the input reads as it did. -/
def merkleRootsUptoRow : OpenClaim := { program := "ytohipjalgccmnaadoor", sum := "66d5ad0ed21198ff45526b2154f1980684a31ad6c6ac6d0d0b2889aa9b4637dd", func := "greatseal/greatseallaw08.MerkleRoots", spec := "merkleRoots", unfollowed := true, recurses := true, named := ["math/bits.deBruijn32tab", "math/bits.deBruijn64tab"], apart := false, laid := [("math/bits.deBruijn32tab", laid_math_bits_deBruijn32tab), ("math/bits.deBruijn64tab", laid_math_bits_deBruijn64tab)], narrowed := true }
def MerkleRootsUptoSaid : Prop := merkleRootsUptoRow.holds Tryd.pinned (OpenSpec.upto merkleRootsSpec)

/-- 'greatseallaw08.MerkleProves', WHERE WHAT IT READS IS OF BULK AT MOST 1048576: true; the input reads as it did. -/
def merkleProvesUptoRow : OpenClaim := { program := "ytohipjalgccmnaadoor", sum := "66d5ad0ed21198ff45526b2154f1980684a31ad6c6ac6d0d0b2889aa9b4637dd", func := "greatseal/greatseallaw08.MerkleProves", spec := "merkleProves", unfollowed := true, recurses := true, named := ["math/bits.deBruijn32tab", "math/bits.deBruijn64tab"], apart := false, laid := [("math/bits.deBruijn32tab", laid_math_bits_deBruijn32tab), ("math/bits.deBruijn64tab", laid_math_bits_deBruijn64tab)], narrowed := true }
def MerkleProvesUptoSaid : Prop := merkleProvesUptoRow.holds Tryd.pinned (OpenSpec.upto merkleProvesSpec)

/-- 'greatseallaw08.MerkleGrows', WHERE WHAT IT READS IS OF BULK AT MOST 1048576: true; the input reads as it did. -/
def merkleGrowsUptoRow : OpenClaim := { program := "ytohipjalgccmnaadoor", sum := "66d5ad0ed21198ff45526b2154f1980684a31ad6c6ac6d0d0b2889aa9b4637dd", func := "greatseal/greatseallaw08.MerkleGrows", spec := "merkleGrows", unfollowed := true, recurses := true, named := ["math/bits.deBruijn32tab", "math/bits.deBruijn64tab"], apart := false, laid := [("math/bits.deBruijn32tab", laid_math_bits_deBruijn32tab), ("math/bits.deBruijn64tab", laid_math_bits_deBruijn64tab)], narrowed := true }
def MerkleGrowsUptoSaid : Prop := merkleGrowsUptoRow.holds Tryd.pinned (OpenSpec.upto merkleGrowsSpec)

/-- 'greatseallaw08.MerkleIn', WHERE WHAT IT READS IS OF BULK AT MOST 1048576: true; the input reads as it did. -/
def merkleInUptoRow : OpenClaim := { program := "ytohipjalgccmnaadoor", sum := "66d5ad0ed21198ff45526b2154f1980684a31ad6c6ac6d0d0b2889aa9b4637dd", func := "greatseal/greatseallaw08.MerkleIn", spec := "merkleIn", unfollowed := true, recurses := true, named := ["math/bits.deBruijn32tab", "math/bits.deBruijn64tab"], apart := false, laid := [("math/bits.deBruijn32tab", laid_math_bits_deBruijn32tab), ("math/bits.deBruijn64tab", laid_math_bits_deBruijn64tab)], narrowed := true }
def MerkleInUptoSaid : Prop := merkleInUptoRow.holds Tryd.pinned (OpenSpec.upto merkleInSpec)

/-- 'greatseallaw08.MerkleGrown', WHERE WHAT IT READS IS OF BULK AT MOST 1048576: true; the input reads as it did. -/
def merkleGrownUptoRow : OpenClaim := { program := "ytohipjalgccmnaadoor", sum := "66d5ad0ed21198ff45526b2154f1980684a31ad6c6ac6d0d0b2889aa9b4637dd", func := "greatseal/greatseallaw08.MerkleGrown", spec := "merkleGrown", unfollowed := true, recurses := true, named := ["math/bits.deBruijn32tab", "math/bits.deBruijn64tab"], apart := false, laid := [("math/bits.deBruijn32tab", laid_math_bits_deBruijn32tab), ("math/bits.deBruijn64tab", laid_math_bits_deBruijn64tab)], narrowed := true }
def MerkleGrownUptoSaid : Prop := merkleGrownUptoRow.holds Tryd.pinned (OpenSpec.upto merkleGrownSpec)

/-- 'greatseallaw08.MerkleFooled', WHERE WHAT IT READS IS OF BULK AT MOST 1048576: true; the input reads as it did. -/
def merkleFooledUptoRow : OpenClaim := { program := "ytohipjalgccmnaadoor", sum := "66d5ad0ed21198ff45526b2154f1980684a31ad6c6ac6d0d0b2889aa9b4637dd", func := "greatseal/greatseallaw08.MerkleFooled", spec := "merkleFooled", unfollowed := true, recurses := true, named := ["math/bits.deBruijn32tab", "math/bits.deBruijn64tab"], apart := false, laid := [("math/bits.deBruijn32tab", laid_math_bits_deBruijn32tab), ("math/bits.deBruijn64tab", laid_math_bits_deBruijn64tab)], narrowed := true }
def MerkleFooledUptoSaid : Prop := merkleFooledUptoRow.holds Tryd.pinned (OpenSpec.upto merkleFooledSpec)

/-- 'greatseallaw08.MerkleSame', WHERE WHAT IT READS IS OF BULK AT MOST 1048576: true; the input reads as it did. -/
def merkleSameUptoRow : OpenClaim := { program := "ytohipjalgccmnaadoor", sum := "66d5ad0ed21198ff45526b2154f1980684a31ad6c6ac6d0d0b2889aa9b4637dd", func := "greatseal/greatseallaw08.MerkleSame", spec := "merkleSame", unfollowed := true, recurses := true, named := ["math/bits.deBruijn32tab", "math/bits.deBruijn64tab"], apart := false, laid := [("math/bits.deBruijn32tab", laid_math_bits_deBruijn32tab), ("math/bits.deBruijn64tab", laid_math_bits_deBruijn64tab)], narrowed := true }
def MerkleSameUptoSaid : Prop := merkleSameUptoRow.holds Tryd.pinned (OpenSpec.upto merkleSameSpec)

/-- 'greatseallaw08.MerkleHalves', WHERE WHAT IT READS IS OF BULK AT MOST 1048576: true; the input reads as it did. -/
def merkleHalvesUptoRow : OpenClaim := { program := "ytohipjalgccmnaadoor", sum := "66d5ad0ed21198ff45526b2154f1980684a31ad6c6ac6d0d0b2889aa9b4637dd", func := "greatseal/greatseallaw08.MerkleHalves", spec := "merkleHalves", unfollowed := true, recurses := true, named := ["math/bits.deBruijn32tab", "math/bits.deBruijn64tab"], apart := false, laid := [("math/bits.deBruijn32tab", laid_math_bits_deBruijn32tab), ("math/bits.deBruijn64tab", laid_math_bits_deBruijn64tab)], narrowed := true }
def MerkleHalvesUptoSaid : Prop := merkleHalvesUptoRow.holds Tryd.pinned (OpenSpec.upto merkleHalvesSpec)

/-- 'greatseallaw08.MerkleTold', WHERE WHAT IT READS IS OF BULK AT MOST 1048576: true; the input reads as it did. -/
def merkleToldUptoRow : OpenClaim := { program := "ytohipjalgccmnaadoor", sum := "66d5ad0ed21198ff45526b2154f1980684a31ad6c6ac6d0d0b2889aa9b4637dd", func := "greatseal/greatseallaw08.MerkleTold", spec := "merkleTold", unfollowed := true, recurses := true, named := ["math/bits.deBruijn32tab", "math/bits.deBruijn64tab"], apart := false, laid := [("math/bits.deBruijn32tab", laid_math_bits_deBruijn32tab), ("math/bits.deBruijn64tab", laid_math_bits_deBruijn64tab)], narrowed := true }
def MerkleToldUptoSaid : Prop := merkleToldUptoRow.holds Tryd.pinned (OpenSpec.upto merkleToldSpec)

end Rows
end Go.Proofs.YtohipjalgccmnaaDoor
