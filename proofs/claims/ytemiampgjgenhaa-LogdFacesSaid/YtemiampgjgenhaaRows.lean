/-
  No cell of these rows narrows 'for every input' (looked for: loops, veiled, ifaces, maps, wideKeys, modest, calm, conditions, laid).
  DERIVED. THE GIVEN ROWS OF THIS SEAT. 4 by the template 'for every input the law returns true; each argument reads behind the call as it read before'; 0 by the template 'total and deterministic' (their statements: YtemiampgjgenhaaTotals.lean).
  GIVEN WITH THE SEED: the statements are not yours to turn. If you find one false, say at which input.
  Laid BY PROGRAM, IN A SANDBOX (cutbox-rows.mjs): the forced cells as the released guide's own fill.sh prints them over the translation ec027e7d3f8968e2… (all of the seat's roots in one cut). By AI agents, Wed Nov 11 2026. No macro, syntax, notation, axiom, sorry.
-/
import Derived.Test.YtemiampgjgenhaaChecked
import GoSem.Claim
import GoSem.ClaimJoined
import GoSem.ClaimMapViews
import Derived.JoinedTies
import Derived.KernelRfl
namespace Go.Proofs.Ytemiampgjgenhaa
/- THE CELL 'sum', in the pinned program and in every row, IS THE sha256 OF THE DUMP (.gsa) THAT YtemiampgjgenhaaProg.lean LOADS. Nothing in Lean hashes anything: it is a label: what it is worth is what the hold of that sum in a sandbox is worth. -/
noncomputable def Try.pinned : Pinned := { name := "ytemiampgjgenhaa", sum := "ec027e7d3f8968e2925f950b1fcf05dc522bf90fac00b85d1d53c07e57ec2b63", checked := Try.checked }
namespace Rows
def none {H : Type} : Left H := { results := [], args := [] }

/-- 'greatseallaw24.LogdPromises': WHATEVER THE INPUT: true; the input reads as it did. -/
def logdPromisesSpec : ChangeSpec := { name := "logdPromises", fn := fun _ => fun
  | [d1, d2, d3] => { results := [.lit (.bool true)], args := [d1, d2, d3] }
  | _ => none }
def logdPromisesRow : OpenClaim := { program := "ytemiampgjgenhaa", sum := "ec027e7d3f8968e2925f950b1fcf05dc522bf90fac00b85d1d53c07e57ec2b63", func := "greatseal/greatseallaw24.LogdPromises", spec := "logdPromises", inPlace := ["math/bits.Add64", "slices.overlaps[int]"], unfollowed := true, recurses := true, named := ["math/bits.divideError", "math/bits.overflowError"], apart := false }
def LogdPromisesSaid : Prop := logdPromisesRow.holds Try.pinned (OpenSpec.ofChange logdPromisesSpec)

/-- ITS FALSE NEIGHBOUR: 'it returns false'. Refute it at one input. -/
def logdPromisesWrong : ChangeSpec := { name := "logdPromises", fn := fun _ => fun
  | [d1, d2, d3] => { results := [.lit (.bool false)], args := [d1, d2, d3] }
  | _ => none }
def LogdPromisesWrongFalsely : Prop := logdPromisesRow.holds Try.pinned (OpenSpec.ofChange logdPromisesWrong)

/-- 'greatseallaw24.LogdAgain': WHATEVER THE INPUT: true; the input reads as it did. -/
def logdAgainSpec : ChangeSpec := { name := "logdAgain", fn := fun _ => fun
  | [d1, d2, d3, d4] => { results := [.lit (.bool true)], args := [d1, d2, d3, d4] }
  | _ => none }
def logdAgainRow : OpenClaim := { program := "ytemiampgjgenhaa", sum := "ec027e7d3f8968e2925f950b1fcf05dc522bf90fac00b85d1d53c07e57ec2b63", func := "greatseal/greatseallaw24.LogdAgain", spec := "logdAgain", inPlace := ["math/bits.Add64", "slices.overlaps[int]"], unfollowed := true, recurses := true, named := ["math/bits.divideError", "math/bits.overflowError"], apart := false }
def LogdAgainSaid : Prop := logdAgainRow.holds Try.pinned (OpenSpec.ofChange logdAgainSpec)

/-- ITS FALSE NEIGHBOUR: 'it returns false'. Refute it at one input. -/
def logdAgainWrong : ChangeSpec := { name := "logdAgain", fn := fun _ => fun
  | [d1, d2, d3, d4] => { results := [.lit (.bool false)], args := [d1, d2, d3, d4] }
  | _ => none }
def LogdAgainWrongFalsely : Prop := logdAgainRow.holds Try.pinned (OpenSpec.ofChange logdAgainWrong)

/-- 'greatseallaw24.LogdFaces': WHATEVER THE INPUT: true; the input reads as it did. -/
def logdFacesSpec : ChangeSpec := { name := "logdFaces", fn := fun _ => fun
  | [d1, d2, d3] => { results := [.lit (.bool true)], args := [d1, d2, d3] }
  | _ => none }
def logdFacesRow : OpenClaim := { program := "ytemiampgjgenhaa", sum := "ec027e7d3f8968e2925f950b1fcf05dc522bf90fac00b85d1d53c07e57ec2b63", func := "greatseal/greatseallaw24.LogdFaces", spec := "logdFaces", inPlace := ["math/bits.Add64", "slices.overlaps[int]"], unfollowed := true, recurses := true, named := ["math/bits.divideError", "math/bits.overflowError"], apart := false }
def LogdFacesSaid : Prop := logdFacesRow.holds Try.pinned (OpenSpec.ofChange logdFacesSpec)

/-- ITS FALSE NEIGHBOUR: 'it returns false'. Refute it at one input. -/
def logdFacesWrong : ChangeSpec := { name := "logdFaces", fn := fun _ => fun
  | [d1, d2, d3] => { results := [.lit (.bool false)], args := [d1, d2, d3] }
  | _ => none }
def LogdFacesWrongFalsely : Prop := logdFacesRow.holds Try.pinned (OpenSpec.ofChange logdFacesWrong)

/-- 'greatseallaw24.LogdOthers': WHATEVER THE INPUT: true; the input reads as it did. -/
def logdOthersSpec : ChangeSpec := { name := "logdOthers", fn := fun _ => fun
  | [d1, d2, d3, d4] => { results := [.lit (.bool true)], args := [d1, d2, d3, d4] }
  | _ => none }
def logdOthersRow : OpenClaim := { program := "ytemiampgjgenhaa", sum := "ec027e7d3f8968e2925f950b1fcf05dc522bf90fac00b85d1d53c07e57ec2b63", func := "greatseal/greatseallaw24.LogdOthers", spec := "logdOthers", inPlace := ["math/bits.Add64", "slices.overlaps[int]"], unfollowed := true, recurses := true, named := ["math/bits.divideError", "math/bits.overflowError"], apart := false }
def LogdOthersSaid : Prop := logdOthersRow.holds Try.pinned (OpenSpec.ofChange logdOthersSpec)

/-- ITS FALSE NEIGHBOUR: 'it returns false'. Refute it at one input. -/
def logdOthersWrong : ChangeSpec := { name := "logdOthers", fn := fun _ => fun
  | [d1, d2, d3, d4] => { results := [.lit (.bool false)], args := [d1, d2, d3, d4] }
  | _ => none }
def LogdOthersWrongFalsely : Prop := logdOthersRow.holds Try.pinned (OpenSpec.ofChange logdOthersWrong)

/- THE SECOND FORM. 'bulk': how many values and letters a reading holds, each counted each time it is reached (what is shared counts as often as it is met; a slice's spare places count too). A statement '..UptoSaid' is the law's where the arguments, and the package variables that the reading takes, are together of bulk at most 1048576: NARROWER than '..Said'. Prove '..Said' where nothing that the law and all that it calls make is longer than what came in: it says more and counts as full. Else prove '..UptoSaid'. A law counts once. -/
mutual
def uptoBulk {H : Type} : DataW H → Nat
  | .lit (.string bytes) => bytes.length + 1
  | .lit _ => 1
  | .nil => 1
  | .ptr d => uptoBulk d + 1
  | .slice elems spare => uptoBulkAll elems + uptoBulkAll spare + 1
  | .agg parts => uptoBulkAll parts + 1
  | .iface _ d => uptoBulk d + 1
  | .map entries => uptoBulkEntries entries + 1
  | .held _ => 1
def uptoBulkAll {H : Type} : List (DataW H) → Nat
  | [] => 0
  | d :: r => uptoBulk d + uptoBulkAll r
def uptoBulkEntries {H : Type} : List (Lit × DataW H) → Nat
  | [] => 0
  | x :: r => uptoBulkEntry x + uptoBulkEntries r
def uptoBulkEntry {H : Type} : Lit × DataW H → Nat
  | (.string bytes, d) => bytes.length + uptoBulk d + 1
  | (_, d) => uptoBulk d + 1
 end
def uptoSmall : (H : Type) → List (DataW H) → Bool := fun _ ds => decide (uptoBulkAll ds ≤ 1048576)
def OpenSpec.upto (s : _root_.Go.ChangeSpec) : _root_.Go.OpenSpec := { _root_.Go.OpenSpec.ofChange s with cond := some uptoSmall }

/-- 'greatseallaw24.LogdPromises', WHERE WHAT IT READS IS OF BULK AT MOST 1048576: true; the input reads as it did. -/
def logdPromisesUptoRow : OpenClaim := { program := "ytemiampgjgenhaa", sum := "ec027e7d3f8968e2925f950b1fcf05dc522bf90fac00b85d1d53c07e57ec2b63", func := "greatseal/greatseallaw24.LogdPromises", spec := "logdPromises", inPlace := ["math/bits.Add64", "slices.overlaps[int]"], unfollowed := true, recurses := true, named := ["math/bits.divideError", "math/bits.overflowError"], apart := false, narrowed := true }
def LogdPromisesUptoSaid : Prop := logdPromisesUptoRow.holds Try.pinned (OpenSpec.upto logdPromisesSpec)

/-- 'greatseallaw24.LogdAgain', WHERE WHAT IT READS IS OF BULK AT MOST 1048576: true; the input reads as it did. -/
def logdAgainUptoRow : OpenClaim := { program := "ytemiampgjgenhaa", sum := "ec027e7d3f8968e2925f950b1fcf05dc522bf90fac00b85d1d53c07e57ec2b63", func := "greatseal/greatseallaw24.LogdAgain", spec := "logdAgain", inPlace := ["math/bits.Add64", "slices.overlaps[int]"], unfollowed := true, recurses := true, named := ["math/bits.divideError", "math/bits.overflowError"], apart := false, narrowed := true }
def LogdAgainUptoSaid : Prop := logdAgainUptoRow.holds Try.pinned (OpenSpec.upto logdAgainSpec)

/-- 'greatseallaw24.LogdFaces', WHERE WHAT IT READS IS OF BULK AT MOST 1048576: true; the input reads as it did. -/
def logdFacesUptoRow : OpenClaim := { program := "ytemiampgjgenhaa", sum := "ec027e7d3f8968e2925f950b1fcf05dc522bf90fac00b85d1d53c07e57ec2b63", func := "greatseal/greatseallaw24.LogdFaces", spec := "logdFaces", inPlace := ["math/bits.Add64", "slices.overlaps[int]"], unfollowed := true, recurses := true, named := ["math/bits.divideError", "math/bits.overflowError"], apart := false, narrowed := true }
def LogdFacesUptoSaid : Prop := logdFacesUptoRow.holds Try.pinned (OpenSpec.upto logdFacesSpec)

/-- 'greatseallaw24.LogdOthers', WHERE WHAT IT READS IS OF BULK AT MOST 1048576: true; the input reads as it did. -/
def logdOthersUptoRow : OpenClaim := { program := "ytemiampgjgenhaa", sum := "ec027e7d3f8968e2925f950b1fcf05dc522bf90fac00b85d1d53c07e57ec2b63", func := "greatseal/greatseallaw24.LogdOthers", spec := "logdOthers", inPlace := ["math/bits.Add64", "slices.overlaps[int]"], unfollowed := true, recurses := true, named := ["math/bits.divideError", "math/bits.overflowError"], apart := false, narrowed := true }
def LogdOthersUptoSaid : Prop := logdOthersUptoRow.holds Try.pinned (OpenSpec.upto logdOthersSpec)

end Rows
end Go.Proofs.Ytemiampgjgenhaa
