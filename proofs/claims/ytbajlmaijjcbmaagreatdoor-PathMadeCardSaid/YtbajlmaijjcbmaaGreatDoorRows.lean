/-
  NARROWER THAN 'FOR EVERY INPUT', by the rows' own cells (each row's printed sentence says how): PathLinks: laid · PathChecks: laid · PathComes: laid · PathMade: laid · PathAll: laid · PathMore: laid · PathElse: laid · PathFound: laid.
  DERIVED. THE GIVEN ROWS OF THIS SEAT. 8 by the template 'for every input the law returns true; each argument reads behind the call as it read before'; 0 by the template 'total and deterministic' (their statements: YtbajlmaijjcbmaaGreatDoorTotals.lean).
  GIVEN WITH THE SEED: the statements are not yours to turn. If you find one false, say at which input.
  Laid BY PROGRAM, IN A SANDBOX (cutbox-rows.mjs): the forced cells as the released guide's own fill.sh prints them over the translation 71fadce0db30f55b… (all of the seat's roots in one cut). By AI agents, Wed Nov 11 2026. No macro, syntax, notation, axiom, sorry.
-/
import Derived.Test.YtbajlmaijjcbmaaGreatDoorChecked
import GoSem.PinnedTables
import GoSem.Claim
import GoSem.ClaimJoined
import GoSem.ClaimMapViews
import Derived.JoinedTies
import Derived.KernelRfl
namespace Go.Proofs.YtbajlmaijjcbmaaGreatDoor
/- THE CELL 'sum', in the pinned program and in every row, IS THE sha256 OF THE DUMP (.gsa) THAT YtbajlmaijjcbmaaGreatDoorProg.lean LOADS. Nothing in Lean hashes anything: it is a label: what it is worth is what the hold of that sum in a sandbox is worth. -/
noncomputable def Tryz.pinned : Pinned := { name := "ytbajlmaijjcbmaagreatdoor", sum := "71fadce0db30f55b26b5c677459aff313bde884fe3f0d3aa647967a59015c42d", checked := Tryz.checked }
namespace Rows
def none {H : Type} : Left H := { results := [], args := [] }

/- WHAT THE LISTED PACKAGE-LEVEL VARIABLES READ AS WHEN THE CALL BEGINS. Each datum BY PROGRAM (the guide's laid-datum.mjs) off the statement by which the dump's own 'gosem.cut.vars' lays the variable. In a bare row this is a premise. The card (YtbajlmaijjcbmaaGreatDoorCards.lean) ties it to the program's text. -/
def laid_unicode_utf8_acceptRanges {H : Type} : DataW H := .agg [.agg [.lit (.int .u8 128), .lit (.int .u8 191)], .agg [.lit (.int .u8 160), .lit (.int .u8 191)], .agg [.lit (.int .u8 128), .lit (.int .u8 159)], .agg [.lit (.int .u8 144), .lit (.int .u8 191)], .agg [.lit (.int .u8 128), .lit (.int .u8 143)], .agg [.lit (.int .u8 0), .lit (.int .u8 0)], .agg [.lit (.int .u8 0), .lit (.int .u8 0)], .agg [.lit (.int .u8 0), .lit (.int .u8 0)], .agg [.lit (.int .u8 0), .lit (.int .u8 0)], .agg [.lit (.int .u8 0), .lit (.int .u8 0)], .agg [.lit (.int .u8 0), .lit (.int .u8 0)], .agg [.lit (.int .u8 0), .lit (.int .u8 0)], .agg [.lit (.int .u8 0), .lit (.int .u8 0)], .agg [.lit (.int .u8 0), .lit (.int .u8 0)], .agg [.lit (.int .u8 0), .lit (.int .u8 0)], .agg [.lit (.int .u8 0), .lit (.int .u8 0)]]
def laid_greatseal_der_kinds {H : Type} : DataW H := .iface "func table" (.agg [.agg [.lit (.int .i64 1), .iface "func" (.lit (.string [103, 114, 101, 97, 116, 115, 101, 97, 108, 47, 100, 101, 114, 46, 107, 105, 110, 100, 115, 36, 49]))], .agg [.lit (.int .i64 2), .iface "func" (.lit (.string [103, 114, 101, 97, 116, 115, 101, 97, 108, 47, 100, 101, 114, 46, 108, 101, 97, 115, 116]))], .agg [.lit (.int .i64 4), .iface "func" (.lit (.string [103, 114, 101, 97, 116, 115, 101, 97, 108, 47, 100, 101, 114, 46, 107, 105, 110, 100, 115, 36, 50]))], .agg [.lit (.int .i64 12), .iface "func" (.lit (.string [103, 114, 101, 97, 116, 115, 101, 97, 108, 47, 100, 101, 114, 46, 107, 105, 110, 100, 115, 36, 51]))], .agg [.lit (.int .i64 48), .iface "func" (.lit (.string [103, 114, 101, 97, 116, 115, 101, 97, 108, 47, 100, 101, 114, 46, 107, 105, 110, 100, 115, 36, 52]))]])
/-- One of Go's own tables, pinned by name: the form's constant. -/
def laid_unicode_utf8_first : DataW Unit := Go.Pinned.utf8First

/-- 'greatseallaw19.PathLinks': WHATEVER THE INPUT: true; the input reads as it did. -/
def pathLinksSpec : ChangeSpec := { name := "pathLinks", fn := fun _ => fun
  | [d1, d2] => { results := [.lit (.bool true)], args := [d1, d2] }
  | _ => none }
def pathLinksRow : OpenClaim := { program := "ytbajlmaijjcbmaagreatdoor", sum := "71fadce0db30f55b26b5c677459aff313bde884fe3f0d3aa647967a59015c42d", func := "greatseal/greatseallaw19.PathLinks", spec := "pathLinks", inPlace := ["math/bits.Add64", "internal/bytealg.CountString", "internal/bytealg.IndexByteString", "internal/bytealg.IndexString"], unfollowed := true, recurses := true, named := ["math/bits.divideError", "math/bits.overflowError", "internal/bytealg.MaxLen", "unicode/utf8.first", "unicode/utf8.acceptRanges", "greatseal/der.kinds"], apart := false, laid := [("unicode/utf8.acceptRanges", laid_unicode_utf8_acceptRanges), ("greatseal/der.kinds", laid_greatseal_der_kinds), ("unicode/utf8.first", laid_unicode_utf8_first)] }
def PathLinksSaid : Prop := pathLinksRow.holds Tryz.pinned (OpenSpec.ofChange pathLinksSpec)

/-- ITS FALSE NEIGHBOUR: 'it returns false'. Refute it at one input. -/
def pathLinksWrong : ChangeSpec := { name := "pathLinks", fn := fun _ => fun
  | [d1, d2] => { results := [.lit (.bool false)], args := [d1, d2] }
  | _ => none }
def PathLinksWrongFalsely : Prop := pathLinksRow.holds Tryz.pinned (OpenSpec.ofChange pathLinksWrong)

/-- 'greatseallaw19.PathChecks': WHATEVER THE INPUT: true; the input reads as it did. -/
def pathChecksSpec : ChangeSpec := { name := "pathChecks", fn := fun _ => fun
  | [d1, d2, d3, d4] => { results := [.lit (.bool true)], args := [d1, d2, d3, d4] }
  | _ => none }
def pathChecksRow : OpenClaim := { program := "ytbajlmaijjcbmaagreatdoor", sum := "71fadce0db30f55b26b5c677459aff313bde884fe3f0d3aa647967a59015c42d", func := "greatseal/greatseallaw19.PathChecks", spec := "pathChecks", inPlace := ["math/bits.Add64", "internal/bytealg.CountString", "internal/bytealg.IndexByteString", "internal/bytealg.IndexString"], unfollowed := true, recurses := true, named := ["math/bits.divideError", "math/bits.overflowError", "internal/bytealg.MaxLen", "unicode/utf8.first", "unicode/utf8.acceptRanges", "greatseal/der.kinds"], apart := false, laid := [("unicode/utf8.acceptRanges", laid_unicode_utf8_acceptRanges), ("greatseal/der.kinds", laid_greatseal_der_kinds), ("unicode/utf8.first", laid_unicode_utf8_first)] }
def PathChecksSaid : Prop := pathChecksRow.holds Tryz.pinned (OpenSpec.ofChange pathChecksSpec)

/-- ITS FALSE NEIGHBOUR: 'it returns false'. Refute it at one input. -/
def pathChecksWrong : ChangeSpec := { name := "pathChecks", fn := fun _ => fun
  | [d1, d2, d3, d4] => { results := [.lit (.bool false)], args := [d1, d2, d3, d4] }
  | _ => none }
def PathChecksWrongFalsely : Prop := pathChecksRow.holds Tryz.pinned (OpenSpec.ofChange pathChecksWrong)

/-- 'greatseallaw19.PathComes': WHATEVER THE INPUT: true; the input reads as it did. -/
def pathComesSpec : ChangeSpec := { name := "pathComes", fn := fun _ => fun
  | [d1, d2, d3, d4] => { results := [.lit (.bool true)], args := [d1, d2, d3, d4] }
  | _ => none }
def pathComesRow : OpenClaim := { program := "ytbajlmaijjcbmaagreatdoor", sum := "71fadce0db30f55b26b5c677459aff313bde884fe3f0d3aa647967a59015c42d", func := "greatseal/greatseallaw19.PathComes", spec := "pathComes", inPlace := ["math/bits.Add64", "internal/bytealg.CountString", "internal/bytealg.IndexByteString", "internal/bytealg.IndexString"], unfollowed := true, recurses := true, named := ["math/bits.divideError", "math/bits.overflowError", "internal/bytealg.MaxLen", "unicode/utf8.first", "unicode/utf8.acceptRanges", "greatseal/der.kinds"], apart := false, laid := [("unicode/utf8.acceptRanges", laid_unicode_utf8_acceptRanges), ("greatseal/der.kinds", laid_greatseal_der_kinds), ("unicode/utf8.first", laid_unicode_utf8_first)] }
def PathComesSaid : Prop := pathComesRow.holds Tryz.pinned (OpenSpec.ofChange pathComesSpec)

/-- ITS FALSE NEIGHBOUR: 'it returns false'. Refute it at one input. -/
def pathComesWrong : ChangeSpec := { name := "pathComes", fn := fun _ => fun
  | [d1, d2, d3, d4] => { results := [.lit (.bool false)], args := [d1, d2, d3, d4] }
  | _ => none }
def PathComesWrongFalsely : Prop := pathComesRow.holds Tryz.pinned (OpenSpec.ofChange pathComesWrong)

/-- 'greatseallaw19.PathMade': WHATEVER THE INPUT: true; the input reads as it did. -/
def pathMadeSpec : ChangeSpec := { name := "pathMade", fn := fun _ => fun
  | [d1, d2, d3, d4, d5, d6] => { results := [.lit (.bool true)], args := [d1, d2, d3, d4, d5, d6] }
  | _ => none }
def pathMadeRow : OpenClaim := { program := "ytbajlmaijjcbmaagreatdoor", sum := "71fadce0db30f55b26b5c677459aff313bde884fe3f0d3aa647967a59015c42d", func := "greatseal/greatseallaw19.PathMade", spec := "pathMade", inPlace := ["math/bits.Add64", "internal/bytealg.CountString", "internal/bytealg.IndexByteString", "internal/bytealg.IndexString"], unfollowed := true, recurses := true, named := ["math/bits.divideError", "math/bits.overflowError", "internal/bytealg.MaxLen", "unicode/utf8.first", "unicode/utf8.acceptRanges", "greatseal/der.kinds"], apart := false, laid := [("unicode/utf8.acceptRanges", laid_unicode_utf8_acceptRanges), ("greatseal/der.kinds", laid_greatseal_der_kinds), ("unicode/utf8.first", laid_unicode_utf8_first)] }
def PathMadeSaid : Prop := pathMadeRow.holds Tryz.pinned (OpenSpec.ofChange pathMadeSpec)

/-- ITS FALSE NEIGHBOUR: 'it returns false'. Refute it at one input. -/
def pathMadeWrong : ChangeSpec := { name := "pathMade", fn := fun _ => fun
  | [d1, d2, d3, d4, d5, d6] => { results := [.lit (.bool false)], args := [d1, d2, d3, d4, d5, d6] }
  | _ => none }
def PathMadeWrongFalsely : Prop := pathMadeRow.holds Tryz.pinned (OpenSpec.ofChange pathMadeWrong)

/-- 'greatseallaw19.PathAll': WHATEVER THE INPUT: true; the input reads as it did. -/
def pathAllSpec : ChangeSpec := { name := "pathAll", fn := fun _ => fun
  | [d1, d2, d3, d4, d5, d6, d7] => { results := [.lit (.bool true)], args := [d1, d2, d3, d4, d5, d6, d7] }
  | _ => none }
def pathAllRow : OpenClaim := { program := "ytbajlmaijjcbmaagreatdoor", sum := "71fadce0db30f55b26b5c677459aff313bde884fe3f0d3aa647967a59015c42d", func := "greatseal/greatseallaw19.PathAll", spec := "pathAll", inPlace := ["math/bits.Add64", "internal/bytealg.CountString", "internal/bytealg.IndexByteString", "internal/bytealg.IndexString"], unfollowed := true, recurses := true, named := ["math/bits.divideError", "math/bits.overflowError", "internal/bytealg.MaxLen", "unicode/utf8.first", "unicode/utf8.acceptRanges", "greatseal/der.kinds"], apart := false, laid := [("unicode/utf8.acceptRanges", laid_unicode_utf8_acceptRanges), ("greatseal/der.kinds", laid_greatseal_der_kinds), ("unicode/utf8.first", laid_unicode_utf8_first)] }
def PathAllSaid : Prop := pathAllRow.holds Tryz.pinned (OpenSpec.ofChange pathAllSpec)

/-- ITS FALSE NEIGHBOUR: 'it returns false'. Refute it at one input. -/
def pathAllWrong : ChangeSpec := { name := "pathAll", fn := fun _ => fun
  | [d1, d2, d3, d4, d5, d6, d7] => { results := [.lit (.bool false)], args := [d1, d2, d3, d4, d5, d6, d7] }
  | _ => none }
def PathAllWrongFalsely : Prop := pathAllRow.holds Tryz.pinned (OpenSpec.ofChange pathAllWrong)

/-- 'greatseallaw19.PathMore': WHATEVER THE INPUT: true; the input reads as it did. -/
def pathMoreSpec : ChangeSpec := { name := "pathMore", fn := fun _ => fun
  | [d1, d2, d3, d4, d5] => { results := [.lit (.bool true)], args := [d1, d2, d3, d4, d5] }
  | _ => none }
def pathMoreRow : OpenClaim := { program := "ytbajlmaijjcbmaagreatdoor", sum := "71fadce0db30f55b26b5c677459aff313bde884fe3f0d3aa647967a59015c42d", func := "greatseal/greatseallaw19.PathMore", spec := "pathMore", inPlace := ["math/bits.Add64", "internal/bytealg.CountString", "internal/bytealg.IndexByteString", "internal/bytealg.IndexString"], unfollowed := true, recurses := true, named := ["math/bits.divideError", "math/bits.overflowError", "internal/bytealg.MaxLen", "unicode/utf8.first", "unicode/utf8.acceptRanges", "greatseal/der.kinds"], apart := false, laid := [("unicode/utf8.acceptRanges", laid_unicode_utf8_acceptRanges), ("greatseal/der.kinds", laid_greatseal_der_kinds), ("unicode/utf8.first", laid_unicode_utf8_first)] }
def PathMoreSaid : Prop := pathMoreRow.holds Tryz.pinned (OpenSpec.ofChange pathMoreSpec)

/-- ITS FALSE NEIGHBOUR: 'it returns false'. Refute it at one input. -/
def pathMoreWrong : ChangeSpec := { name := "pathMore", fn := fun _ => fun
  | [d1, d2, d3, d4, d5] => { results := [.lit (.bool false)], args := [d1, d2, d3, d4, d5] }
  | _ => none }
def PathMoreWrongFalsely : Prop := pathMoreRow.holds Tryz.pinned (OpenSpec.ofChange pathMoreWrong)

/-- 'greatseallaw19.PathElse': WHATEVER THE INPUT: true; the input reads as it did. -/
def pathElseSpec : ChangeSpec := { name := "pathElse", fn := fun _ => fun
  | [d1, d2, d3, d4, d5, d6] => { results := [.lit (.bool true)], args := [d1, d2, d3, d4, d5, d6] }
  | _ => none }
def pathElseRow : OpenClaim := { program := "ytbajlmaijjcbmaagreatdoor", sum := "71fadce0db30f55b26b5c677459aff313bde884fe3f0d3aa647967a59015c42d", func := "greatseal/greatseallaw19.PathElse", spec := "pathElse", inPlace := ["math/bits.Add64", "internal/bytealg.CountString", "internal/bytealg.IndexByteString", "internal/bytealg.IndexString"], unfollowed := true, recurses := true, named := ["math/bits.divideError", "math/bits.overflowError", "internal/bytealg.MaxLen", "unicode/utf8.first", "unicode/utf8.acceptRanges", "greatseal/der.kinds"], apart := false, laid := [("unicode/utf8.acceptRanges", laid_unicode_utf8_acceptRanges), ("greatseal/der.kinds", laid_greatseal_der_kinds), ("unicode/utf8.first", laid_unicode_utf8_first)] }
def PathElseSaid : Prop := pathElseRow.holds Tryz.pinned (OpenSpec.ofChange pathElseSpec)

/-- ITS FALSE NEIGHBOUR: 'it returns false'. Refute it at one input. -/
def pathElseWrong : ChangeSpec := { name := "pathElse", fn := fun _ => fun
  | [d1, d2, d3, d4, d5, d6] => { results := [.lit (.bool false)], args := [d1, d2, d3, d4, d5, d6] }
  | _ => none }
def PathElseWrongFalsely : Prop := pathElseRow.holds Tryz.pinned (OpenSpec.ofChange pathElseWrong)

/-- 'greatseallaw19.PathFound': WHATEVER THE INPUT: true; the input reads as it did. -/
def pathFoundSpec : ChangeSpec := { name := "pathFound", fn := fun _ => fun
  | [d1, d2, d3, d4, d5] => { results := [.lit (.bool true)], args := [d1, d2, d3, d4, d5] }
  | _ => none }
def pathFoundRow : OpenClaim := { program := "ytbajlmaijjcbmaagreatdoor", sum := "71fadce0db30f55b26b5c677459aff313bde884fe3f0d3aa647967a59015c42d", func := "greatseal/greatseallaw19.PathFound", spec := "pathFound", inPlace := ["math/bits.Add64", "internal/bytealg.CountString", "internal/bytealg.IndexByteString", "internal/bytealg.IndexString"], unfollowed := true, recurses := true, named := ["math/bits.divideError", "math/bits.overflowError", "internal/bytealg.MaxLen", "unicode/utf8.first", "unicode/utf8.acceptRanges", "greatseal/der.kinds"], apart := false, laid := [("unicode/utf8.acceptRanges", laid_unicode_utf8_acceptRanges), ("greatseal/der.kinds", laid_greatseal_der_kinds), ("unicode/utf8.first", laid_unicode_utf8_first)] }
def PathFoundSaid : Prop := pathFoundRow.holds Tryz.pinned (OpenSpec.ofChange pathFoundSpec)

/-- ITS FALSE NEIGHBOUR: 'it returns false'. Refute it at one input. -/
def pathFoundWrong : ChangeSpec := { name := "pathFound", fn := fun _ => fun
  | [d1, d2, d3, d4, d5] => { results := [.lit (.bool false)], args := [d1, d2, d3, d4, d5] }
  | _ => none }
def PathFoundWrongFalsely : Prop := pathFoundRow.holds Tryz.pinned (OpenSpec.ofChange pathFoundWrong)

/- THE SECOND FORM. 'bulk': how many values and letters a reading holds, each counted each time it is reached (what is shared counts as often as it is met; a slice's spare places count too). A statement '..UptoSaid' is the law's where the arguments, and the package variables that the reading takes, are together of bulk at most 1048576: NARROWER than '..Said'. Prove '..Said' where nothing that the law and all that it calls make is longer than what came in: it says more and counts as full. Else prove '..UptoSaid'. A law counts once. -/
mutual
def uptoBulk {H : Type} : DataW H → Nat
  | .lit (.string bytes) => bytes.length + 1
  | .lit _ => 1
  | .nil => 1
  | .ptr d => uptoBulk d + 1
  | .slice elems spare => uptoBulkAll elems + uptoBulkAll spare + 1
  | .agg parts => uptoBulkAll parts + 1
  | .iface _ d => uptoBulk d + 1
  | .map entries => uptoBulkEntries entries + 1
  | .held _ => 1
def uptoBulkAll {H : Type} : List (DataW H) → Nat
  | [] => 0
  | d :: r => uptoBulk d + uptoBulkAll r
def uptoBulkEntries {H : Type} : List (Lit × DataW H) → Nat
  | [] => 0
  | x :: r => uptoBulkEntry x + uptoBulkEntries r
def uptoBulkEntry {H : Type} : Lit × DataW H → Nat
  | (.string bytes, d) => bytes.length + uptoBulk d + 1
  | (_, d) => uptoBulk d + 1
 end
def uptoSmall : (H : Type) → List (DataW H) → Bool := fun _ ds => decide (uptoBulkAll ds ≤ 1048576)
def OpenSpec.upto (s : _root_.Go.ChangeSpec) : _root_.Go.OpenSpec := { _root_.Go.OpenSpec.ofChange s with cond := some uptoSmall }

/-- 'greatseallaw19.PathLinks', WHERE WHAT IT READS IS OF BULK AT MOST 1048576: true; the input reads as it did. -/
def pathLinksUptoRow : OpenClaim := { program := "ytbajlmaijjcbmaagreatdoor", sum := "71fadce0db30f55b26b5c677459aff313bde884fe3f0d3aa647967a59015c42d", func := "greatseal/greatseallaw19.PathLinks", spec := "pathLinks", inPlace := ["math/bits.Add64", "internal/bytealg.CountString", "internal/bytealg.IndexByteString", "internal/bytealg.IndexString"], unfollowed := true, recurses := true, named := ["math/bits.divideError", "math/bits.overflowError", "internal/bytealg.MaxLen", "unicode/utf8.first", "unicode/utf8.acceptRanges", "greatseal/der.kinds"], apart := false, laid := [("unicode/utf8.acceptRanges", laid_unicode_utf8_acceptRanges), ("greatseal/der.kinds", laid_greatseal_der_kinds), ("unicode/utf8.first", laid_unicode_utf8_first)], narrowed := true }
def PathLinksUptoSaid : Prop := pathLinksUptoRow.holds Tryz.pinned (OpenSpec.upto pathLinksSpec)

/-- 'greatseallaw19.PathChecks', WHERE WHAT IT READS IS OF BULK AT MOST 1048576: true; the input reads as it did. -/
def pathChecksUptoRow : OpenClaim := { program := "ytbajlmaijjcbmaagreatdoor", sum := "71fadce0db30f55b26b5c677459aff313bde884fe3f0d3aa647967a59015c42d", func := "greatseal/greatseallaw19.PathChecks", spec := "pathChecks", inPlace := ["math/bits.Add64", "internal/bytealg.CountString", "internal/bytealg.IndexByteString", "internal/bytealg.IndexString"], unfollowed := true, recurses := true, named := ["math/bits.divideError", "math/bits.overflowError", "internal/bytealg.MaxLen", "unicode/utf8.first", "unicode/utf8.acceptRanges", "greatseal/der.kinds"], apart := false, laid := [("unicode/utf8.acceptRanges", laid_unicode_utf8_acceptRanges), ("greatseal/der.kinds", laid_greatseal_der_kinds), ("unicode/utf8.first", laid_unicode_utf8_first)], narrowed := true }
def PathChecksUptoSaid : Prop := pathChecksUptoRow.holds Tryz.pinned (OpenSpec.upto pathChecksSpec)

/-- 'greatseallaw19.PathComes', WHERE WHAT IT READS IS OF BULK AT MOST 1048576: true; the input reads as it did. -/
def pathComesUptoRow : OpenClaim := { program := "ytbajlmaijjcbmaagreatdoor", sum := "71fadce0db30f55b26b5c677459aff313bde884fe3f0d3aa647967a59015c42d", func := "greatseal/greatseallaw19.PathComes", spec := "pathComes", inPlace := ["math/bits.Add64", "internal/bytealg.CountString", "internal/bytealg.IndexByteString", "internal/bytealg.IndexString"], unfollowed := true, recurses := true, named := ["math/bits.divideError", "math/bits.overflowError", "internal/bytealg.MaxLen", "unicode/utf8.first", "unicode/utf8.acceptRanges", "greatseal/der.kinds"], apart := false, laid := [("unicode/utf8.acceptRanges", laid_unicode_utf8_acceptRanges), ("greatseal/der.kinds", laid_greatseal_der_kinds), ("unicode/utf8.first", laid_unicode_utf8_first)], narrowed := true }
def PathComesUptoSaid : Prop := pathComesUptoRow.holds Tryz.pinned (OpenSpec.upto pathComesSpec)

/-- 'greatseallaw19.PathMade', WHERE WHAT IT READS IS OF BULK AT MOST 1048576: true; the input reads as it did. -/
def pathMadeUptoRow : OpenClaim := { program := "ytbajlmaijjcbmaagreatdoor", sum := "71fadce0db30f55b26b5c677459aff313bde884fe3f0d3aa647967a59015c42d", func := "greatseal/greatseallaw19.PathMade", spec := "pathMade", inPlace := ["math/bits.Add64", "internal/bytealg.CountString", "internal/bytealg.IndexByteString", "internal/bytealg.IndexString"], unfollowed := true, recurses := true, named := ["math/bits.divideError", "math/bits.overflowError", "internal/bytealg.MaxLen", "unicode/utf8.first", "unicode/utf8.acceptRanges", "greatseal/der.kinds"], apart := false, laid := [("unicode/utf8.acceptRanges", laid_unicode_utf8_acceptRanges), ("greatseal/der.kinds", laid_greatseal_der_kinds), ("unicode/utf8.first", laid_unicode_utf8_first)], narrowed := true }
def PathMadeUptoSaid : Prop := pathMadeUptoRow.holds Tryz.pinned (OpenSpec.upto pathMadeSpec)

/-- 'greatseallaw19.PathAll', WHERE WHAT IT READS IS OF BULK AT MOST 1048576: true; the input reads as it did. -/
def pathAllUptoRow : OpenClaim := { program := "ytbajlmaijjcbmaagreatdoor", sum := "71fadce0db30f55b26b5c677459aff313bde884fe3f0d3aa647967a59015c42d", func := "greatseal/greatseallaw19.PathAll", spec := "pathAll", inPlace := ["math/bits.Add64", "internal/bytealg.CountString", "internal/bytealg.IndexByteString", "internal/bytealg.IndexString"], unfollowed := true, recurses := true, named := ["math/bits.divideError", "math/bits.overflowError", "internal/bytealg.MaxLen", "unicode/utf8.first", "unicode/utf8.acceptRanges", "greatseal/der.kinds"], apart := false, laid := [("unicode/utf8.acceptRanges", laid_unicode_utf8_acceptRanges), ("greatseal/der.kinds", laid_greatseal_der_kinds), ("unicode/utf8.first", laid_unicode_utf8_first)], narrowed := true }
def PathAllUptoSaid : Prop := pathAllUptoRow.holds Tryz.pinned (OpenSpec.upto pathAllSpec)

/-- 'greatseallaw19.PathMore', WHERE WHAT IT READS IS OF BULK AT MOST 1048576: true; the input reads as it did. -/
def pathMoreUptoRow : OpenClaim := { program := "ytbajlmaijjcbmaagreatdoor", sum := "71fadce0db30f55b26b5c677459aff313bde884fe3f0d3aa647967a59015c42d", func := "greatseal/greatseallaw19.PathMore", spec := "pathMore", inPlace := ["math/bits.Add64", "internal/bytealg.CountString", "internal/bytealg.IndexByteString", "internal/bytealg.IndexString"], unfollowed := true, recurses := true, named := ["math/bits.divideError", "math/bits.overflowError", "internal/bytealg.MaxLen", "unicode/utf8.first", "unicode/utf8.acceptRanges", "greatseal/der.kinds"], apart := false, laid := [("unicode/utf8.acceptRanges", laid_unicode_utf8_acceptRanges), ("greatseal/der.kinds", laid_greatseal_der_kinds), ("unicode/utf8.first", laid_unicode_utf8_first)], narrowed := true }
def PathMoreUptoSaid : Prop := pathMoreUptoRow.holds Tryz.pinned (OpenSpec.upto pathMoreSpec)

/-- 'greatseallaw19.PathElse', WHERE WHAT IT READS IS OF BULK AT MOST 1048576: true; the input reads as it did. -/
def pathElseUptoRow : OpenClaim := { program := "ytbajlmaijjcbmaagreatdoor", sum := "71fadce0db30f55b26b5c677459aff313bde884fe3f0d3aa647967a59015c42d", func := "greatseal/greatseallaw19.PathElse", spec := "pathElse", inPlace := ["math/bits.Add64", "internal/bytealg.CountString", "internal/bytealg.IndexByteString", "internal/bytealg.IndexString"], unfollowed := true, recurses := true, named := ["math/bits.divideError", "math/bits.overflowError", "internal/bytealg.MaxLen", "unicode/utf8.first", "unicode/utf8.acceptRanges", "greatseal/der.kinds"], apart := false, laid := [("unicode/utf8.acceptRanges", laid_unicode_utf8_acceptRanges), ("greatseal/der.kinds", laid_greatseal_der_kinds), ("unicode/utf8.first", laid_unicode_utf8_first)], narrowed := true }
def PathElseUptoSaid : Prop := pathElseUptoRow.holds Tryz.pinned (OpenSpec.upto pathElseSpec)

/-- 'greatseallaw19.PathFound', WHERE WHAT IT READS IS OF BULK AT MOST 1048576: true; the input reads as it did. -/
def pathFoundUptoRow : OpenClaim := { program := "ytbajlmaijjcbmaagreatdoor", sum := "71fadce0db30f55b26b5c677459aff313bde884fe3f0d3aa647967a59015c42d", func := "greatseal/greatseallaw19.PathFound", spec := "pathFound", inPlace := ["math/bits.Add64", "internal/bytealg.CountString", "internal/bytealg.IndexByteString", "internal/bytealg.IndexString"], unfollowed := true, recurses := true, named := ["math/bits.divideError", "math/bits.overflowError", "internal/bytealg.MaxLen", "unicode/utf8.first", "unicode/utf8.acceptRanges", "greatseal/der.kinds"], apart := false, laid := [("unicode/utf8.acceptRanges", laid_unicode_utf8_acceptRanges), ("greatseal/der.kinds", laid_greatseal_der_kinds), ("unicode/utf8.first", laid_unicode_utf8_first)], narrowed := true }
def PathFoundUptoSaid : Prop := pathFoundUptoRow.holds Tryz.pinned (OpenSpec.upto pathFoundSpec)

end Rows
end Go.Proofs.YtbajlmaijjcbmaaGreatDoor
