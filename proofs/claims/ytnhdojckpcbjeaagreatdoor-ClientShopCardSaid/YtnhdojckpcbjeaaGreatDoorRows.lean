/-
  NARROWER THAN 'FOR EVERY INPUT', by the rows' own cells (each row's printed sentence says how): ClientMakes: laid · ClientProves: laid · ClientMore: laid · ClientShop: laid · ClientRoots: laid · ClientDays: laid · ClientViews: laid.
  DERIVED. THE GIVEN ROWS OF THIS SEAT. 7 by the template 'for every input the law returns true; each argument reads behind the call as it read before'; 0 by the template 'total and deterministic' (their statements: YtnhdojckpcbjeaaGreatDoorTotals.lean).
  GIVEN WITH THE SEED: the statements are not yours to turn. If you find one false, say at which input.
  Laid BY PROGRAM, IN A SANDBOX (cutbox-rows.mjs): the forced cells as the released guide's own fill.sh prints them over the translation 8dc2fa7a5334e8ac… (all of the seat's roots in one cut). By AI agents, Wed Nov 11 2026. No macro, syntax, notation, axiom, sorry.
-/
import Derived.Test.YtnhdojckpcbjeaaGreatDoorChecked
import GoSem.PinnedTables
import GoSem.Claim
import GoSem.ClaimJoined
import GoSem.ClaimMapViews
import Derived.JoinedTies
import Derived.KernelRfl
namespace Go.Proofs.YtnhdojckpcbjeaaGreatDoor
/- THE CELL 'sum', in the pinned program and in every row, IS THE sha256 OF THE DUMP (.gsa) THAT YtnhdojckpcbjeaaGreatDoorProg.lean LOADS. Nothing in Lean hashes anything: it is a label: what it is worth is what the hold of that sum in a sandbox is worth. -/
noncomputable def Tryz.pinned : Pinned := { name := "ytnhdojckpcbjeaagreatdoor", sum := "8dc2fa7a5334e8ac993254c3e40744cfcac205eced9faa3347f1c1b92469df93", checked := Tryz.checked }
namespace Rows
def none {H : Type} : Left H := { results := [], args := [] }

/- WHAT THE LISTED PACKAGE-LEVEL VARIABLES READ AS WHEN THE CALL BEGINS. Each datum BY PROGRAM (the guide's laid-datum.mjs) off the statement by which the dump's own 'gosem.cut.vars' lays the variable. In a bare row this is a premise. The card (YtnhdojckpcbjeaaGreatDoorCards.lean) ties it to the program's text. -/
def laid_unicode_utf8_acceptRanges {H : Type} : DataW H := .agg [.agg [.lit (.int .u8 128), .lit (.int .u8 191)], .agg [.lit (.int .u8 160), .lit (.int .u8 191)], .agg [.lit (.int .u8 128), .lit (.int .u8 159)], .agg [.lit (.int .u8 144), .lit (.int .u8 191)], .agg [.lit (.int .u8 128), .lit (.int .u8 143)], .agg [.lit (.int .u8 0), .lit (.int .u8 0)], .agg [.lit (.int .u8 0), .lit (.int .u8 0)], .agg [.lit (.int .u8 0), .lit (.int .u8 0)], .agg [.lit (.int .u8 0), .lit (.int .u8 0)], .agg [.lit (.int .u8 0), .lit (.int .u8 0)], .agg [.lit (.int .u8 0), .lit (.int .u8 0)], .agg [.lit (.int .u8 0), .lit (.int .u8 0)], .agg [.lit (.int .u8 0), .lit (.int .u8 0)], .agg [.lit (.int .u8 0), .lit (.int .u8 0)], .agg [.lit (.int .u8 0), .lit (.int .u8 0)], .agg [.lit (.int .u8 0), .lit (.int .u8 0)]]
def laid_greatseal_der_kinds {H : Type} : DataW H := .iface "func table" (.agg [.agg [.lit (.int .i64 1), .iface "func" (.lit (.string [103, 114, 101, 97, 116, 115, 101, 97, 108, 47, 100, 101, 114, 46, 107, 105, 110, 100, 115, 36, 49]))], .agg [.lit (.int .i64 2), .iface "func" (.lit (.string [103, 114, 101, 97, 116, 115, 101, 97, 108, 47, 100, 101, 114, 46, 108, 101, 97, 115, 116]))], .agg [.lit (.int .i64 4), .iface "func" (.lit (.string [103, 114, 101, 97, 116, 115, 101, 97, 108, 47, 100, 101, 114, 46, 107, 105, 110, 100, 115, 36, 50]))], .agg [.lit (.int .i64 12), .iface "func" (.lit (.string [103, 114, 101, 97, 116, 115, 101, 97, 108, 47, 100, 101, 114, 46, 107, 105, 110, 100, 115, 36, 51]))], .agg [.lit (.int .i64 48), .iface "func" (.lit (.string [103, 114, 101, 97, 116, 115, 101, 97, 108, 47, 100, 101, 114, 46, 107, 105, 110, 100, 115, 36, 52]))]])
/-- One of Go's own tables, pinned by name: the form's constant. -/
def laid_unicode_utf8_first : DataW Unit := Go.Pinned.utf8First

/-- 'greatseallaw29.ClientMakes': WHATEVER THE INPUT: true; the input reads as it did. -/
def clientMakesSpec : ChangeSpec := { name := "clientMakes", fn := fun _ => fun
  | [d1, d2, d3, d4, d5] => { results := [.lit (.bool true)], args := [d1, d2, d3, d4, d5] }
  | _ => none }
def clientMakesRow : OpenClaim := { program := "ytnhdojckpcbjeaagreatdoor", sum := "8dc2fa7a5334e8ac993254c3e40744cfcac205eced9faa3347f1c1b92469df93", func := "greatseal/greatseallaw29.ClientMakes", spec := "clientMakes", inPlace := ["math/bits.Add64", "internal/bytealg.CountString", "internal/bytealg.IndexByteString", "internal/bytealg.IndexString", "slices.overlaps[greatseal/api.Head]"], unfollowed := true, recurses := true, named := ["math/bits.divideError", "math/bits.overflowError", "internal/bytealg.MaxLen", "unicode/utf8.first", "unicode/utf8.acceptRanges", "greatseal/der.kinds"], apart := false, laid := [("unicode/utf8.acceptRanges", laid_unicode_utf8_acceptRanges), ("greatseal/der.kinds", laid_greatseal_der_kinds), ("unicode/utf8.first", laid_unicode_utf8_first)] }
def ClientMakesSaid : Prop := clientMakesRow.holds Tryz.pinned (OpenSpec.ofChange clientMakesSpec)

/-- ITS FALSE NEIGHBOUR: 'it returns false'. Refute it at one input. -/
def clientMakesWrong : ChangeSpec := { name := "clientMakes", fn := fun _ => fun
  | [d1, d2, d3, d4, d5] => { results := [.lit (.bool false)], args := [d1, d2, d3, d4, d5] }
  | _ => none }
def ClientMakesWrongFalsely : Prop := clientMakesRow.holds Tryz.pinned (OpenSpec.ofChange clientMakesWrong)

/-- 'greatseallaw29.ClientProves': WHATEVER THE INPUT: true; the input reads as it did. -/
def clientProvesSpec : ChangeSpec := { name := "clientProves", fn := fun _ => fun
  | [d1, d2, d3, d4] => { results := [.lit (.bool true)], args := [d1, d2, d3, d4] }
  | _ => none }
def clientProvesRow : OpenClaim := { program := "ytnhdojckpcbjeaagreatdoor", sum := "8dc2fa7a5334e8ac993254c3e40744cfcac205eced9faa3347f1c1b92469df93", func := "greatseal/greatseallaw29.ClientProves", spec := "clientProves", inPlace := ["math/bits.Add64", "internal/bytealg.CountString", "internal/bytealg.IndexByteString", "internal/bytealg.IndexString", "slices.overlaps[greatseal/api.Head]"], unfollowed := true, recurses := true, named := ["math/bits.divideError", "math/bits.overflowError", "internal/bytealg.MaxLen", "unicode/utf8.first", "unicode/utf8.acceptRanges", "greatseal/der.kinds"], apart := false, laid := [("unicode/utf8.acceptRanges", laid_unicode_utf8_acceptRanges), ("greatseal/der.kinds", laid_greatseal_der_kinds), ("unicode/utf8.first", laid_unicode_utf8_first)] }
def ClientProvesSaid : Prop := clientProvesRow.holds Tryz.pinned (OpenSpec.ofChange clientProvesSpec)

/-- ITS FALSE NEIGHBOUR: 'it returns false'. Refute it at one input. -/
def clientProvesWrong : ChangeSpec := { name := "clientProves", fn := fun _ => fun
  | [d1, d2, d3, d4] => { results := [.lit (.bool false)], args := [d1, d2, d3, d4] }
  | _ => none }
def ClientProvesWrongFalsely : Prop := clientProvesRow.holds Tryz.pinned (OpenSpec.ofChange clientProvesWrong)

/-- 'greatseallaw29.ClientMore': WHATEVER THE INPUT: true; the input reads as it did. -/
def clientMoreSpec : ChangeSpec := { name := "clientMore", fn := fun _ => fun
  | [d1, d2, d3, d4, d5, d6] => { results := [.lit (.bool true)], args := [d1, d2, d3, d4, d5, d6] }
  | _ => none }
def clientMoreRow : OpenClaim := { program := "ytnhdojckpcbjeaagreatdoor", sum := "8dc2fa7a5334e8ac993254c3e40744cfcac205eced9faa3347f1c1b92469df93", func := "greatseal/greatseallaw29.ClientMore", spec := "clientMore", inPlace := ["math/bits.Add64", "internal/bytealg.CountString", "internal/bytealg.IndexByteString", "internal/bytealg.IndexString", "slices.overlaps[greatseal/api.Head]"], unfollowed := true, recurses := true, named := ["math/bits.divideError", "math/bits.overflowError", "internal/bytealg.MaxLen", "unicode/utf8.first", "unicode/utf8.acceptRanges", "greatseal/der.kinds"], apart := false, laid := [("unicode/utf8.acceptRanges", laid_unicode_utf8_acceptRanges), ("greatseal/der.kinds", laid_greatseal_der_kinds), ("unicode/utf8.first", laid_unicode_utf8_first)] }
def ClientMoreSaid : Prop := clientMoreRow.holds Tryz.pinned (OpenSpec.ofChange clientMoreSpec)

/-- ITS FALSE NEIGHBOUR: 'it returns false'. Refute it at one input. -/
def clientMoreWrong : ChangeSpec := { name := "clientMore", fn := fun _ => fun
  | [d1, d2, d3, d4, d5, d6] => { results := [.lit (.bool false)], args := [d1, d2, d3, d4, d5, d6] }
  | _ => none }
def ClientMoreWrongFalsely : Prop := clientMoreRow.holds Tryz.pinned (OpenSpec.ofChange clientMoreWrong)

/-- 'greatseallaw29.ClientShop': WHATEVER THE INPUT: true; the input reads as it did. -/
def clientShopSpec : ChangeSpec := { name := "clientShop", fn := fun _ => fun
  | [d1, d2, d3, d4] => { results := [.lit (.bool true)], args := [d1, d2, d3, d4] }
  | _ => none }
def clientShopRow : OpenClaim := { program := "ytnhdojckpcbjeaagreatdoor", sum := "8dc2fa7a5334e8ac993254c3e40744cfcac205eced9faa3347f1c1b92469df93", func := "greatseal/greatseallaw29.ClientShop", spec := "clientShop", inPlace := ["math/bits.Add64", "internal/bytealg.CountString", "internal/bytealg.IndexByteString", "internal/bytealg.IndexString", "slices.overlaps[greatseal/api.Head]"], unfollowed := true, recurses := true, named := ["math/bits.divideError", "math/bits.overflowError", "internal/bytealg.MaxLen", "unicode/utf8.first", "unicode/utf8.acceptRanges", "greatseal/der.kinds"], apart := false, laid := [("unicode/utf8.acceptRanges", laid_unicode_utf8_acceptRanges), ("greatseal/der.kinds", laid_greatseal_der_kinds), ("unicode/utf8.first", laid_unicode_utf8_first)] }
def ClientShopSaid : Prop := clientShopRow.holds Tryz.pinned (OpenSpec.ofChange clientShopSpec)

/-- ITS FALSE NEIGHBOUR: 'it returns false'. Refute it at one input. -/
def clientShopWrong : ChangeSpec := { name := "clientShop", fn := fun _ => fun
  | [d1, d2, d3, d4] => { results := [.lit (.bool false)], args := [d1, d2, d3, d4] }
  | _ => none }
def ClientShopWrongFalsely : Prop := clientShopRow.holds Tryz.pinned (OpenSpec.ofChange clientShopWrong)

/-- 'greatseallaw29.ClientRoots': WHATEVER THE INPUT: true; the input reads as it did. -/
def clientRootsSpec : ChangeSpec := { name := "clientRoots", fn := fun _ => fun
  | [d1, d2, d3, d4, d5] => { results := [.lit (.bool true)], args := [d1, d2, d3, d4, d5] }
  | _ => none }
def clientRootsRow : OpenClaim := { program := "ytnhdojckpcbjeaagreatdoor", sum := "8dc2fa7a5334e8ac993254c3e40744cfcac205eced9faa3347f1c1b92469df93", func := "greatseal/greatseallaw29.ClientRoots", spec := "clientRoots", inPlace := ["math/bits.Add64", "internal/bytealg.CountString", "internal/bytealg.IndexByteString", "internal/bytealg.IndexString", "slices.overlaps[greatseal/api.Head]"], unfollowed := true, recurses := true, named := ["math/bits.divideError", "math/bits.overflowError", "internal/bytealg.MaxLen", "unicode/utf8.first", "unicode/utf8.acceptRanges", "greatseal/der.kinds"], apart := false, laid := [("unicode/utf8.acceptRanges", laid_unicode_utf8_acceptRanges), ("greatseal/der.kinds", laid_greatseal_der_kinds), ("unicode/utf8.first", laid_unicode_utf8_first)] }
def ClientRootsSaid : Prop := clientRootsRow.holds Tryz.pinned (OpenSpec.ofChange clientRootsSpec)

/-- ITS FALSE NEIGHBOUR: 'it returns false'. Refute it at one input. -/
def clientRootsWrong : ChangeSpec := { name := "clientRoots", fn := fun _ => fun
  | [d1, d2, d3, d4, d5] => { results := [.lit (.bool false)], args := [d1, d2, d3, d4, d5] }
  | _ => none }
def ClientRootsWrongFalsely : Prop := clientRootsRow.holds Tryz.pinned (OpenSpec.ofChange clientRootsWrong)

/-- 'greatseallaw29.ClientDays': WHATEVER THE INPUT: true; the input reads as it did. -/
def clientDaysSpec : ChangeSpec := { name := "clientDays", fn := fun _ => fun
  | [d1, d2, d3] => { results := [.lit (.bool true)], args := [d1, d2, d3] }
  | _ => none }
def clientDaysRow : OpenClaim := { program := "ytnhdojckpcbjeaagreatdoor", sum := "8dc2fa7a5334e8ac993254c3e40744cfcac205eced9faa3347f1c1b92469df93", func := "greatseal/greatseallaw29.ClientDays", spec := "clientDays", inPlace := ["math/bits.Add64", "internal/bytealg.CountString", "internal/bytealg.IndexByteString", "internal/bytealg.IndexString", "slices.overlaps[greatseal/api.Head]"], unfollowed := true, recurses := true, named := ["math/bits.divideError", "math/bits.overflowError", "internal/bytealg.MaxLen", "unicode/utf8.first", "unicode/utf8.acceptRanges", "greatseal/der.kinds"], apart := false, laid := [("unicode/utf8.acceptRanges", laid_unicode_utf8_acceptRanges), ("greatseal/der.kinds", laid_greatseal_der_kinds), ("unicode/utf8.first", laid_unicode_utf8_first)] }
def ClientDaysSaid : Prop := clientDaysRow.holds Tryz.pinned (OpenSpec.ofChange clientDaysSpec)

/-- ITS FALSE NEIGHBOUR: 'it returns false'. Refute it at one input. -/
def clientDaysWrong : ChangeSpec := { name := "clientDays", fn := fun _ => fun
  | [d1, d2, d3] => { results := [.lit (.bool false)], args := [d1, d2, d3] }
  | _ => none }
def ClientDaysWrongFalsely : Prop := clientDaysRow.holds Tryz.pinned (OpenSpec.ofChange clientDaysWrong)

/-- 'greatseallaw29.ClientViews': WHATEVER THE INPUT: true; the input reads as it did. -/
def clientViewsSpec : ChangeSpec := { name := "clientViews", fn := fun _ => fun
  | [d1, d2] => { results := [.lit (.bool true)], args := [d1, d2] }
  | _ => none }
def clientViewsRow : OpenClaim := { program := "ytnhdojckpcbjeaagreatdoor", sum := "8dc2fa7a5334e8ac993254c3e40744cfcac205eced9faa3347f1c1b92469df93", func := "greatseal/greatseallaw29.ClientViews", spec := "clientViews", inPlace := ["math/bits.Add64", "internal/bytealg.CountString", "internal/bytealg.IndexByteString", "internal/bytealg.IndexString", "slices.overlaps[greatseal/api.Head]", "slices.overlaps[int]"], unfollowed := true, recurses := true, named := ["math/bits.divideError", "math/bits.overflowError", "internal/bytealg.MaxLen", "unicode/utf8.first", "unicode/utf8.acceptRanges", "greatseal/der.kinds"], apart := false, laid := [("unicode/utf8.acceptRanges", laid_unicode_utf8_acceptRanges), ("greatseal/der.kinds", laid_greatseal_der_kinds), ("unicode/utf8.first", laid_unicode_utf8_first)] }
def ClientViewsSaid : Prop := clientViewsRow.holds Tryz.pinned (OpenSpec.ofChange clientViewsSpec)

/-- ITS FALSE NEIGHBOUR: 'it returns false'. Refute it at one input. -/
def clientViewsWrong : ChangeSpec := { name := "clientViews", fn := fun _ => fun
  | [d1, d2] => { results := [.lit (.bool false)], args := [d1, d2] }
  | _ => none }
def ClientViewsWrongFalsely : Prop := clientViewsRow.holds Tryz.pinned (OpenSpec.ofChange clientViewsWrong)

/- THE SECOND FORM. 'bulk': how many values and letters a reading holds, each counted each time it is reached (what is shared counts as often as it is met; a slice's spare places count too). A statement '..UptoSaid' is the law's where the arguments, and the package variables that the reading takes, are together of bulk at most 1048576: NARROWER than '..Said'. Prove '..Said' where nothing that the law and all that it calls make is longer than what came in: it says more and counts as full. Else prove '..UptoSaid'. A law counts once. -/
mutual
def uptoBulk {H : Type} : DataW H → Nat
  | .lit (.string bytes) => bytes.length + 1
  | .lit _ => 1
  | .nil => 1
  | .ptr d => uptoBulk d + 1
  | .slice elems spare => uptoBulkAll elems + uptoBulkAll spare + 1
  | .agg parts => uptoBulkAll parts + 1
  | .iface _ d => uptoBulk d + 1
  | .map entries => uptoBulkEntries entries + 1
  | .held _ => 1
def uptoBulkAll {H : Type} : List (DataW H) → Nat
  | [] => 0
  | d :: r => uptoBulk d + uptoBulkAll r
def uptoBulkEntries {H : Type} : List (Lit × DataW H) → Nat
  | [] => 0
  | x :: r => uptoBulkEntry x + uptoBulkEntries r
def uptoBulkEntry {H : Type} : Lit × DataW H → Nat
  | (.string bytes, d) => bytes.length + uptoBulk d + 1
  | (_, d) => uptoBulk d + 1
 end
def uptoSmall : (H : Type) → List (DataW H) → Bool := fun _ ds => decide (uptoBulkAll ds ≤ 1048576)
def OpenSpec.upto (s : _root_.Go.ChangeSpec) : _root_.Go.OpenSpec := { _root_.Go.OpenSpec.ofChange s with cond := some uptoSmall }

/-- 'greatseallaw29.ClientMakes', WHERE WHAT IT READS IS OF BULK AT MOST 1048576: true; the input reads as it did. -/
def clientMakesUptoRow : OpenClaim := { program := "ytnhdojckpcbjeaagreatdoor", sum := "8dc2fa7a5334e8ac993254c3e40744cfcac205eced9faa3347f1c1b92469df93", func := "greatseal/greatseallaw29.ClientMakes", spec := "clientMakes", inPlace := ["math/bits.Add64", "internal/bytealg.CountString", "internal/bytealg.IndexByteString", "internal/bytealg.IndexString", "slices.overlaps[greatseal/api.Head]"], unfollowed := true, recurses := true, named := ["math/bits.divideError", "math/bits.overflowError", "internal/bytealg.MaxLen", "unicode/utf8.first", "unicode/utf8.acceptRanges", "greatseal/der.kinds"], apart := false, laid := [("unicode/utf8.acceptRanges", laid_unicode_utf8_acceptRanges), ("greatseal/der.kinds", laid_greatseal_der_kinds), ("unicode/utf8.first", laid_unicode_utf8_first)], narrowed := true }
def ClientMakesUptoSaid : Prop := clientMakesUptoRow.holds Tryz.pinned (OpenSpec.upto clientMakesSpec)

/-- 'greatseallaw29.ClientProves', WHERE WHAT IT READS IS OF BULK AT MOST 1048576: true; the input reads as it did. -/
def clientProvesUptoRow : OpenClaim := { program := "ytnhdojckpcbjeaagreatdoor", sum := "8dc2fa7a5334e8ac993254c3e40744cfcac205eced9faa3347f1c1b92469df93", func := "greatseal/greatseallaw29.ClientProves", spec := "clientProves", inPlace := ["math/bits.Add64", "internal/bytealg.CountString", "internal/bytealg.IndexByteString", "internal/bytealg.IndexString", "slices.overlaps[greatseal/api.Head]"], unfollowed := true, recurses := true, named := ["math/bits.divideError", "math/bits.overflowError", "internal/bytealg.MaxLen", "unicode/utf8.first", "unicode/utf8.acceptRanges", "greatseal/der.kinds"], apart := false, laid := [("unicode/utf8.acceptRanges", laid_unicode_utf8_acceptRanges), ("greatseal/der.kinds", laid_greatseal_der_kinds), ("unicode/utf8.first", laid_unicode_utf8_first)], narrowed := true }
def ClientProvesUptoSaid : Prop := clientProvesUptoRow.holds Tryz.pinned (OpenSpec.upto clientProvesSpec)

/-- 'greatseallaw29.ClientMore', WHERE WHAT IT READS IS OF BULK AT MOST 1048576: true; the input reads as it did. -/
def clientMoreUptoRow : OpenClaim := { program := "ytnhdojckpcbjeaagreatdoor", sum := "8dc2fa7a5334e8ac993254c3e40744cfcac205eced9faa3347f1c1b92469df93", func := "greatseal/greatseallaw29.ClientMore", spec := "clientMore", inPlace := ["math/bits.Add64", "internal/bytealg.CountString", "internal/bytealg.IndexByteString", "internal/bytealg.IndexString", "slices.overlaps[greatseal/api.Head]"], unfollowed := true, recurses := true, named := ["math/bits.divideError", "math/bits.overflowError", "internal/bytealg.MaxLen", "unicode/utf8.first", "unicode/utf8.acceptRanges", "greatseal/der.kinds"], apart := false, laid := [("unicode/utf8.acceptRanges", laid_unicode_utf8_acceptRanges), ("greatseal/der.kinds", laid_greatseal_der_kinds), ("unicode/utf8.first", laid_unicode_utf8_first)], narrowed := true }
def ClientMoreUptoSaid : Prop := clientMoreUptoRow.holds Tryz.pinned (OpenSpec.upto clientMoreSpec)

/-- 'greatseallaw29.ClientShop', WHERE WHAT IT READS IS OF BULK AT MOST 1048576: true; the input reads as it did. -/
def clientShopUptoRow : OpenClaim := { program := "ytnhdojckpcbjeaagreatdoor", sum := "8dc2fa7a5334e8ac993254c3e40744cfcac205eced9faa3347f1c1b92469df93", func := "greatseal/greatseallaw29.ClientShop", spec := "clientShop", inPlace := ["math/bits.Add64", "internal/bytealg.CountString", "internal/bytealg.IndexByteString", "internal/bytealg.IndexString", "slices.overlaps[greatseal/api.Head]"], unfollowed := true, recurses := true, named := ["math/bits.divideError", "math/bits.overflowError", "internal/bytealg.MaxLen", "unicode/utf8.first", "unicode/utf8.acceptRanges", "greatseal/der.kinds"], apart := false, laid := [("unicode/utf8.acceptRanges", laid_unicode_utf8_acceptRanges), ("greatseal/der.kinds", laid_greatseal_der_kinds), ("unicode/utf8.first", laid_unicode_utf8_first)], narrowed := true }
def ClientShopUptoSaid : Prop := clientShopUptoRow.holds Tryz.pinned (OpenSpec.upto clientShopSpec)

/-- 'greatseallaw29.ClientRoots', WHERE WHAT IT READS IS OF BULK AT MOST 1048576: true; the input reads as it did. -/
def clientRootsUptoRow : OpenClaim := { program := "ytnhdojckpcbjeaagreatdoor", sum := "8dc2fa7a5334e8ac993254c3e40744cfcac205eced9faa3347f1c1b92469df93", func := "greatseal/greatseallaw29.ClientRoots", spec := "clientRoots", inPlace := ["math/bits.Add64", "internal/bytealg.CountString", "internal/bytealg.IndexByteString", "internal/bytealg.IndexString", "slices.overlaps[greatseal/api.Head]"], unfollowed := true, recurses := true, named := ["math/bits.divideError", "math/bits.overflowError", "internal/bytealg.MaxLen", "unicode/utf8.first", "unicode/utf8.acceptRanges", "greatseal/der.kinds"], apart := false, laid := [("unicode/utf8.acceptRanges", laid_unicode_utf8_acceptRanges), ("greatseal/der.kinds", laid_greatseal_der_kinds), ("unicode/utf8.first", laid_unicode_utf8_first)], narrowed := true }
def ClientRootsUptoSaid : Prop := clientRootsUptoRow.holds Tryz.pinned (OpenSpec.upto clientRootsSpec)

/-- 'greatseallaw29.ClientDays', WHERE WHAT IT READS IS OF BULK AT MOST 1048576: true; the input reads as it did. -/
def clientDaysUptoRow : OpenClaim := { program := "ytnhdojckpcbjeaagreatdoor", sum := "8dc2fa7a5334e8ac993254c3e40744cfcac205eced9faa3347f1c1b92469df93", func := "greatseal/greatseallaw29.ClientDays", spec := "clientDays", inPlace := ["math/bits.Add64", "internal/bytealg.CountString", "internal/bytealg.IndexByteString", "internal/bytealg.IndexString", "slices.overlaps[greatseal/api.Head]"], unfollowed := true, recurses := true, named := ["math/bits.divideError", "math/bits.overflowError", "internal/bytealg.MaxLen", "unicode/utf8.first", "unicode/utf8.acceptRanges", "greatseal/der.kinds"], apart := false, laid := [("unicode/utf8.acceptRanges", laid_unicode_utf8_acceptRanges), ("greatseal/der.kinds", laid_greatseal_der_kinds), ("unicode/utf8.first", laid_unicode_utf8_first)], narrowed := true }
def ClientDaysUptoSaid : Prop := clientDaysUptoRow.holds Tryz.pinned (OpenSpec.upto clientDaysSpec)

/-- 'greatseallaw29.ClientViews', WHERE WHAT IT READS IS OF BULK AT MOST 1048576: true; the input reads as it did. -/
def clientViewsUptoRow : OpenClaim := { program := "ytnhdojckpcbjeaagreatdoor", sum := "8dc2fa7a5334e8ac993254c3e40744cfcac205eced9faa3347f1c1b92469df93", func := "greatseal/greatseallaw29.ClientViews", spec := "clientViews", inPlace := ["math/bits.Add64", "internal/bytealg.CountString", "internal/bytealg.IndexByteString", "internal/bytealg.IndexString", "slices.overlaps[greatseal/api.Head]", "slices.overlaps[int]"], unfollowed := true, recurses := true, named := ["math/bits.divideError", "math/bits.overflowError", "internal/bytealg.MaxLen", "unicode/utf8.first", "unicode/utf8.acceptRanges", "greatseal/der.kinds"], apart := false, laid := [("unicode/utf8.acceptRanges", laid_unicode_utf8_acceptRanges), ("greatseal/der.kinds", laid_greatseal_der_kinds), ("unicode/utf8.first", laid_unicode_utf8_first)], narrowed := true }
def ClientViewsUptoSaid : Prop := clientViewsUptoRow.holds Tryz.pinned (OpenSpec.upto clientViewsSpec)

end Rows
end Go.Proofs.YtnhdojckpcbjeaaGreatDoor
