/-
  NARROWER THAN 'FOR EVERY INPUT', by the rows' own cells (each row's printed sentence says how): CertChecks: laid · CertPuts: laid · CertGets: laid · CertBack: laid · CertOnly: laid · CertLeaf: laid · CertUnlike: laid · CertParts: laid · CertKinds: laid.
  DERIVED. THE GIVEN ROWS OF THIS SEAT. 9 by the template 'for every input the law returns true; each argument reads behind the call as it read before'; 0 by the template 'total and deterministic' (their statements: YtlnbckkkapbdmaaGreatDoorTotals.lean).
  GIVEN WITH THE SEED: the statements are not yours to turn. If you find one false, say at which input.
  Laid BY PROGRAM, IN A SANDBOX (cutbox-rows.mjs): the forced cells as the released guide's own fill.sh prints them over the translation b0987709f6bdabc0… (all of the seat's roots in one cut). By AI agents, Wed Nov 11 2026. No macro, syntax, notation, axiom, sorry.
-/
import Derived.Test.YtlnbckkkapbdmaaGreatDoorChecked
import GoSem.PinnedTables
import GoSem.Claim
import GoSem.ClaimJoined
import GoSem.ClaimMapViews
import Derived.JoinedTies
import Derived.KernelRfl
namespace Go.Proofs.YtlnbckkkapbdmaaGreatDoor
/- THE CELL 'sum', in the pinned program and in every row, IS THE sha256 OF THE DUMP (.gsa) THAT YtlnbckkkapbdmaaGreatDoorProg.lean LOADS. Nothing in Lean hashes anything: it is a label: what it is worth is what the hold of that sum in a sandbox is worth. -/
noncomputable def Tryz.pinned : Pinned := { name := "ytlnbckkkapbdmaagreatdoor", sum := "b0987709f6bdabc01e888e363848f426983b7c0e9b437b234dd8fb61f497eb86", checked := Tryz.checked }
namespace Rows
def none {H : Type} : Left H := { results := [], args := [] }

/- WHAT THE LISTED PACKAGE-LEVEL VARIABLES READ AS WHEN THE CALL BEGINS. Each datum BY PROGRAM (the guide's laid-datum.mjs) off the statement by which the dump's own 'gosem.cut.vars' lays the variable. In a bare row this is a premise. The card (YtlnbckkkapbdmaaGreatDoorCards.lean) ties it to the program's text. -/
def laid_unicode_utf8_acceptRanges {H : Type} : DataW H := .agg [.agg [.lit (.int .u8 128), .lit (.int .u8 191)], .agg [.lit (.int .u8 160), .lit (.int .u8 191)], .agg [.lit (.int .u8 128), .lit (.int .u8 159)], .agg [.lit (.int .u8 144), .lit (.int .u8 191)], .agg [.lit (.int .u8 128), .lit (.int .u8 143)], .agg [.lit (.int .u8 0), .lit (.int .u8 0)], .agg [.lit (.int .u8 0), .lit (.int .u8 0)], .agg [.lit (.int .u8 0), .lit (.int .u8 0)], .agg [.lit (.int .u8 0), .lit (.int .u8 0)], .agg [.lit (.int .u8 0), .lit (.int .u8 0)], .agg [.lit (.int .u8 0), .lit (.int .u8 0)], .agg [.lit (.int .u8 0), .lit (.int .u8 0)], .agg [.lit (.int .u8 0), .lit (.int .u8 0)], .agg [.lit (.int .u8 0), .lit (.int .u8 0)], .agg [.lit (.int .u8 0), .lit (.int .u8 0)], .agg [.lit (.int .u8 0), .lit (.int .u8 0)]]
def laid_greatseal_der_kinds {H : Type} : DataW H := .iface "func table" (.agg [.agg [.lit (.int .i64 1), .iface "func" (.lit (.string [103, 114, 101, 97, 116, 115, 101, 97, 108, 47, 100, 101, 114, 46, 107, 105, 110, 100, 115, 36, 49]))], .agg [.lit (.int .i64 2), .iface "func" (.lit (.string [103, 114, 101, 97, 116, 115, 101, 97, 108, 47, 100, 101, 114, 46, 108, 101, 97, 115, 116]))], .agg [.lit (.int .i64 4), .iface "func" (.lit (.string [103, 114, 101, 97, 116, 115, 101, 97, 108, 47, 100, 101, 114, 46, 107, 105, 110, 100, 115, 36, 50]))], .agg [.lit (.int .i64 12), .iface "func" (.lit (.string [103, 114, 101, 97, 116, 115, 101, 97, 108, 47, 100, 101, 114, 46, 107, 105, 110, 100, 115, 36, 51]))], .agg [.lit (.int .i64 48), .iface "func" (.lit (.string [103, 114, 101, 97, 116, 115, 101, 97, 108, 47, 100, 101, 114, 46, 107, 105, 110, 100, 115, 36, 52]))]])
/-- One of Go's own tables, pinned by name: the form's constant. -/
def laid_unicode_utf8_first : DataW Unit := Go.Pinned.utf8First

/-- 'greatseallaw18.CertChecks': WHATEVER THE INPUT: true; the input reads as it did. -/
def certChecksSpec : ChangeSpec := { name := "certChecks", fn := fun _ => fun
  | [d1, d2] => { results := [.lit (.bool true)], args := [d1, d2] }
  | _ => none }
def certChecksRow : OpenClaim := { program := "ytlnbckkkapbdmaagreatdoor", sum := "b0987709f6bdabc01e888e363848f426983b7c0e9b437b234dd8fb61f497eb86", func := "greatseal/greatseallaw18.CertChecks", spec := "certChecks", inPlace := ["internal/bytealg.CountString", "internal/bytealg.IndexByteString", "internal/bytealg.IndexString"], unfollowed := true, recurses := true, named := ["internal/bytealg.MaxLen", "unicode/utf8.first", "unicode/utf8.acceptRanges", "greatseal/der.kinds"], apart := false, laid := [("unicode/utf8.acceptRanges", laid_unicode_utf8_acceptRanges), ("greatseal/der.kinds", laid_greatseal_der_kinds), ("unicode/utf8.first", laid_unicode_utf8_first)] }
def CertChecksSaid : Prop := certChecksRow.holds Tryz.pinned (OpenSpec.ofChange certChecksSpec)

/-- ITS FALSE NEIGHBOUR: 'it returns false'. Refute it at one input. -/
def certChecksWrong : ChangeSpec := { name := "certChecks", fn := fun _ => fun
  | [d1, d2] => { results := [.lit (.bool false)], args := [d1, d2] }
  | _ => none }
def CertChecksWrongFalsely : Prop := certChecksRow.holds Tryz.pinned (OpenSpec.ofChange certChecksWrong)

/-- 'greatseallaw18.CertPuts': WHATEVER THE INPUT: true; the input reads as it did. -/
def certPutsSpec : ChangeSpec := { name := "certPuts", fn := fun _ => fun
  | [d] => { results := [.lit (.bool true)], args := [d] }
  | _ => none }
def certPutsRow : OpenClaim := { program := "ytlnbckkkapbdmaagreatdoor", sum := "b0987709f6bdabc01e888e363848f426983b7c0e9b437b234dd8fb61f497eb86", func := "greatseal/greatseallaw18.CertPuts", spec := "certPuts", inPlace := ["internal/bytealg.CountString", "internal/bytealg.IndexByteString", "internal/bytealg.IndexString"], unfollowed := true, recurses := true, named := ["internal/bytealg.MaxLen", "unicode/utf8.first", "unicode/utf8.acceptRanges", "greatseal/der.kinds"], apart := false, laid := [("unicode/utf8.acceptRanges", laid_unicode_utf8_acceptRanges), ("greatseal/der.kinds", laid_greatseal_der_kinds), ("unicode/utf8.first", laid_unicode_utf8_first)] }
def CertPutsSaid : Prop := certPutsRow.holds Tryz.pinned (OpenSpec.ofChange certPutsSpec)

/-- ITS FALSE NEIGHBOUR: 'it returns false'. Refute it at one input. -/
def certPutsWrong : ChangeSpec := { name := "certPuts", fn := fun _ => fun
  | [d] => { results := [.lit (.bool false)], args := [d] }
  | _ => none }
def CertPutsWrongFalsely : Prop := certPutsRow.holds Tryz.pinned (OpenSpec.ofChange certPutsWrong)

/-- 'greatseallaw18.CertGets': WHATEVER THE INPUT: true; the input reads as it did. -/
def certGetsSpec : ChangeSpec := { name := "certGets", fn := fun _ => fun
  | [d] => { results := [.lit (.bool true)], args := [d] }
  | _ => none }
def certGetsRow : OpenClaim := { program := "ytlnbckkkapbdmaagreatdoor", sum := "b0987709f6bdabc01e888e363848f426983b7c0e9b437b234dd8fb61f497eb86", func := "greatseal/greatseallaw18.CertGets", spec := "certGets", inPlace := ["internal/bytealg.CountString", "internal/bytealg.IndexByteString", "internal/bytealg.IndexString"], unfollowed := true, recurses := true, named := ["internal/bytealg.MaxLen", "unicode/utf8.first", "unicode/utf8.acceptRanges", "greatseal/der.kinds"], apart := false, laid := [("unicode/utf8.acceptRanges", laid_unicode_utf8_acceptRanges), ("greatseal/der.kinds", laid_greatseal_der_kinds), ("unicode/utf8.first", laid_unicode_utf8_first)] }
def CertGetsSaid : Prop := certGetsRow.holds Tryz.pinned (OpenSpec.ofChange certGetsSpec)

/-- ITS FALSE NEIGHBOUR: 'it returns false'. Refute it at one input. -/
def certGetsWrong : ChangeSpec := { name := "certGets", fn := fun _ => fun
  | [d] => { results := [.lit (.bool false)], args := [d] }
  | _ => none }
def CertGetsWrongFalsely : Prop := certGetsRow.holds Tryz.pinned (OpenSpec.ofChange certGetsWrong)

/-- 'greatseallaw18.CertBack': WHATEVER THE INPUT: true; the input reads as it did. -/
def certBackSpec : ChangeSpec := { name := "certBack", fn := fun _ => fun
  | [d1, d2] => { results := [.lit (.bool true)], args := [d1, d2] }
  | _ => none }
def certBackRow : OpenClaim := { program := "ytlnbckkkapbdmaagreatdoor", sum := "b0987709f6bdabc01e888e363848f426983b7c0e9b437b234dd8fb61f497eb86", func := "greatseal/greatseallaw18.CertBack", spec := "certBack", inPlace := ["internal/bytealg.CountString", "internal/bytealg.IndexByteString", "internal/bytealg.IndexString"], unfollowed := true, recurses := true, named := ["internal/bytealg.MaxLen", "unicode/utf8.first", "unicode/utf8.acceptRanges", "greatseal/der.kinds"], apart := false, laid := [("unicode/utf8.acceptRanges", laid_unicode_utf8_acceptRanges), ("greatseal/der.kinds", laid_greatseal_der_kinds), ("unicode/utf8.first", laid_unicode_utf8_first)] }
def CertBackSaid : Prop := certBackRow.holds Tryz.pinned (OpenSpec.ofChange certBackSpec)

/-- ITS FALSE NEIGHBOUR: 'it returns false'. Refute it at one input. -/
def certBackWrong : ChangeSpec := { name := "certBack", fn := fun _ => fun
  | [d1, d2] => { results := [.lit (.bool false)], args := [d1, d2] }
  | _ => none }
def CertBackWrongFalsely : Prop := certBackRow.holds Tryz.pinned (OpenSpec.ofChange certBackWrong)

/-- 'greatseallaw18.CertOnly': WHATEVER THE INPUT: true; the input reads as it did. -/
def certOnlySpec : ChangeSpec := { name := "certOnly", fn := fun _ => fun
  | [d] => { results := [.lit (.bool true)], args := [d] }
  | _ => none }
def certOnlyRow : OpenClaim := { program := "ytlnbckkkapbdmaagreatdoor", sum := "b0987709f6bdabc01e888e363848f426983b7c0e9b437b234dd8fb61f497eb86", func := "greatseal/greatseallaw18.CertOnly", spec := "certOnly", inPlace := ["internal/bytealg.CountString", "internal/bytealg.IndexByteString", "internal/bytealg.IndexString"], unfollowed := true, recurses := true, named := ["internal/bytealg.MaxLen", "unicode/utf8.first", "unicode/utf8.acceptRanges", "greatseal/der.kinds"], apart := false, laid := [("unicode/utf8.acceptRanges", laid_unicode_utf8_acceptRanges), ("greatseal/der.kinds", laid_greatseal_der_kinds), ("unicode/utf8.first", laid_unicode_utf8_first)] }
def CertOnlySaid : Prop := certOnlyRow.holds Tryz.pinned (OpenSpec.ofChange certOnlySpec)

/-- ITS FALSE NEIGHBOUR: 'it returns false'. Refute it at one input. -/
def certOnlyWrong : ChangeSpec := { name := "certOnly", fn := fun _ => fun
  | [d] => { results := [.lit (.bool false)], args := [d] }
  | _ => none }
def CertOnlyWrongFalsely : Prop := certOnlyRow.holds Tryz.pinned (OpenSpec.ofChange certOnlyWrong)

/-- 'greatseallaw18.CertLeaf': WHATEVER THE INPUT: true; the input reads as it did. -/
def certLeafSpec : ChangeSpec := { name := "certLeaf", fn := fun _ => fun
  | [d1, d2] => { results := [.lit (.bool true)], args := [d1, d2] }
  | _ => none }
def certLeafRow : OpenClaim := { program := "ytlnbckkkapbdmaagreatdoor", sum := "b0987709f6bdabc01e888e363848f426983b7c0e9b437b234dd8fb61f497eb86", func := "greatseal/greatseallaw18.CertLeaf", spec := "certLeaf", inPlace := ["internal/bytealg.CountString", "internal/bytealg.IndexByteString", "internal/bytealg.IndexString"], unfollowed := true, recurses := true, named := ["internal/bytealg.MaxLen", "unicode/utf8.first", "unicode/utf8.acceptRanges", "greatseal/der.kinds"], apart := false, laid := [("unicode/utf8.acceptRanges", laid_unicode_utf8_acceptRanges), ("greatseal/der.kinds", laid_greatseal_der_kinds), ("unicode/utf8.first", laid_unicode_utf8_first)] }
def CertLeafSaid : Prop := certLeafRow.holds Tryz.pinned (OpenSpec.ofChange certLeafSpec)

/-- ITS FALSE NEIGHBOUR: 'it returns false'. Refute it at one input. -/
def certLeafWrong : ChangeSpec := { name := "certLeaf", fn := fun _ => fun
  | [d1, d2] => { results := [.lit (.bool false)], args := [d1, d2] }
  | _ => none }
def CertLeafWrongFalsely : Prop := certLeafRow.holds Tryz.pinned (OpenSpec.ofChange certLeafWrong)

/-- 'greatseallaw18.CertUnlike': WHATEVER THE INPUT: true; the input reads as it did. -/
def certUnlikeSpec : ChangeSpec := { name := "certUnlike", fn := fun _ => fun
  | [d1, d2] => { results := [.lit (.bool true)], args := [d1, d2] }
  | _ => none }
def certUnlikeRow : OpenClaim := { program := "ytlnbckkkapbdmaagreatdoor", sum := "b0987709f6bdabc01e888e363848f426983b7c0e9b437b234dd8fb61f497eb86", func := "greatseal/greatseallaw18.CertUnlike", spec := "certUnlike", inPlace := ["internal/bytealg.CountString", "internal/bytealg.IndexByteString", "internal/bytealg.IndexString"], unfollowed := true, recurses := true, named := ["internal/bytealg.MaxLen", "unicode/utf8.first", "unicode/utf8.acceptRanges", "greatseal/der.kinds"], apart := false, laid := [("unicode/utf8.acceptRanges", laid_unicode_utf8_acceptRanges), ("greatseal/der.kinds", laid_greatseal_der_kinds), ("unicode/utf8.first", laid_unicode_utf8_first)] }
def CertUnlikeSaid : Prop := certUnlikeRow.holds Tryz.pinned (OpenSpec.ofChange certUnlikeSpec)

/-- ITS FALSE NEIGHBOUR: 'it returns false'. Refute it at one input. -/
def certUnlikeWrong : ChangeSpec := { name := "certUnlike", fn := fun _ => fun
  | [d1, d2] => { results := [.lit (.bool false)], args := [d1, d2] }
  | _ => none }
def CertUnlikeWrongFalsely : Prop := certUnlikeRow.holds Tryz.pinned (OpenSpec.ofChange certUnlikeWrong)

/-- 'greatseallaw18.CertParts': WHATEVER THE INPUT: true; the input reads as it did. -/
def certPartsSpec : ChangeSpec := { name := "certParts", fn := fun _ => fun
  | [d] => { results := [.lit (.bool true)], args := [d] }
  | _ => none }
def certPartsRow : OpenClaim := { program := "ytlnbckkkapbdmaagreatdoor", sum := "b0987709f6bdabc01e888e363848f426983b7c0e9b437b234dd8fb61f497eb86", func := "greatseal/greatseallaw18.CertParts", spec := "certParts", inPlace := ["internal/bytealg.CountString", "internal/bytealg.IndexByteString", "internal/bytealg.IndexString"], unfollowed := true, recurses := true, named := ["internal/bytealg.MaxLen", "unicode/utf8.first", "unicode/utf8.acceptRanges", "greatseal/der.kinds"], apart := false, laid := [("unicode/utf8.acceptRanges", laid_unicode_utf8_acceptRanges), ("greatseal/der.kinds", laid_greatseal_der_kinds), ("unicode/utf8.first", laid_unicode_utf8_first)] }
def CertPartsSaid : Prop := certPartsRow.holds Tryz.pinned (OpenSpec.ofChange certPartsSpec)

/-- ITS FALSE NEIGHBOUR: 'it returns false'. Refute it at one input. -/
def certPartsWrong : ChangeSpec := { name := "certParts", fn := fun _ => fun
  | [d] => { results := [.lit (.bool false)], args := [d] }
  | _ => none }
def CertPartsWrongFalsely : Prop := certPartsRow.holds Tryz.pinned (OpenSpec.ofChange certPartsWrong)

/-- 'greatseallaw18.CertKinds': WHATEVER THE INPUT: true; the input reads as it did. -/
def certKindsSpec : ChangeSpec := { name := "certKinds", fn := fun _ => fun
  | [d1, d2] => { results := [.lit (.bool true)], args := [d1, d2] }
  | _ => none }
def certKindsRow : OpenClaim := { program := "ytlnbckkkapbdmaagreatdoor", sum := "b0987709f6bdabc01e888e363848f426983b7c0e9b437b234dd8fb61f497eb86", func := "greatseal/greatseallaw18.CertKinds", spec := "certKinds", inPlace := ["internal/bytealg.CountString", "internal/bytealg.IndexByteString", "internal/bytealg.IndexString"], unfollowed := true, recurses := true, named := ["internal/bytealg.MaxLen", "unicode/utf8.first", "unicode/utf8.acceptRanges", "greatseal/der.kinds"], apart := false, laid := [("unicode/utf8.acceptRanges", laid_unicode_utf8_acceptRanges), ("greatseal/der.kinds", laid_greatseal_der_kinds), ("unicode/utf8.first", laid_unicode_utf8_first)] }
def CertKindsSaid : Prop := certKindsRow.holds Tryz.pinned (OpenSpec.ofChange certKindsSpec)

/-- ITS FALSE NEIGHBOUR: 'it returns false'. Refute it at one input. -/
def certKindsWrong : ChangeSpec := { name := "certKinds", fn := fun _ => fun
  | [d1, d2] => { results := [.lit (.bool false)], args := [d1, d2] }
  | _ => none }
def CertKindsWrongFalsely : Prop := certKindsRow.holds Tryz.pinned (OpenSpec.ofChange certKindsWrong)

/- THE SECOND FORM. 'bulk': how many values and letters a reading holds, each counted each time it is reached (what is shared counts as often as it is met; a slice's spare places count too). A statement '..UptoSaid' is the law's where the arguments, and the package variables that the reading takes, are together of bulk at most 1048576: NARROWER than '..Said'. Prove '..Said' where nothing that the law and all that it calls make is longer than what came in: it says more and counts as full. Else prove '..UptoSaid'. A law counts once. -/
mutual
def uptoBulk {H : Type} : DataW H → Nat
  | .lit (.string bytes) => bytes.length + 1
  | .lit _ => 1
  | .nil => 1
  | .ptr d => uptoBulk d + 1
  | .slice elems spare => uptoBulkAll elems + uptoBulkAll spare + 1
  | .agg parts => uptoBulkAll parts + 1
  | .iface _ d => uptoBulk d + 1
  | .map entries => uptoBulkEntries entries + 1
  | .held _ => 1
def uptoBulkAll {H : Type} : List (DataW H) → Nat
  | [] => 0
  | d :: r => uptoBulk d + uptoBulkAll r
def uptoBulkEntries {H : Type} : List (Lit × DataW H) → Nat
  | [] => 0
  | x :: r => uptoBulkEntry x + uptoBulkEntries r
def uptoBulkEntry {H : Type} : Lit × DataW H → Nat
  | (.string bytes, d) => bytes.length + uptoBulk d + 1
  | (_, d) => uptoBulk d + 1
 end
def uptoSmall : (H : Type) → List (DataW H) → Bool := fun _ ds => decide (uptoBulkAll ds ≤ 1048576)
def OpenSpec.upto (s : _root_.Go.ChangeSpec) : _root_.Go.OpenSpec := { _root_.Go.OpenSpec.ofChange s with cond := some uptoSmall }

/-- 'greatseallaw18.CertChecks', WHERE WHAT IT READS IS OF BULK AT MOST 1048576: true; the input reads as it did. -/
def certChecksUptoRow : OpenClaim := { program := "ytlnbckkkapbdmaagreatdoor", sum := "b0987709f6bdabc01e888e363848f426983b7c0e9b437b234dd8fb61f497eb86", func := "greatseal/greatseallaw18.CertChecks", spec := "certChecks", inPlace := ["internal/bytealg.CountString", "internal/bytealg.IndexByteString", "internal/bytealg.IndexString"], unfollowed := true, recurses := true, named := ["internal/bytealg.MaxLen", "unicode/utf8.first", "unicode/utf8.acceptRanges", "greatseal/der.kinds"], apart := false, laid := [("unicode/utf8.acceptRanges", laid_unicode_utf8_acceptRanges), ("greatseal/der.kinds", laid_greatseal_der_kinds), ("unicode/utf8.first", laid_unicode_utf8_first)], narrowed := true }
def CertChecksUptoSaid : Prop := certChecksUptoRow.holds Tryz.pinned (OpenSpec.upto certChecksSpec)

/-- 'greatseallaw18.CertPuts', WHERE WHAT IT READS IS OF BULK AT MOST 1048576: true; the input reads as it did. -/
def certPutsUptoRow : OpenClaim := { program := "ytlnbckkkapbdmaagreatdoor", sum := "b0987709f6bdabc01e888e363848f426983b7c0e9b437b234dd8fb61f497eb86", func := "greatseal/greatseallaw18.CertPuts", spec := "certPuts", inPlace := ["internal/bytealg.CountString", "internal/bytealg.IndexByteString", "internal/bytealg.IndexString"], unfollowed := true, recurses := true, named := ["internal/bytealg.MaxLen", "unicode/utf8.first", "unicode/utf8.acceptRanges", "greatseal/der.kinds"], apart := false, laid := [("unicode/utf8.acceptRanges", laid_unicode_utf8_acceptRanges), ("greatseal/der.kinds", laid_greatseal_der_kinds), ("unicode/utf8.first", laid_unicode_utf8_first)], narrowed := true }
def CertPutsUptoSaid : Prop := certPutsUptoRow.holds Tryz.pinned (OpenSpec.upto certPutsSpec)

/-- 'greatseallaw18.CertGets', WHERE WHAT IT READS IS OF BULK AT MOST 1048576: true; the input reads as it did. -/
def certGetsUptoRow : OpenClaim := { program := "ytlnbckkkapbdmaagreatdoor", sum := "b0987709f6bdabc01e888e363848f426983b7c0e9b437b234dd8fb61f497eb86", func := "greatseal/greatseallaw18.CertGets", spec := "certGets", inPlace := ["internal/bytealg.CountString", "internal/bytealg.IndexByteString", "internal/bytealg.IndexString"], unfollowed := true, recurses := true, named := ["internal/bytealg.MaxLen", "unicode/utf8.first", "unicode/utf8.acceptRanges", "greatseal/der.kinds"], apart := false, laid := [("unicode/utf8.acceptRanges", laid_unicode_utf8_acceptRanges), ("greatseal/der.kinds", laid_greatseal_der_kinds), ("unicode/utf8.first", laid_unicode_utf8_first)], narrowed := true }
def CertGetsUptoSaid : Prop := certGetsUptoRow.holds Tryz.pinned (OpenSpec.upto certGetsSpec)

/-- 'greatseallaw18.CertBack', WHERE WHAT IT READS IS OF BULK AT MOST 1048576: true; the input reads as it did. -/
def certBackUptoRow : OpenClaim := { program := "ytlnbckkkapbdmaagreatdoor", sum := "b0987709f6bdabc01e888e363848f426983b7c0e9b437b234dd8fb61f497eb86", func := "greatseal/greatseallaw18.CertBack", spec := "certBack", inPlace := ["internal/bytealg.CountString", "internal/bytealg.IndexByteString", "internal/bytealg.IndexString"], unfollowed := true, recurses := true, named := ["internal/bytealg.MaxLen", "unicode/utf8.first", "unicode/utf8.acceptRanges", "greatseal/der.kinds"], apart := false, laid := [("unicode/utf8.acceptRanges", laid_unicode_utf8_acceptRanges), ("greatseal/der.kinds", laid_greatseal_der_kinds), ("unicode/utf8.first", laid_unicode_utf8_first)], narrowed := true }
def CertBackUptoSaid : Prop := certBackUptoRow.holds Tryz.pinned (OpenSpec.upto certBackSpec)

/-- 'greatseallaw18.CertOnly', WHERE WHAT IT READS IS OF BULK AT MOST 1048576: true; the input reads as it did. -/
def certOnlyUptoRow : OpenClaim := { program := "ytlnbckkkapbdmaagreatdoor", sum := "b0987709f6bdabc01e888e363848f426983b7c0e9b437b234dd8fb61f497eb86", func := "greatseal/greatseallaw18.CertOnly", spec := "certOnly", inPlace := ["internal/bytealg.CountString", "internal/bytealg.IndexByteString", "internal/bytealg.IndexString"], unfollowed := true, recurses := true, named := ["internal/bytealg.MaxLen", "unicode/utf8.first", "unicode/utf8.acceptRanges", "greatseal/der.kinds"], apart := false, laid := [("unicode/utf8.acceptRanges", laid_unicode_utf8_acceptRanges), ("greatseal/der.kinds", laid_greatseal_der_kinds), ("unicode/utf8.first", laid_unicode_utf8_first)], narrowed := true }
def CertOnlyUptoSaid : Prop := certOnlyUptoRow.holds Tryz.pinned (OpenSpec.upto certOnlySpec)

/-- 'greatseallaw18.CertLeaf', WHERE WHAT IT READS IS OF BULK AT MOST 1048576: true; the input reads as it did. -/
def certLeafUptoRow : OpenClaim := { program := "ytlnbckkkapbdmaagreatdoor", sum := "b0987709f6bdabc01e888e363848f426983b7c0e9b437b234dd8fb61f497eb86", func := "greatseal/greatseallaw18.CertLeaf", spec := "certLeaf", inPlace := ["internal/bytealg.CountString", "internal/bytealg.IndexByteString", "internal/bytealg.IndexString"], unfollowed := true, recurses := true, named := ["internal/bytealg.MaxLen", "unicode/utf8.first", "unicode/utf8.acceptRanges", "greatseal/der.kinds"], apart := false, laid := [("unicode/utf8.acceptRanges", laid_unicode_utf8_acceptRanges), ("greatseal/der.kinds", laid_greatseal_der_kinds), ("unicode/utf8.first", laid_unicode_utf8_first)], narrowed := true }
def CertLeafUptoSaid : Prop := certLeafUptoRow.holds Tryz.pinned (OpenSpec.upto certLeafSpec)

/-- 'greatseallaw18.CertUnlike', WHERE WHAT IT READS IS OF BULK AT MOST 1048576: true; the input reads as it did. -/
def certUnlikeUptoRow : OpenClaim := { program := "ytlnbckkkapbdmaagreatdoor", sum := "b0987709f6bdabc01e888e363848f426983b7c0e9b437b234dd8fb61f497eb86", func := "greatseal/greatseallaw18.CertUnlike", spec := "certUnlike", inPlace := ["internal/bytealg.CountString", "internal/bytealg.IndexByteString", "internal/bytealg.IndexString"], unfollowed := true, recurses := true, named := ["internal/bytealg.MaxLen", "unicode/utf8.first", "unicode/utf8.acceptRanges", "greatseal/der.kinds"], apart := false, laid := [("unicode/utf8.acceptRanges", laid_unicode_utf8_acceptRanges), ("greatseal/der.kinds", laid_greatseal_der_kinds), ("unicode/utf8.first", laid_unicode_utf8_first)], narrowed := true }
def CertUnlikeUptoSaid : Prop := certUnlikeUptoRow.holds Tryz.pinned (OpenSpec.upto certUnlikeSpec)

/-- 'greatseallaw18.CertParts', WHERE WHAT IT READS IS OF BULK AT MOST 1048576: true; the input reads as it did. -/
def certPartsUptoRow : OpenClaim := { program := "ytlnbckkkapbdmaagreatdoor", sum := "b0987709f6bdabc01e888e363848f426983b7c0e9b437b234dd8fb61f497eb86", func := "greatseal/greatseallaw18.CertParts", spec := "certParts", inPlace := ["internal/bytealg.CountString", "internal/bytealg.IndexByteString", "internal/bytealg.IndexString"], unfollowed := true, recurses := true, named := ["internal/bytealg.MaxLen", "unicode/utf8.first", "unicode/utf8.acceptRanges", "greatseal/der.kinds"], apart := false, laid := [("unicode/utf8.acceptRanges", laid_unicode_utf8_acceptRanges), ("greatseal/der.kinds", laid_greatseal_der_kinds), ("unicode/utf8.first", laid_unicode_utf8_first)], narrowed := true }
def CertPartsUptoSaid : Prop := certPartsUptoRow.holds Tryz.pinned (OpenSpec.upto certPartsSpec)

/-- 'greatseallaw18.CertKinds', WHERE WHAT IT READS IS OF BULK AT MOST 1048576: true; the input reads as it did. -/
def certKindsUptoRow : OpenClaim := { program := "ytlnbckkkapbdmaagreatdoor", sum := "b0987709f6bdabc01e888e363848f426983b7c0e9b437b234dd8fb61f497eb86", func := "greatseal/greatseallaw18.CertKinds", spec := "certKinds", inPlace := ["internal/bytealg.CountString", "internal/bytealg.IndexByteString", "internal/bytealg.IndexString"], unfollowed := true, recurses := true, named := ["internal/bytealg.MaxLen", "unicode/utf8.first", "unicode/utf8.acceptRanges", "greatseal/der.kinds"], apart := false, laid := [("unicode/utf8.acceptRanges", laid_unicode_utf8_acceptRanges), ("greatseal/der.kinds", laid_greatseal_der_kinds), ("unicode/utf8.first", laid_unicode_utf8_first)], narrowed := true }
def CertKindsUptoSaid : Prop := certKindsUptoRow.holds Tryz.pinned (OpenSpec.upto certKindsSpec)

end Rows
end Go.Proofs.YtlnbckkkapbdmaaGreatDoor
