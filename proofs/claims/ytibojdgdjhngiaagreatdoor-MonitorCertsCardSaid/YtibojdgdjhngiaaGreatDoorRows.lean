/-
  NARROWER THAN 'FOR EVERY INPUT', by the rows' own cells (each row's printed sentence says how): MonitorCerts: laid · MonitorFinds: laid · MonitorSees: laid · MonitorBooked: laid · MonitorLess: laid · MonitorKept: laid · MonitorLater: laid · MonitorHides: laid.
  DERIVED. THE GIVEN ROWS OF THIS SEAT. 8 by the template 'for every input the law returns true; each argument reads behind the call as it read before'; 0 by the template 'total and deterministic' (their statements: YtibojdgdjhngiaaGreatDoorTotals.lean).
  GIVEN WITH THE SEED: the statements are not yours to turn. If you find one false, say at which input.
  Laid BY PROGRAM, IN A SANDBOX (cutbox-rows.mjs): the forced cells as the released guide's own fill.sh prints them over the translation 026d128058af7270… (all of the seat's roots in one cut). By AI agents, Wed Nov 11 2026. No macro, syntax, notation, axiom, sorry.
-/
import Derived.Test.YtibojdgdjhngiaaGreatDoorChecked
import GoSem.PinnedTables
import GoSem.Claim
import GoSem.ClaimJoined
import GoSem.ClaimMapViews
import Derived.JoinedTies
import Derived.KernelRfl
namespace Go.Proofs.YtibojdgdjhngiaaGreatDoor
/- THE CELL 'sum', in the pinned program and in every row, IS THE sha256 OF THE DUMP (.gsa) THAT YtibojdgdjhngiaaGreatDoorProg.lean LOADS. Nothing in Lean hashes anything: it is a label: what it is worth is what the hold of that sum in a sandbox is worth. -/
noncomputable def Tryz.pinned : Pinned := { name := "ytibojdgdjhngiaagreatdoor", sum := "026d128058af7270eadc60f176184d3d3a28caccf86750a9fb38cc0b455dd8c5", checked := Tryz.checked }
namespace Rows
def none {H : Type} : Left H := { results := [], args := [] }

/- WHAT THE LISTED PACKAGE-LEVEL VARIABLES READ AS WHEN THE CALL BEGINS. Each datum BY PROGRAM (the guide's laid-datum.mjs) off the statement by which the dump's own 'gosem.cut.vars' lays the variable. In a bare row this is a premise. The card (YtibojdgdjhngiaaGreatDoorCards.lean) ties it to the program's text. -/
def laid_unicode_utf8_acceptRanges {H : Type} : DataW H := .agg [.agg [.lit (.int .u8 128), .lit (.int .u8 191)], .agg [.lit (.int .u8 160), .lit (.int .u8 191)], .agg [.lit (.int .u8 128), .lit (.int .u8 159)], .agg [.lit (.int .u8 144), .lit (.int .u8 191)], .agg [.lit (.int .u8 128), .lit (.int .u8 143)], .agg [.lit (.int .u8 0), .lit (.int .u8 0)], .agg [.lit (.int .u8 0), .lit (.int .u8 0)], .agg [.lit (.int .u8 0), .lit (.int .u8 0)], .agg [.lit (.int .u8 0), .lit (.int .u8 0)], .agg [.lit (.int .u8 0), .lit (.int .u8 0)], .agg [.lit (.int .u8 0), .lit (.int .u8 0)], .agg [.lit (.int .u8 0), .lit (.int .u8 0)], .agg [.lit (.int .u8 0), .lit (.int .u8 0)], .agg [.lit (.int .u8 0), .lit (.int .u8 0)], .agg [.lit (.int .u8 0), .lit (.int .u8 0)], .agg [.lit (.int .u8 0), .lit (.int .u8 0)]]
def laid_greatseal_der_kinds {H : Type} : DataW H := .iface "func table" (.agg [.agg [.lit (.int .i64 1), .iface "func" (.lit (.string [103, 114, 101, 97, 116, 115, 101, 97, 108, 47, 100, 101, 114, 46, 107, 105, 110, 100, 115, 36, 49]))], .agg [.lit (.int .i64 2), .iface "func" (.lit (.string [103, 114, 101, 97, 116, 115, 101, 97, 108, 47, 100, 101, 114, 46, 108, 101, 97, 115, 116]))], .agg [.lit (.int .i64 4), .iface "func" (.lit (.string [103, 114, 101, 97, 116, 115, 101, 97, 108, 47, 100, 101, 114, 46, 107, 105, 110, 100, 115, 36, 50]))], .agg [.lit (.int .i64 12), .iface "func" (.lit (.string [103, 114, 101, 97, 116, 115, 101, 97, 108, 47, 100, 101, 114, 46, 107, 105, 110, 100, 115, 36, 51]))], .agg [.lit (.int .i64 48), .iface "func" (.lit (.string [103, 114, 101, 97, 116, 115, 101, 97, 108, 47, 100, 101, 114, 46, 107, 105, 110, 100, 115, 36, 52]))]])
/-- One of Go's own tables, pinned by name: the form's constant. -/
def laid_unicode_utf8_first : DataW Unit := Go.Pinned.utf8First

/-- 'greatseallaw30.MonitorCerts': WHATEVER THE INPUT: true; the input reads as it did. -/
def monitorCertsSpec : ChangeSpec := { name := "monitorCerts", fn := fun _ => fun
  | [d1, d2] => { results := [.lit (.bool true)], args := [d1, d2] }
  | _ => none }
def monitorCertsRow : OpenClaim := { program := "ytibojdgdjhngiaagreatdoor", sum := "026d128058af7270eadc60f176184d3d3a28caccf86750a9fb38cc0b455dd8c5", func := "greatseal/greatseallaw30.MonitorCerts", spec := "monitorCerts", inPlace := ["math/bits.Add64", "internal/bytealg.CountString", "internal/bytealg.IndexByteString", "internal/bytealg.IndexString"], unfollowed := true, recurses := true, named := ["math/bits.divideError", "math/bits.overflowError", "internal/bytealg.MaxLen", "unicode/utf8.first", "unicode/utf8.acceptRanges", "greatseal/der.kinds"], plainKeys := false, apart := false, laid := [("unicode/utf8.acceptRanges", laid_unicode_utf8_acceptRanges), ("greatseal/der.kinds", laid_greatseal_der_kinds), ("unicode/utf8.first", laid_unicode_utf8_first)] }
def MonitorCertsSaid : Prop := monitorCertsRow.holds Tryz.pinned (OpenSpec.ofChange monitorCertsSpec)

/-- ITS FALSE NEIGHBOUR: 'it returns false'. Refute it at one input. -/
def monitorCertsWrong : ChangeSpec := { name := "monitorCerts", fn := fun _ => fun
  | [d1, d2] => { results := [.lit (.bool false)], args := [d1, d2] }
  | _ => none }
def MonitorCertsWrongFalsely : Prop := monitorCertsRow.holds Tryz.pinned (OpenSpec.ofChange monitorCertsWrong)

/-- 'greatseallaw30.MonitorFinds': WHATEVER THE INPUT: true; the input reads as it did. -/
def monitorFindsSpec : ChangeSpec := { name := "monitorFinds", fn := fun _ => fun
  | [d1, d2, d3, d4, d5, d6] => { results := [.lit (.bool true)], args := [d1, d2, d3, d4, d5, d6] }
  | _ => none }
def monitorFindsRow : OpenClaim := { program := "ytibojdgdjhngiaagreatdoor", sum := "026d128058af7270eadc60f176184d3d3a28caccf86750a9fb38cc0b455dd8c5", func := "greatseal/greatseallaw30.MonitorFinds", spec := "monitorFinds", inPlace := ["math/bits.Add64", "internal/bytealg.CountString", "internal/bytealg.IndexByteString", "internal/bytealg.IndexString"], unfollowed := true, recurses := true, named := ["math/bits.divideError", "math/bits.overflowError", "internal/bytealg.MaxLen", "unicode/utf8.first", "unicode/utf8.acceptRanges", "greatseal/der.kinds"], plainKeys := false, apart := false, laid := [("unicode/utf8.acceptRanges", laid_unicode_utf8_acceptRanges), ("greatseal/der.kinds", laid_greatseal_der_kinds), ("unicode/utf8.first", laid_unicode_utf8_first)] }
def MonitorFindsSaid : Prop := monitorFindsRow.holds Tryz.pinned (OpenSpec.ofChange monitorFindsSpec)

/-- ITS FALSE NEIGHBOUR: 'it returns false'. Refute it at one input. -/
def monitorFindsWrong : ChangeSpec := { name := "monitorFinds", fn := fun _ => fun
  | [d1, d2, d3, d4, d5, d6] => { results := [.lit (.bool false)], args := [d1, d2, d3, d4, d5, d6] }
  | _ => none }
def MonitorFindsWrongFalsely : Prop := monitorFindsRow.holds Tryz.pinned (OpenSpec.ofChange monitorFindsWrong)

/-- 'greatseallaw30.MonitorSees': WHATEVER THE INPUT: true; the input reads as it did. -/
def monitorSeesSpec : ChangeSpec := { name := "monitorSees", fn := fun _ => fun
  | [d1, d2, d3] => { results := [.lit (.bool true)], args := [d1, d2, d3] }
  | _ => none }
def monitorSeesRow : OpenClaim := { program := "ytibojdgdjhngiaagreatdoor", sum := "026d128058af7270eadc60f176184d3d3a28caccf86750a9fb38cc0b455dd8c5", func := "greatseal/greatseallaw30.MonitorSees", spec := "monitorSees", inPlace := ["math/bits.Add64", "internal/bytealg.CountString", "internal/bytealg.IndexByteString", "internal/bytealg.IndexString"], unfollowed := true, recurses := true, named := ["math/bits.divideError", "math/bits.overflowError", "internal/bytealg.MaxLen", "unicode/utf8.first", "unicode/utf8.acceptRanges", "greatseal/der.kinds"], plainKeys := false, apart := false, laid := [("unicode/utf8.acceptRanges", laid_unicode_utf8_acceptRanges), ("greatseal/der.kinds", laid_greatseal_der_kinds), ("unicode/utf8.first", laid_unicode_utf8_first)] }
def MonitorSeesSaid : Prop := monitorSeesRow.holds Tryz.pinned (OpenSpec.ofChange monitorSeesSpec)

/-- ITS FALSE NEIGHBOUR: 'it returns false'. Refute it at one input. -/
def monitorSeesWrong : ChangeSpec := { name := "monitorSees", fn := fun _ => fun
  | [d1, d2, d3] => { results := [.lit (.bool false)], args := [d1, d2, d3] }
  | _ => none }
def MonitorSeesWrongFalsely : Prop := monitorSeesRow.holds Tryz.pinned (OpenSpec.ofChange monitorSeesWrong)

/-- 'greatseallaw30.MonitorBooked': WHATEVER THE INPUT: true; the input reads as it did. -/
def monitorBookedSpec : ChangeSpec := { name := "monitorBooked", fn := fun _ => fun
  | [d1, d2, d3] => { results := [.lit (.bool true)], args := [d1, d2, d3] }
  | _ => none }
def monitorBookedRow : OpenClaim := { program := "ytibojdgdjhngiaagreatdoor", sum := "026d128058af7270eadc60f176184d3d3a28caccf86750a9fb38cc0b455dd8c5", func := "greatseal/greatseallaw30.MonitorBooked", spec := "monitorBooked", inPlace := ["math/bits.Add64", "internal/bytealg.CountString", "internal/bytealg.IndexByteString", "internal/bytealg.IndexString"], unfollowed := true, recurses := true, named := ["math/bits.divideError", "math/bits.overflowError", "internal/bytealg.MaxLen", "unicode/utf8.first", "unicode/utf8.acceptRanges", "greatseal/der.kinds"], plainKeys := false, apart := false, laid := [("unicode/utf8.acceptRanges", laid_unicode_utf8_acceptRanges), ("greatseal/der.kinds", laid_greatseal_der_kinds), ("unicode/utf8.first", laid_unicode_utf8_first)] }
def MonitorBookedSaid : Prop := monitorBookedRow.holds Tryz.pinned (OpenSpec.ofChange monitorBookedSpec)

/-- ITS FALSE NEIGHBOUR: 'it returns false'. Refute it at one input. -/
def monitorBookedWrong : ChangeSpec := { name := "monitorBooked", fn := fun _ => fun
  | [d1, d2, d3] => { results := [.lit (.bool false)], args := [d1, d2, d3] }
  | _ => none }
def MonitorBookedWrongFalsely : Prop := monitorBookedRow.holds Tryz.pinned (OpenSpec.ofChange monitorBookedWrong)

/-- 'greatseallaw30.MonitorLess': WHATEVER THE INPUT: true; the input reads as it did. -/
def monitorLessSpec : ChangeSpec := { name := "monitorLess", fn := fun _ => fun
  | [d1, d2, d3] => { results := [.lit (.bool true)], args := [d1, d2, d3] }
  | _ => none }
def monitorLessRow : OpenClaim := { program := "ytibojdgdjhngiaagreatdoor", sum := "026d128058af7270eadc60f176184d3d3a28caccf86750a9fb38cc0b455dd8c5", func := "greatseal/greatseallaw30.MonitorLess", spec := "monitorLess", inPlace := ["math/bits.Add64", "internal/bytealg.CountString", "internal/bytealg.IndexByteString", "internal/bytealg.IndexString"], unfollowed := true, recurses := true, named := ["math/bits.divideError", "math/bits.overflowError", "internal/bytealg.MaxLen", "unicode/utf8.first", "unicode/utf8.acceptRanges", "greatseal/der.kinds"], plainKeys := false, apart := false, laid := [("unicode/utf8.acceptRanges", laid_unicode_utf8_acceptRanges), ("greatseal/der.kinds", laid_greatseal_der_kinds), ("unicode/utf8.first", laid_unicode_utf8_first)] }
def MonitorLessSaid : Prop := monitorLessRow.holds Tryz.pinned (OpenSpec.ofChange monitorLessSpec)

/-- ITS FALSE NEIGHBOUR: 'it returns false'. Refute it at one input. -/
def monitorLessWrong : ChangeSpec := { name := "monitorLess", fn := fun _ => fun
  | [d1, d2, d3] => { results := [.lit (.bool false)], args := [d1, d2, d3] }
  | _ => none }
def MonitorLessWrongFalsely : Prop := monitorLessRow.holds Tryz.pinned (OpenSpec.ofChange monitorLessWrong)

/-- 'greatseallaw30.MonitorKept': WHATEVER THE INPUT: true; the input reads as it did. -/
def monitorKeptSpec : ChangeSpec := { name := "monitorKept", fn := fun _ => fun
  | [d1, d2, d3] => { results := [.lit (.bool true)], args := [d1, d2, d3] }
  | _ => none }
def monitorKeptRow : OpenClaim := { program := "ytibojdgdjhngiaagreatdoor", sum := "026d128058af7270eadc60f176184d3d3a28caccf86750a9fb38cc0b455dd8c5", func := "greatseal/greatseallaw30.MonitorKept", spec := "monitorKept", inPlace := ["math/bits.Add64", "internal/bytealg.CountString", "internal/bytealg.IndexByteString", "internal/bytealg.IndexString"], unfollowed := true, recurses := true, named := ["math/bits.divideError", "math/bits.overflowError", "internal/bytealg.MaxLen", "unicode/utf8.first", "unicode/utf8.acceptRanges", "greatseal/der.kinds"], plainKeys := false, apart := false, laid := [("unicode/utf8.acceptRanges", laid_unicode_utf8_acceptRanges), ("greatseal/der.kinds", laid_greatseal_der_kinds), ("unicode/utf8.first", laid_unicode_utf8_first)] }
def MonitorKeptSaid : Prop := monitorKeptRow.holds Tryz.pinned (OpenSpec.ofChange monitorKeptSpec)

/-- ITS FALSE NEIGHBOUR: 'it returns false'. Refute it at one input. -/
def monitorKeptWrong : ChangeSpec := { name := "monitorKept", fn := fun _ => fun
  | [d1, d2, d3] => { results := [.lit (.bool false)], args := [d1, d2, d3] }
  | _ => none }
def MonitorKeptWrongFalsely : Prop := monitorKeptRow.holds Tryz.pinned (OpenSpec.ofChange monitorKeptWrong)

/-- 'greatseallaw30.MonitorLater': WHATEVER THE INPUT: true; the input reads as it did. -/
def monitorLaterSpec : ChangeSpec := { name := "monitorLater", fn := fun _ => fun
  | [d1, d2, d3, d4, d5, d6] => { results := [.lit (.bool true)], args := [d1, d2, d3, d4, d5, d6] }
  | _ => none }
def monitorLaterRow : OpenClaim := { program := "ytibojdgdjhngiaagreatdoor", sum := "026d128058af7270eadc60f176184d3d3a28caccf86750a9fb38cc0b455dd8c5", func := "greatseal/greatseallaw30.MonitorLater", spec := "monitorLater", inPlace := ["math/bits.Add64", "internal/bytealg.CountString", "internal/bytealg.IndexByteString", "internal/bytealg.IndexString"], unfollowed := true, recurses := true, named := ["math/bits.divideError", "math/bits.overflowError", "internal/bytealg.MaxLen", "unicode/utf8.first", "unicode/utf8.acceptRanges", "greatseal/der.kinds"], plainKeys := false, apart := false, laid := [("unicode/utf8.acceptRanges", laid_unicode_utf8_acceptRanges), ("greatseal/der.kinds", laid_greatseal_der_kinds), ("unicode/utf8.first", laid_unicode_utf8_first)] }
def MonitorLaterSaid : Prop := monitorLaterRow.holds Tryz.pinned (OpenSpec.ofChange monitorLaterSpec)

/-- ITS FALSE NEIGHBOUR: 'it returns false'. Refute it at one input. -/
def monitorLaterWrong : ChangeSpec := { name := "monitorLater", fn := fun _ => fun
  | [d1, d2, d3, d4, d5, d6] => { results := [.lit (.bool false)], args := [d1, d2, d3, d4, d5, d6] }
  | _ => none }
def MonitorLaterWrongFalsely : Prop := monitorLaterRow.holds Tryz.pinned (OpenSpec.ofChange monitorLaterWrong)

/-- 'greatseallaw30.MonitorHides': WHATEVER THE INPUT: true; the input reads as it did. -/
def monitorHidesSpec : ChangeSpec := { name := "monitorHides", fn := fun _ => fun
  | [d] => { results := [.lit (.bool true)], args := [d] }
  | _ => none }
def monitorHidesRow : OpenClaim := { program := "ytibojdgdjhngiaagreatdoor", sum := "026d128058af7270eadc60f176184d3d3a28caccf86750a9fb38cc0b455dd8c5", func := "greatseal/greatseallaw30.MonitorHides", spec := "monitorHides", inPlace := ["math/bits.Add64", "internal/bytealg.CountString", "internal/bytealg.IndexByteString", "internal/bytealg.IndexString"], unfollowed := true, recurses := true, named := ["math/bits.divideError", "math/bits.overflowError", "internal/bytealg.MaxLen", "unicode/utf8.first", "unicode/utf8.acceptRanges", "greatseal/der.kinds"], plainKeys := false, apart := false, laid := [("unicode/utf8.acceptRanges", laid_unicode_utf8_acceptRanges), ("greatseal/der.kinds", laid_greatseal_der_kinds), ("unicode/utf8.first", laid_unicode_utf8_first)] }
def MonitorHidesSaid : Prop := monitorHidesRow.holds Tryz.pinned (OpenSpec.ofChange monitorHidesSpec)

/-- ITS FALSE NEIGHBOUR: 'it returns false'. Refute it at one input. -/
def monitorHidesWrong : ChangeSpec := { name := "monitorHides", fn := fun _ => fun
  | [d] => { results := [.lit (.bool false)], args := [d] }
  | _ => none }
def MonitorHidesWrongFalsely : Prop := monitorHidesRow.holds Tryz.pinned (OpenSpec.ofChange monitorHidesWrong)

/- THE SECOND FORM. 'bulk': how many values and letters a reading holds, each counted each time it is reached (what is shared counts as often as it is met; a slice's spare places count too). A statement '..UptoSaid' is the law's where the arguments, and the package variables that the reading takes, are together of bulk at most 1048576: NARROWER than '..Said'. Prove '..Said' where nothing that the law and all that it calls make is longer than what came in: it says more and counts as full. Else prove '..UptoSaid'. A law counts once. -/
mutual
def uptoBulk {H : Type} : DataW H → Nat
  | .lit (.string bytes) => bytes.length + 1
  | .lit _ => 1
  | .nil => 1
  | .ptr d => uptoBulk d + 1
  | .slice elems spare => uptoBulkAll elems + uptoBulkAll spare + 1
  | .agg parts => uptoBulkAll parts + 1
  | .iface _ d => uptoBulk d + 1
  | .map entries => uptoBulkEntries entries + 1
  | .held _ => 1
def uptoBulkAll {H : Type} : List (DataW H) → Nat
  | [] => 0
  | d :: r => uptoBulk d + uptoBulkAll r
def uptoBulkEntries {H : Type} : List (Lit × DataW H) → Nat
  | [] => 0
  | x :: r => uptoBulkEntry x + uptoBulkEntries r
def uptoBulkEntry {H : Type} : Lit × DataW H → Nat
  | (.string bytes, d) => bytes.length + uptoBulk d + 1
  | (_, d) => uptoBulk d + 1
 end
def uptoSmall : (H : Type) → List (DataW H) → Bool := fun _ ds => decide (uptoBulkAll ds ≤ 1048576)
def OpenSpec.upto (s : _root_.Go.ChangeSpec) : _root_.Go.OpenSpec := { _root_.Go.OpenSpec.ofChange s with cond := some uptoSmall }

/-- 'greatseallaw30.MonitorCerts', WHERE WHAT IT READS IS OF BULK AT MOST 1048576: true; the input reads as it did. -/
def monitorCertsUptoRow : OpenClaim := { program := "ytibojdgdjhngiaagreatdoor", sum := "026d128058af7270eadc60f176184d3d3a28caccf86750a9fb38cc0b455dd8c5", func := "greatseal/greatseallaw30.MonitorCerts", spec := "monitorCerts", inPlace := ["math/bits.Add64", "internal/bytealg.CountString", "internal/bytealg.IndexByteString", "internal/bytealg.IndexString"], unfollowed := true, recurses := true, named := ["math/bits.divideError", "math/bits.overflowError", "internal/bytealg.MaxLen", "unicode/utf8.first", "unicode/utf8.acceptRanges", "greatseal/der.kinds"], plainKeys := false, apart := false, laid := [("unicode/utf8.acceptRanges", laid_unicode_utf8_acceptRanges), ("greatseal/der.kinds", laid_greatseal_der_kinds), ("unicode/utf8.first", laid_unicode_utf8_first)], narrowed := true }
def MonitorCertsUptoSaid : Prop := monitorCertsUptoRow.holds Tryz.pinned (OpenSpec.upto monitorCertsSpec)

/-- 'greatseallaw30.MonitorFinds', WHERE WHAT IT READS IS OF BULK AT MOST 1048576: true; the input reads as it did. -/
def monitorFindsUptoRow : OpenClaim := { program := "ytibojdgdjhngiaagreatdoor", sum := "026d128058af7270eadc60f176184d3d3a28caccf86750a9fb38cc0b455dd8c5", func := "greatseal/greatseallaw30.MonitorFinds", spec := "monitorFinds", inPlace := ["math/bits.Add64", "internal/bytealg.CountString", "internal/bytealg.IndexByteString", "internal/bytealg.IndexString"], unfollowed := true, recurses := true, named := ["math/bits.divideError", "math/bits.overflowError", "internal/bytealg.MaxLen", "unicode/utf8.first", "unicode/utf8.acceptRanges", "greatseal/der.kinds"], plainKeys := false, apart := false, laid := [("unicode/utf8.acceptRanges", laid_unicode_utf8_acceptRanges), ("greatseal/der.kinds", laid_greatseal_der_kinds), ("unicode/utf8.first", laid_unicode_utf8_first)], narrowed := true }
def MonitorFindsUptoSaid : Prop := monitorFindsUptoRow.holds Tryz.pinned (OpenSpec.upto monitorFindsSpec)

/-- 'greatseallaw30.MonitorSees', WHERE WHAT IT READS IS OF BULK AT MOST 1048576: true; the input reads as it did. -/
def monitorSeesUptoRow : OpenClaim := { program := "ytibojdgdjhngiaagreatdoor", sum := "026d128058af7270eadc60f176184d3d3a28caccf86750a9fb38cc0b455dd8c5", func := "greatseal/greatseallaw30.MonitorSees", spec := "monitorSees", inPlace := ["math/bits.Add64", "internal/bytealg.CountString", "internal/bytealg.IndexByteString", "internal/bytealg.IndexString"], unfollowed := true, recurses := true, named := ["math/bits.divideError", "math/bits.overflowError", "internal/bytealg.MaxLen", "unicode/utf8.first", "unicode/utf8.acceptRanges", "greatseal/der.kinds"], plainKeys := false, apart := false, laid := [("unicode/utf8.acceptRanges", laid_unicode_utf8_acceptRanges), ("greatseal/der.kinds", laid_greatseal_der_kinds), ("unicode/utf8.first", laid_unicode_utf8_first)], narrowed := true }
def MonitorSeesUptoSaid : Prop := monitorSeesUptoRow.holds Tryz.pinned (OpenSpec.upto monitorSeesSpec)

/-- 'greatseallaw30.MonitorBooked', WHERE WHAT IT READS IS OF BULK AT MOST 1048576: true; the input reads as it did. -/
def monitorBookedUptoRow : OpenClaim := { program := "ytibojdgdjhngiaagreatdoor", sum := "026d128058af7270eadc60f176184d3d3a28caccf86750a9fb38cc0b455dd8c5", func := "greatseal/greatseallaw30.MonitorBooked", spec := "monitorBooked", inPlace := ["math/bits.Add64", "internal/bytealg.CountString", "internal/bytealg.IndexByteString", "internal/bytealg.IndexString"], unfollowed := true, recurses := true, named := ["math/bits.divideError", "math/bits.overflowError", "internal/bytealg.MaxLen", "unicode/utf8.first", "unicode/utf8.acceptRanges", "greatseal/der.kinds"], plainKeys := false, apart := false, laid := [("unicode/utf8.acceptRanges", laid_unicode_utf8_acceptRanges), ("greatseal/der.kinds", laid_greatseal_der_kinds), ("unicode/utf8.first", laid_unicode_utf8_first)], narrowed := true }
def MonitorBookedUptoSaid : Prop := monitorBookedUptoRow.holds Tryz.pinned (OpenSpec.upto monitorBookedSpec)

/-- 'greatseallaw30.MonitorLess', WHERE WHAT IT READS IS OF BULK AT MOST 1048576: true; the input reads as it did. -/
def monitorLessUptoRow : OpenClaim := { program := "ytibojdgdjhngiaagreatdoor", sum := "026d128058af7270eadc60f176184d3d3a28caccf86750a9fb38cc0b455dd8c5", func := "greatseal/greatseallaw30.MonitorLess", spec := "monitorLess", inPlace := ["math/bits.Add64", "internal/bytealg.CountString", "internal/bytealg.IndexByteString", "internal/bytealg.IndexString"], unfollowed := true, recurses := true, named := ["math/bits.divideError", "math/bits.overflowError", "internal/bytealg.MaxLen", "unicode/utf8.first", "unicode/utf8.acceptRanges", "greatseal/der.kinds"], plainKeys := false, apart := false, laid := [("unicode/utf8.acceptRanges", laid_unicode_utf8_acceptRanges), ("greatseal/der.kinds", laid_greatseal_der_kinds), ("unicode/utf8.first", laid_unicode_utf8_first)], narrowed := true }
def MonitorLessUptoSaid : Prop := monitorLessUptoRow.holds Tryz.pinned (OpenSpec.upto monitorLessSpec)

/-- 'greatseallaw30.MonitorKept', WHERE WHAT IT READS IS OF BULK AT MOST 1048576: true; the input reads as it did. -/
def monitorKeptUptoRow : OpenClaim := { program := "ytibojdgdjhngiaagreatdoor", sum := "026d128058af7270eadc60f176184d3d3a28caccf86750a9fb38cc0b455dd8c5", func := "greatseal/greatseallaw30.MonitorKept", spec := "monitorKept", inPlace := ["math/bits.Add64", "internal/bytealg.CountString", "internal/bytealg.IndexByteString", "internal/bytealg.IndexString"], unfollowed := true, recurses := true, named := ["math/bits.divideError", "math/bits.overflowError", "internal/bytealg.MaxLen", "unicode/utf8.first", "unicode/utf8.acceptRanges", "greatseal/der.kinds"], plainKeys := false, apart := false, laid := [("unicode/utf8.acceptRanges", laid_unicode_utf8_acceptRanges), ("greatseal/der.kinds", laid_greatseal_der_kinds), ("unicode/utf8.first", laid_unicode_utf8_first)], narrowed := true }
def MonitorKeptUptoSaid : Prop := monitorKeptUptoRow.holds Tryz.pinned (OpenSpec.upto monitorKeptSpec)

/-- 'greatseallaw30.MonitorLater', WHERE WHAT IT READS IS OF BULK AT MOST 1048576: true; the input reads as it did. -/
def monitorLaterUptoRow : OpenClaim := { program := "ytibojdgdjhngiaagreatdoor", sum := "026d128058af7270eadc60f176184d3d3a28caccf86750a9fb38cc0b455dd8c5", func := "greatseal/greatseallaw30.MonitorLater", spec := "monitorLater", inPlace := ["math/bits.Add64", "internal/bytealg.CountString", "internal/bytealg.IndexByteString", "internal/bytealg.IndexString"], unfollowed := true, recurses := true, named := ["math/bits.divideError", "math/bits.overflowError", "internal/bytealg.MaxLen", "unicode/utf8.first", "unicode/utf8.acceptRanges", "greatseal/der.kinds"], plainKeys := false, apart := false, laid := [("unicode/utf8.acceptRanges", laid_unicode_utf8_acceptRanges), ("greatseal/der.kinds", laid_greatseal_der_kinds), ("unicode/utf8.first", laid_unicode_utf8_first)], narrowed := true }
def MonitorLaterUptoSaid : Prop := monitorLaterUptoRow.holds Tryz.pinned (OpenSpec.upto monitorLaterSpec)

/-- 'greatseallaw30.MonitorHides', WHERE WHAT IT READS IS OF BULK AT MOST 1048576: true; the input reads as it did. -/
def monitorHidesUptoRow : OpenClaim := { program := "ytibojdgdjhngiaagreatdoor", sum := "026d128058af7270eadc60f176184d3d3a28caccf86750a9fb38cc0b455dd8c5", func := "greatseal/greatseallaw30.MonitorHides", spec := "monitorHides", inPlace := ["math/bits.Add64", "internal/bytealg.CountString", "internal/bytealg.IndexByteString", "internal/bytealg.IndexString"], unfollowed := true, recurses := true, named := ["math/bits.divideError", "math/bits.overflowError", "internal/bytealg.MaxLen", "unicode/utf8.first", "unicode/utf8.acceptRanges", "greatseal/der.kinds"], plainKeys := false, apart := false, laid := [("unicode/utf8.acceptRanges", laid_unicode_utf8_acceptRanges), ("greatseal/der.kinds", laid_greatseal_der_kinds), ("unicode/utf8.first", laid_unicode_utf8_first)], narrowed := true }
def MonitorHidesUptoSaid : Prop := monitorHidesUptoRow.holds Tryz.pinned (OpenSpec.upto monitorHidesSpec)

end Rows
end Go.Proofs.YtibojdgdjhngiaaGreatDoor
