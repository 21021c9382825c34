/-
  DERIVED. GIVEN WITH THE SEED: THE CARDS: each row of YtlahakpgjlmeaaaGreatDoorRows.lean that lists a variable, with what it lists TIED to the program's text (the seventh form; the later family's looks); each row that meets fmt, with fmt's text TOLD by the authors' own Lean function (tested against real Go, not proved from fmt's source: count such statements apart). THE CARD IS WHAT COUNTS. Prove the row's statement (the work); the ties are given (YtlahakpgjlmeaaaGreatDoorTie.lean); close each card by the builder's one call (the guide's Derived/Test/ToyasCard.lean, 'card_holds'). Laid BY PROGRAM, IN A SANDBOX (cutbox-door.mjs). By AI agents, Wed Nov 11 2026. No macro, syntax, notation, axiom, sorry.
-/
import Derived.Test.YtlahakpgjlmeaaaGreatDoorRows
import GoSem.ClaimSeven
namespace Go.Proofs.YtlahakpgjlmeaaaGreatDoor
namespace Rows

/-- THE TIED CARD OF 'greatsealtop.TopTwice'. -/
def topTwiceCard : Claim7 := { stood := { row := topTwiceRow, standIns := [], harness := (true, "fe6bda822c9a9833a9940f5ac4971316543f0d35a403500c2eb81480ea748035"), looks := true }, kinds := [], alts := [], laidByText := true, laidKinds := [.data, .data, .data, .data, .sentinel, .sentinel, .funcsDeep, .pinned], laidTests := true, laidLooks := .later }
def TopTwiceCardSaid : Prop := Claim7.holds Tryz.pinned (.plain (OpenSpec.ofChange topTwiceSpec)) topTwiceCard

/-- THE SECOND FORM's CARD OF 'greatsealtop.TopTwice'. -/
def topTwiceUptoCard : Claim7 := { stood := { row := topTwiceUptoRow, standIns := [], harness := (true, "fe6bda822c9a9833a9940f5ac4971316543f0d35a403500c2eb81480ea748035"), looks := true }, kinds := [], alts := [], laidByText := true, laidKinds := [.data, .data, .data, .data, .sentinel, .sentinel, .funcsDeep, .pinned], laidTests := true, laidLooks := .later }
def TopTwiceUptoCardSaid : Prop := Claim7.holds Tryz.pinned (.plain (OpenSpec.upto topTwiceSpec)) topTwiceUptoCard
end Rows
end Go.Proofs.YtlahakpgjlmeaaaGreatDoor
