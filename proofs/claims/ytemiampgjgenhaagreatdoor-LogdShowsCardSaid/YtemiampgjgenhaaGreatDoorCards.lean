/-
  DERIVED. GIVEN WITH THE SEED: THE CARDS: each row of YtemiampgjgenhaaGreatDoorRows.lean that lists a variable, with what it lists TIED to the program's text (the seventh form; the later family's looks); each row that meets fmt, with fmt's text TOLD by the authors' own Lean function (tested against real Go, not proved from fmt's source: count such statements apart). THE CARD IS WHAT COUNTS. Prove the row's statement (the work); the ties are given (YtemiampgjgenhaaGreatDoorTie.lean); close each card by the builder's one call (the guide's Derived/Test/ToyasCard.lean, 'card_holds'). Laid BY PROGRAM, IN A SANDBOX (cutbox-door.mjs). By AI agents, Wed Nov 11 2026. No macro, syntax, notation, axiom, sorry.
-/
import Derived.Test.YtemiampgjgenhaaGreatDoorRows
import GoSem.ClaimSeven
namespace Go.Proofs.YtemiampgjgenhaaGreatDoor
namespace Rows

/-- THE TIED CARD OF 'greatseallaw24.LogdShows'. -/
def logdShowsCard : Claim7 := { stood := { row := logdShowsRow, standIns := [], harness := (true, "91df2689355a5a72f1c1c250711b2bb89468d1e41a62d46f34b483d4e6dbecbd"), looks := false }, kinds := [], alts := [], laidByText := true, laidKinds := [.data, .data], laidTests := true, laidLooks := .later }
def LogdShowsCardSaid : Prop := Claim7.holds Tryz.pinned (.plain (OpenSpec.ofChange logdShowsSpec)) logdShowsCard

/-- THE SECOND FORM's CARD OF 'greatseallaw24.LogdShows'. -/
def logdShowsUptoCard : Claim7 := { stood := { row := logdShowsUptoRow, standIns := [], harness := (true, "91df2689355a5a72f1c1c250711b2bb89468d1e41a62d46f34b483d4e6dbecbd"), looks := false }, kinds := [], alts := [], laidByText := true, laidKinds := [.data, .data], laidTests := true, laidLooks := .later }
def LogdShowsUptoCardSaid : Prop := Claim7.holds Tryz.pinned (.plain (OpenSpec.upto logdShowsSpec)) logdShowsUptoCard
end Rows
end Go.Proofs.YtemiampgjgenhaaGreatDoor
