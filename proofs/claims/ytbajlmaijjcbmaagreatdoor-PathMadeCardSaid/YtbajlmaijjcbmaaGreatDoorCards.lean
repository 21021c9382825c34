/-
  DERIVED. GIVEN WITH THE SEED: THE CARDS: each row of YtbajlmaijjcbmaaGreatDoorRows.lean that lists a variable, with what it lists TIED to the program's text (the seventh form; the later family's looks); each row that meets fmt, with fmt's text TOLD by the authors' own Lean function (tested against real Go, not proved from fmt's source: count such statements apart). THE CARD IS WHAT COUNTS. Prove the row's statement (the work); the ties are given (YtbajlmaijjcbmaaGreatDoorTie.lean); close each card by the builder's one call (the guide's Derived/Test/ToyasCard.lean, 'card_holds'). Laid BY PROGRAM, IN A SANDBOX (cutbox-door.mjs). By AI agents, Wed Nov 11 2026. No macro, syntax, notation, axiom, sorry.
-/
import Derived.Test.YtbajlmaijjcbmaaGreatDoorRows
import GoSem.ClaimSeven
namespace Go.Proofs.YtbajlmaijjcbmaaGreatDoor
namespace Rows

/-- THE TIED CARD OF 'greatseallaw19.PathLinks'. -/
def pathLinksCard : Claim7 := { stood := { row := pathLinksRow, standIns := [], harness := (true, "d476f4a053c758dd3f71db69e38d8f7c93188a726d3c7cf1b1bb3a7264715c6a"), looks := false }, kinds := [], alts := [], laidByText := true, laidKinds := [.data, .funcsDeep, .pinned], laidTests := true, laidLooks := .later }
def PathLinksCardSaid : Prop := Claim7.holds Tryz.pinned (.plain (OpenSpec.ofChange pathLinksSpec)) pathLinksCard

/-- THE TIED CARD OF 'greatseallaw19.PathChecks'. -/
def pathChecksCard : Claim7 := { stood := { row := pathChecksRow, standIns := [], harness := (true, "d476f4a053c758dd3f71db69e38d8f7c93188a726d3c7cf1b1bb3a7264715c6a"), looks := false }, kinds := [], alts := [], laidByText := true, laidKinds := [.data, .funcsDeep, .pinned], laidTests := true, laidLooks := .later }
def PathChecksCardSaid : Prop := Claim7.holds Tryz.pinned (.plain (OpenSpec.ofChange pathChecksSpec)) pathChecksCard

/-- THE TIED CARD OF 'greatseallaw19.PathComes'. -/
def pathComesCard : Claim7 := { stood := { row := pathComesRow, standIns := [], harness := (true, "d476f4a053c758dd3f71db69e38d8f7c93188a726d3c7cf1b1bb3a7264715c6a"), looks := false }, kinds := [], alts := [], laidByText := true, laidKinds := [.data, .funcsDeep, .pinned], laidTests := true, laidLooks := .later }
def PathComesCardSaid : Prop := Claim7.holds Tryz.pinned (.plain (OpenSpec.ofChange pathComesSpec)) pathComesCard

/-- THE TIED CARD OF 'greatseallaw19.PathMade'. -/
def pathMadeCard : Claim7 := { stood := { row := pathMadeRow, standIns := [], harness := (true, "d476f4a053c758dd3f71db69e38d8f7c93188a726d3c7cf1b1bb3a7264715c6a"), looks := false }, kinds := [], alts := [], laidByText := true, laidKinds := [.data, .funcsDeep, .pinned], laidTests := true, laidLooks := .later }
def PathMadeCardSaid : Prop := Claim7.holds Tryz.pinned (.plain (OpenSpec.ofChange pathMadeSpec)) pathMadeCard

/-- THE TIED CARD OF 'greatseallaw19.PathAll'. -/
def pathAllCard : Claim7 := { stood := { row := pathAllRow, standIns := [], harness := (true, "d476f4a053c758dd3f71db69e38d8f7c93188a726d3c7cf1b1bb3a7264715c6a"), looks := false }, kinds := [], alts := [], laidByText := true, laidKinds := [.data, .funcsDeep, .pinned], laidTests := true, laidLooks := .later }
def PathAllCardSaid : Prop := Claim7.holds Tryz.pinned (.plain (OpenSpec.ofChange pathAllSpec)) pathAllCard

/-- THE TIED CARD OF 'greatseallaw19.PathMore'. -/
def pathMoreCard : Claim7 := { stood := { row := pathMoreRow, standIns := [], harness := (true, "d476f4a053c758dd3f71db69e38d8f7c93188a726d3c7cf1b1bb3a7264715c6a"), looks := false }, kinds := [], alts := [], laidByText := true, laidKinds := [.data, .funcsDeep, .pinned], laidTests := true, laidLooks := .later }
def PathMoreCardSaid : Prop := Claim7.holds Tryz.pinned (.plain (OpenSpec.ofChange pathMoreSpec)) pathMoreCard

/-- THE TIED CARD OF 'greatseallaw19.PathElse'. -/
def pathElseCard : Claim7 := { stood := { row := pathElseRow, standIns := [], harness := (true, "d476f4a053c758dd3f71db69e38d8f7c93188a726d3c7cf1b1bb3a7264715c6a"), looks := false }, kinds := [], alts := [], laidByText := true, laidKinds := [.data, .funcsDeep, .pinned], laidTests := true, laidLooks := .later }
def PathElseCardSaid : Prop := Claim7.holds Tryz.pinned (.plain (OpenSpec.ofChange pathElseSpec)) pathElseCard

/-- THE TIED CARD OF 'greatseallaw19.PathFound'. -/
def pathFoundCard : Claim7 := { stood := { row := pathFoundRow, standIns := [], harness := (true, "d476f4a053c758dd3f71db69e38d8f7c93188a726d3c7cf1b1bb3a7264715c6a"), looks := false }, kinds := [], alts := [], laidByText := true, laidKinds := [.data, .funcsDeep, .pinned], laidTests := true, laidLooks := .later }
def PathFoundCardSaid : Prop := Claim7.holds Tryz.pinned (.plain (OpenSpec.ofChange pathFoundSpec)) pathFoundCard

/-- THE SECOND FORM's CARD OF 'greatseallaw19.PathLinks'. -/
def pathLinksUptoCard : Claim7 := { stood := { row := pathLinksUptoRow, standIns := [], harness := (true, "d476f4a053c758dd3f71db69e38d8f7c93188a726d3c7cf1b1bb3a7264715c6a"), looks := false }, kinds := [], alts := [], laidByText := true, laidKinds := [.data, .funcsDeep, .pinned], laidTests := true, laidLooks := .later }
def PathLinksUptoCardSaid : Prop := Claim7.holds Tryz.pinned (.plain (OpenSpec.upto pathLinksSpec)) pathLinksUptoCard

/-- THE SECOND FORM's CARD OF 'greatseallaw19.PathChecks'. -/
def pathChecksUptoCard : Claim7 := { stood := { row := pathChecksUptoRow, standIns := [], harness := (true, "d476f4a053c758dd3f71db69e38d8f7c93188a726d3c7cf1b1bb3a7264715c6a"), looks := false }, kinds := [], alts := [], laidByText := true, laidKinds := [.data, .funcsDeep, .pinned], laidTests := true, laidLooks := .later }
def PathChecksUptoCardSaid : Prop := Claim7.holds Tryz.pinned (.plain (OpenSpec.upto pathChecksSpec)) pathChecksUptoCard

/-- THE SECOND FORM's CARD OF 'greatseallaw19.PathComes'. -/
def pathComesUptoCard : Claim7 := { stood := { row := pathComesUptoRow, standIns := [], harness := (true, "d476f4a053c758dd3f71db69e38d8f7c93188a726d3c7cf1b1bb3a7264715c6a"), looks := false }, kinds := [], alts := [], laidByText := true, laidKinds := [.data, .funcsDeep, .pinned], laidTests := true, laidLooks := .later }
def PathComesUptoCardSaid : Prop := Claim7.holds Tryz.pinned (.plain (OpenSpec.upto pathComesSpec)) pathComesUptoCard

/-- THE SECOND FORM's CARD OF 'greatseallaw19.PathMade'. -/
def pathMadeUptoCard : Claim7 := { stood := { row := pathMadeUptoRow, standIns := [], harness := (true, "d476f4a053c758dd3f71db69e38d8f7c93188a726d3c7cf1b1bb3a7264715c6a"), looks := false }, kinds := [], alts := [], laidByText := true, laidKinds := [.data, .funcsDeep, .pinned], laidTests := true, laidLooks := .later }
def PathMadeUptoCardSaid : Prop := Claim7.holds Tryz.pinned (.plain (OpenSpec.upto pathMadeSpec)) pathMadeUptoCard

/-- THE SECOND FORM's CARD OF 'greatseallaw19.PathAll'. -/
def pathAllUptoCard : Claim7 := { stood := { row := pathAllUptoRow, standIns := [], harness := (true, "d476f4a053c758dd3f71db69e38d8f7c93188a726d3c7cf1b1bb3a7264715c6a"), looks := false }, kinds := [], alts := [], laidByText := true, laidKinds := [.data, .funcsDeep, .pinned], laidTests := true, laidLooks := .later }
def PathAllUptoCardSaid : Prop := Claim7.holds Tryz.pinned (.plain (OpenSpec.upto pathAllSpec)) pathAllUptoCard

/-- THE SECOND FORM's CARD OF 'greatseallaw19.PathMore'. -/
def pathMoreUptoCard : Claim7 := { stood := { row := pathMoreUptoRow, standIns := [], harness := (true, "d476f4a053c758dd3f71db69e38d8f7c93188a726d3c7cf1b1bb3a7264715c6a"), looks := false }, kinds := [], alts := [], laidByText := true, laidKinds := [.data, .funcsDeep, .pinned], laidTests := true, laidLooks := .later }
def PathMoreUptoCardSaid : Prop := Claim7.holds Tryz.pinned (.plain (OpenSpec.upto pathMoreSpec)) pathMoreUptoCard

/-- THE SECOND FORM's CARD OF 'greatseallaw19.PathElse'. -/
def pathElseUptoCard : Claim7 := { stood := { row := pathElseUptoRow, standIns := [], harness := (true, "d476f4a053c758dd3f71db69e38d8f7c93188a726d3c7cf1b1bb3a7264715c6a"), looks := false }, kinds := [], alts := [], laidByText := true, laidKinds := [.data, .funcsDeep, .pinned], laidTests := true, laidLooks := .later }
def PathElseUptoCardSaid : Prop := Claim7.holds Tryz.pinned (.plain (OpenSpec.upto pathElseSpec)) pathElseUptoCard

/-- THE SECOND FORM's CARD OF 'greatseallaw19.PathFound'. -/
def pathFoundUptoCard : Claim7 := { stood := { row := pathFoundUptoRow, standIns := [], harness := (true, "d476f4a053c758dd3f71db69e38d8f7c93188a726d3c7cf1b1bb3a7264715c6a"), looks := false }, kinds := [], alts := [], laidByText := true, laidKinds := [.data, .funcsDeep, .pinned], laidTests := true, laidLooks := .later }
def PathFoundUptoCardSaid : Prop := Claim7.holds Tryz.pinned (.plain (OpenSpec.upto pathFoundSpec)) pathFoundUptoCard
end Rows
end Go.Proofs.YtbajlmaijjcbmaaGreatDoor
