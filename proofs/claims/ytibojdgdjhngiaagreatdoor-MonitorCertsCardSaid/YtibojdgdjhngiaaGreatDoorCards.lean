/-
  DERIVED. GIVEN WITH THE SEED: THE CARDS: each row of YtibojdgdjhngiaaGreatDoorRows.lean that lists a variable, with what it lists TIED to the program's text (the seventh form; the later family's looks); each row that meets fmt, with fmt's text TOLD by the authors' own Lean function (tested against real Go, not proved from fmt's source: count such statements apart). THE CARD IS WHAT COUNTS. Prove the row's statement (the work); the ties are given (YtibojdgdjhngiaaGreatDoorTie.lean); close each card by the builder's one call (the guide's Derived/Test/ToyasCard.lean, 'card_holds'). Laid BY PROGRAM, IN A SANDBOX (cutbox-door.mjs). By AI agents, Wed Nov 11 2026. No macro, syntax, notation, axiom, sorry.
-/
import Derived.Test.YtibojdgdjhngiaaGreatDoorRows
import GoSem.ClaimSeven
namespace Go.Proofs.YtibojdgdjhngiaaGreatDoor
namespace Rows

/-- THE TIED CARD OF 'greatseallaw30.MonitorCerts'. -/
def monitorCertsCard : Claim7 := { stood := { row := monitorCertsRow, standIns := [], harness := (true, "6c345a75b3a613f5dce654d95b3a9ea2ff3e11ac1c10647c2031444522f2705f"), looks := true }, kinds := [], alts := [], laidByText := true, laidKinds := [.data, .funcsDeep, .pinned], laidTests := true, laidLooks := .later }
def MonitorCertsCardSaid : Prop := Claim7.holds Tryz.pinned (.plain (OpenSpec.ofChange monitorCertsSpec)) monitorCertsCard

/-- THE TIED CARD OF 'greatseallaw30.MonitorFinds'. -/
def monitorFindsCard : Claim7 := { stood := { row := monitorFindsRow, standIns := [], harness := (true, "6c345a75b3a613f5dce654d95b3a9ea2ff3e11ac1c10647c2031444522f2705f"), looks := true }, kinds := [], alts := [], laidByText := true, laidKinds := [.data, .funcsDeep, .pinned], laidTests := true, laidLooks := .later }
def MonitorFindsCardSaid : Prop := Claim7.holds Tryz.pinned (.plain (OpenSpec.ofChange monitorFindsSpec)) monitorFindsCard

/-- THE TIED CARD OF 'greatseallaw30.MonitorSees'. -/
def monitorSeesCard : Claim7 := { stood := { row := monitorSeesRow, standIns := [], harness := (true, "6c345a75b3a613f5dce654d95b3a9ea2ff3e11ac1c10647c2031444522f2705f"), looks := true }, kinds := [], alts := [], laidByText := true, laidKinds := [.data, .funcsDeep, .pinned], laidTests := true, laidLooks := .later }
def MonitorSeesCardSaid : Prop := Claim7.holds Tryz.pinned (.plain (OpenSpec.ofChange monitorSeesSpec)) monitorSeesCard

/-- THE TIED CARD OF 'greatseallaw30.MonitorBooked'. -/
def monitorBookedCard : Claim7 := { stood := { row := monitorBookedRow, standIns := [], harness := (true, "6c345a75b3a613f5dce654d95b3a9ea2ff3e11ac1c10647c2031444522f2705f"), looks := true }, kinds := [], alts := [], laidByText := true, laidKinds := [.data, .funcsDeep, .pinned], laidTests := true, laidLooks := .later }
def MonitorBookedCardSaid : Prop := Claim7.holds Tryz.pinned (.plain (OpenSpec.ofChange monitorBookedSpec)) monitorBookedCard

/-- THE TIED CARD OF 'greatseallaw30.MonitorLess'. -/
def monitorLessCard : Claim7 := { stood := { row := monitorLessRow, standIns := [], harness := (true, "6c345a75b3a613f5dce654d95b3a9ea2ff3e11ac1c10647c2031444522f2705f"), looks := true }, kinds := [], alts := [], laidByText := true, laidKinds := [.data, .funcsDeep, .pinned], laidTests := true, laidLooks := .later }
def MonitorLessCardSaid : Prop := Claim7.holds Tryz.pinned (.plain (OpenSpec.ofChange monitorLessSpec)) monitorLessCard

/-- THE TIED CARD OF 'greatseallaw30.MonitorKept'. -/
def monitorKeptCard : Claim7 := { stood := { row := monitorKeptRow, standIns := [], harness := (true, "6c345a75b3a613f5dce654d95b3a9ea2ff3e11ac1c10647c2031444522f2705f"), looks := true }, kinds := [], alts := [], laidByText := true, laidKinds := [.data, .funcsDeep, .pinned], laidTests := true, laidLooks := .later }
def MonitorKeptCardSaid : Prop := Claim7.holds Tryz.pinned (.plain (OpenSpec.ofChange monitorKeptSpec)) monitorKeptCard

/-- THE TIED CARD OF 'greatseallaw30.MonitorLater'. -/
def monitorLaterCard : Claim7 := { stood := { row := monitorLaterRow, standIns := [], harness := (true, "6c345a75b3a613f5dce654d95b3a9ea2ff3e11ac1c10647c2031444522f2705f"), looks := true }, kinds := [], alts := [], laidByText := true, laidKinds := [.data, .funcsDeep, .pinned], laidTests := true, laidLooks := .later }
def MonitorLaterCardSaid : Prop := Claim7.holds Tryz.pinned (.plain (OpenSpec.ofChange monitorLaterSpec)) monitorLaterCard

/-- THE TIED CARD OF 'greatseallaw30.MonitorHides'. -/
def monitorHidesCard : Claim7 := { stood := { row := monitorHidesRow, standIns := [], harness := (true, "6c345a75b3a613f5dce654d95b3a9ea2ff3e11ac1c10647c2031444522f2705f"), looks := true }, kinds := [], alts := [], laidByText := true, laidKinds := [.data, .funcsDeep, .pinned], laidTests := true, laidLooks := .later }
def MonitorHidesCardSaid : Prop := Claim7.holds Tryz.pinned (.plain (OpenSpec.ofChange monitorHidesSpec)) monitorHidesCard

/-- THE SECOND FORM's CARD OF 'greatseallaw30.MonitorCerts'. -/
def monitorCertsUptoCard : Claim7 := { stood := { row := monitorCertsUptoRow, standIns := [], harness := (true, "6c345a75b3a613f5dce654d95b3a9ea2ff3e11ac1c10647c2031444522f2705f"), looks := true }, kinds := [], alts := [], laidByText := true, laidKinds := [.data, .funcsDeep, .pinned], laidTests := true, laidLooks := .later }
def MonitorCertsUptoCardSaid : Prop := Claim7.holds Tryz.pinned (.plain (OpenSpec.upto monitorCertsSpec)) monitorCertsUptoCard

/-- THE SECOND FORM's CARD OF 'greatseallaw30.MonitorFinds'. -/
def monitorFindsUptoCard : Claim7 := { stood := { row := monitorFindsUptoRow, standIns := [], harness := (true, "6c345a75b3a613f5dce654d95b3a9ea2ff3e11ac1c10647c2031444522f2705f"), looks := true }, kinds := [], alts := [], laidByText := true, laidKinds := [.data, .funcsDeep, .pinned], laidTests := true, laidLooks := .later }
def MonitorFindsUptoCardSaid : Prop := Claim7.holds Tryz.pinned (.plain (OpenSpec.upto monitorFindsSpec)) monitorFindsUptoCard

/-- THE SECOND FORM's CARD OF 'greatseallaw30.MonitorSees'. -/
def monitorSeesUptoCard : Claim7 := { stood := { row := monitorSeesUptoRow, standIns := [], harness := (true, "6c345a75b3a613f5dce654d95b3a9ea2ff3e11ac1c10647c2031444522f2705f"), looks := true }, kinds := [], alts := [], laidByText := true, laidKinds := [.data, .funcsDeep, .pinned], laidTests := true, laidLooks := .later }
def MonitorSeesUptoCardSaid : Prop := Claim7.holds Tryz.pinned (.plain (OpenSpec.upto monitorSeesSpec)) monitorSeesUptoCard

/-- THE SECOND FORM's CARD OF 'greatseallaw30.MonitorBooked'. -/
def monitorBookedUptoCard : Claim7 := { stood := { row := monitorBookedUptoRow, standIns := [], harness := (true, "6c345a75b3a613f5dce654d95b3a9ea2ff3e11ac1c10647c2031444522f2705f"), looks := true }, kinds := [], alts := [], laidByText := true, laidKinds := [.data, .funcsDeep, .pinned], laidTests := true, laidLooks := .later }
def MonitorBookedUptoCardSaid : Prop := Claim7.holds Tryz.pinned (.plain (OpenSpec.upto monitorBookedSpec)) monitorBookedUptoCard

/-- THE SECOND FORM's CARD OF 'greatseallaw30.MonitorLess'. -/
def monitorLessUptoCard : Claim7 := { stood := { row := monitorLessUptoRow, standIns := [], harness := (true, "6c345a75b3a613f5dce654d95b3a9ea2ff3e11ac1c10647c2031444522f2705f"), looks := true }, kinds := [], alts := [], laidByText := true, laidKinds := [.data, .funcsDeep, .pinned], laidTests := true, laidLooks := .later }
def MonitorLessUptoCardSaid : Prop := Claim7.holds Tryz.pinned (.plain (OpenSpec.upto monitorLessSpec)) monitorLessUptoCard

/-- THE SECOND FORM's CARD OF 'greatseallaw30.MonitorKept'. -/
def monitorKeptUptoCard : Claim7 := { stood := { row := monitorKeptUptoRow, standIns := [], harness := (true, "6c345a75b3a613f5dce654d95b3a9ea2ff3e11ac1c10647c2031444522f2705f"), looks := true }, kinds := [], alts := [], laidByText := true, laidKinds := [.data, .funcsDeep, .pinned], laidTests := true, laidLooks := .later }
def MonitorKeptUptoCardSaid : Prop := Claim7.holds Tryz.pinned (.plain (OpenSpec.upto monitorKeptSpec)) monitorKeptUptoCard

/-- THE SECOND FORM's CARD OF 'greatseallaw30.MonitorLater'. -/
def monitorLaterUptoCard : Claim7 := { stood := { row := monitorLaterUptoRow, standIns := [], harness := (true, "6c345a75b3a613f5dce654d95b3a9ea2ff3e11ac1c10647c2031444522f2705f"), looks := true }, kinds := [], alts := [], laidByText := true, laidKinds := [.data, .funcsDeep, .pinned], laidTests := true, laidLooks := .later }
def MonitorLaterUptoCardSaid : Prop := Claim7.holds Tryz.pinned (.plain (OpenSpec.upto monitorLaterSpec)) monitorLaterUptoCard

/-- THE SECOND FORM's CARD OF 'greatseallaw30.MonitorHides'. -/
def monitorHidesUptoCard : Claim7 := { stood := { row := monitorHidesUptoRow, standIns := [], harness := (true, "6c345a75b3a613f5dce654d95b3a9ea2ff3e11ac1c10647c2031444522f2705f"), looks := true }, kinds := [], alts := [], laidByText := true, laidKinds := [.data, .funcsDeep, .pinned], laidTests := true, laidLooks := .later }
def MonitorHidesUptoCardSaid : Prop := Claim7.holds Tryz.pinned (.plain (OpenSpec.upto monitorHidesSpec)) monitorHidesUptoCard
end Rows
end Go.Proofs.YtibojdgdjhngiaaGreatDoor
