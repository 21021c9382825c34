/-
  DERIVED. GIVEN WITH THE SEED: THE CARDS: each row of YtnhdojckpcbjeaaGreatDoorRows.lean that lists a variable, with what it lists TIED to the program's text (the seventh form; the later family's looks); each row that meets fmt, with fmt's text TOLD by the authors' own Lean function (tested against real Go, not proved from fmt's source: count such statements apart). THE CARD IS WHAT COUNTS. Prove the row's statement (the work); the ties are given (YtnhdojckpcbjeaaGreatDoorTie.lean); close each card by the builder's one call (the guide's Derived/Test/ToyasCard.lean, 'card_holds'). Laid BY PROGRAM, IN A SANDBOX (cutbox-door.mjs). By AI agents, Wed Nov 11 2026. No macro, syntax, notation, axiom, sorry.
-/
import Derived.Test.YtnhdojckpcbjeaaGreatDoorRows
import GoSem.ClaimSeven
namespace Go.Proofs.YtnhdojckpcbjeaaGreatDoor
namespace Rows

/-- THE TIED CARD OF 'greatseallaw29.ClientMakes'. -/
def clientMakesCard : Claim7 := { stood := { row := clientMakesRow, standIns := [], harness := (true, "2a6420b1849e717310dc046bdd5fa432c8feacf8dec178d9901289021de8c1da"), looks := false }, kinds := [], alts := [], laidByText := true, laidKinds := [.data, .funcsDeep, .pinned], laidTests := true, laidLooks := .later }
def ClientMakesCardSaid : Prop := Claim7.holds Tryz.pinned (.plain (OpenSpec.ofChange clientMakesSpec)) clientMakesCard

/-- THE TIED CARD OF 'greatseallaw29.ClientProves'. -/
def clientProvesCard : Claim7 := { stood := { row := clientProvesRow, standIns := [], harness := (true, "2a6420b1849e717310dc046bdd5fa432c8feacf8dec178d9901289021de8c1da"), looks := false }, kinds := [], alts := [], laidByText := true, laidKinds := [.data, .funcsDeep, .pinned], laidTests := true, laidLooks := .later }
def ClientProvesCardSaid : Prop := Claim7.holds Tryz.pinned (.plain (OpenSpec.ofChange clientProvesSpec)) clientProvesCard

/-- THE TIED CARD OF 'greatseallaw29.ClientMore'. -/
def clientMoreCard : Claim7 := { stood := { row := clientMoreRow, standIns := [], harness := (true, "2a6420b1849e717310dc046bdd5fa432c8feacf8dec178d9901289021de8c1da"), looks := false }, kinds := [], alts := [], laidByText := true, laidKinds := [.data, .funcsDeep, .pinned], laidTests := true, laidLooks := .later }
def ClientMoreCardSaid : Prop := Claim7.holds Tryz.pinned (.plain (OpenSpec.ofChange clientMoreSpec)) clientMoreCard

/-- THE TIED CARD OF 'greatseallaw29.ClientShop'. -/
def clientShopCard : Claim7 := { stood := { row := clientShopRow, standIns := [], harness := (true, "2a6420b1849e717310dc046bdd5fa432c8feacf8dec178d9901289021de8c1da"), looks := false }, kinds := [], alts := [], laidByText := true, laidKinds := [.data, .funcsDeep, .pinned], laidTests := true, laidLooks := .later }
def ClientShopCardSaid : Prop := Claim7.holds Tryz.pinned (.plain (OpenSpec.ofChange clientShopSpec)) clientShopCard

/-- THE TIED CARD OF 'greatseallaw29.ClientRoots'. -/
def clientRootsCard : Claim7 := { stood := { row := clientRootsRow, standIns := [], harness := (true, "2a6420b1849e717310dc046bdd5fa432c8feacf8dec178d9901289021de8c1da"), looks := false }, kinds := [], alts := [], laidByText := true, laidKinds := [.data, .funcsDeep, .pinned], laidTests := true, laidLooks := .later }
def ClientRootsCardSaid : Prop := Claim7.holds Tryz.pinned (.plain (OpenSpec.ofChange clientRootsSpec)) clientRootsCard

/-- THE TIED CARD OF 'greatseallaw29.ClientDays'. -/
def clientDaysCard : Claim7 := { stood := { row := clientDaysRow, standIns := [], harness := (true, "2a6420b1849e717310dc046bdd5fa432c8feacf8dec178d9901289021de8c1da"), looks := false }, kinds := [], alts := [], laidByText := true, laidKinds := [.data, .funcsDeep, .pinned], laidTests := true, laidLooks := .later }
def ClientDaysCardSaid : Prop := Claim7.holds Tryz.pinned (.plain (OpenSpec.ofChange clientDaysSpec)) clientDaysCard

/-- THE TIED CARD OF 'greatseallaw29.ClientViews'. -/
def clientViewsCard : Claim7 := { stood := { row := clientViewsRow, standIns := [], harness := (true, "2a6420b1849e717310dc046bdd5fa432c8feacf8dec178d9901289021de8c1da"), looks := false }, kinds := [], alts := [], laidByText := true, laidKinds := [.data, .funcsDeep, .pinned], laidTests := true, laidLooks := .later }
def ClientViewsCardSaid : Prop := Claim7.holds Tryz.pinned (.plain (OpenSpec.ofChange clientViewsSpec)) clientViewsCard

/-- THE SECOND FORM's CARD OF 'greatseallaw29.ClientMakes'. -/
def clientMakesUptoCard : Claim7 := { stood := { row := clientMakesUptoRow, standIns := [], harness := (true, "2a6420b1849e717310dc046bdd5fa432c8feacf8dec178d9901289021de8c1da"), looks := false }, kinds := [], alts := [], laidByText := true, laidKinds := [.data, .funcsDeep, .pinned], laidTests := true, laidLooks := .later }
def ClientMakesUptoCardSaid : Prop := Claim7.holds Tryz.pinned (.plain (OpenSpec.upto clientMakesSpec)) clientMakesUptoCard

/-- THE SECOND FORM's CARD OF 'greatseallaw29.ClientProves'. -/
def clientProvesUptoCard : Claim7 := { stood := { row := clientProvesUptoRow, standIns := [], harness := (true, "2a6420b1849e717310dc046bdd5fa432c8feacf8dec178d9901289021de8c1da"), looks := false }, kinds := [], alts := [], laidByText := true, laidKinds := [.data, .funcsDeep, .pinned], laidTests := true, laidLooks := .later }
def ClientProvesUptoCardSaid : Prop := Claim7.holds Tryz.pinned (.plain (OpenSpec.upto clientProvesSpec)) clientProvesUptoCard

/-- THE SECOND FORM's CARD OF 'greatseallaw29.ClientMore'. -/
def clientMoreUptoCard : Claim7 := { stood := { row := clientMoreUptoRow, standIns := [], harness := (true, "2a6420b1849e717310dc046bdd5fa432c8feacf8dec178d9901289021de8c1da"), looks := false }, kinds := [], alts := [], laidByText := true, laidKinds := [.data, .funcsDeep, .pinned], laidTests := true, laidLooks := .later }
def ClientMoreUptoCardSaid : Prop := Claim7.holds Tryz.pinned (.plain (OpenSpec.upto clientMoreSpec)) clientMoreUptoCard

/-- THE SECOND FORM's CARD OF 'greatseallaw29.ClientShop'. -/
def clientShopUptoCard : Claim7 := { stood := { row := clientShopUptoRow, standIns := [], harness := (true, "2a6420b1849e717310dc046bdd5fa432c8feacf8dec178d9901289021de8c1da"), looks := false }, kinds := [], alts := [], laidByText := true, laidKinds := [.data, .funcsDeep, .pinned], laidTests := true, laidLooks := .later }
def ClientShopUptoCardSaid : Prop := Claim7.holds Tryz.pinned (.plain (OpenSpec.upto clientShopSpec)) clientShopUptoCard

/-- THE SECOND FORM's CARD OF 'greatseallaw29.ClientRoots'. -/
def clientRootsUptoCard : Claim7 := { stood := { row := clientRootsUptoRow, standIns := [], harness := (true, "2a6420b1849e717310dc046bdd5fa432c8feacf8dec178d9901289021de8c1da"), looks := false }, kinds := [], alts := [], laidByText := true, laidKinds := [.data, .funcsDeep, .pinned], laidTests := true, laidLooks := .later }
def ClientRootsUptoCardSaid : Prop := Claim7.holds Tryz.pinned (.plain (OpenSpec.upto clientRootsSpec)) clientRootsUptoCard

/-- THE SECOND FORM's CARD OF 'greatseallaw29.ClientDays'. -/
def clientDaysUptoCard : Claim7 := { stood := { row := clientDaysUptoRow, standIns := [], harness := (true, "2a6420b1849e717310dc046bdd5fa432c8feacf8dec178d9901289021de8c1da"), looks := false }, kinds := [], alts := [], laidByText := true, laidKinds := [.data, .funcsDeep, .pinned], laidTests := true, laidLooks := .later }
def ClientDaysUptoCardSaid : Prop := Claim7.holds Tryz.pinned (.plain (OpenSpec.upto clientDaysSpec)) clientDaysUptoCard

/-- THE SECOND FORM's CARD OF 'greatseallaw29.ClientViews'. -/
def clientViewsUptoCard : Claim7 := { stood := { row := clientViewsUptoRow, standIns := [], harness := (true, "2a6420b1849e717310dc046bdd5fa432c8feacf8dec178d9901289021de8c1da"), looks := false }, kinds := [], alts := [], laidByText := true, laidKinds := [.data, .funcsDeep, .pinned], laidTests := true, laidLooks := .later }
def ClientViewsUptoCardSaid : Prop := Claim7.holds Tryz.pinned (.plain (OpenSpec.upto clientViewsSpec)) clientViewsUptoCard
end Rows
end Go.Proofs.YtnhdojckpcbjeaaGreatDoor
