/-
  DERIVED. GIVEN WITH THE SEED: THE CARDS: each row of YtlnbckkkapbdmaaGreatDoorRows.lean that lists a variable, with what it lists TIED to the program's text (the seventh form; the later family's looks); each row that meets fmt, with fmt's text TOLD by the authors' own Lean function (tested against real Go, not proved from fmt's source: count such statements apart). THE CARD IS WHAT COUNTS. Prove the row's statement (the work); the ties are given (YtlnbckkkapbdmaaGreatDoorTie.lean); close each card by the builder's one call (the guide's Derived/Test/ToyasCard.lean, 'card_holds'). Laid BY PROGRAM, IN A SANDBOX (cutbox-door.mjs). By AI agents, Wed Nov 11 2026. No macro, syntax, notation, axiom, sorry.
-/
import Derived.Test.YtlnbckkkapbdmaaGreatDoorRows
import GoSem.ClaimSeven
namespace Go.Proofs.YtlnbckkkapbdmaaGreatDoor
namespace Rows

/-- THE TIED CARD OF 'greatseallaw18.CertChecks'. -/
def certChecksCard : Claim7 := { stood := { row := certChecksRow, standIns := [], harness := (true, "1128e307966b0840d85816e9ba1fac9c07de20041f8902131a6fdc27be32bb85"), looks := true }, kinds := [], alts := [], laidByText := true, laidKinds := [.data, .funcsDeep, .pinned], laidTests := true, laidLooks := .later }
def CertChecksCardSaid : Prop := Claim7.holds Tryz.pinned (.plain (OpenSpec.ofChange certChecksSpec)) certChecksCard

/-- THE TIED CARD OF 'greatseallaw18.CertPuts'. -/
def certPutsCard : Claim7 := { stood := { row := certPutsRow, standIns := [], harness := (true, "1128e307966b0840d85816e9ba1fac9c07de20041f8902131a6fdc27be32bb85"), looks := true }, kinds := [], alts := [], laidByText := true, laidKinds := [.data, .funcsDeep, .pinned], laidTests := true, laidLooks := .later }
def CertPutsCardSaid : Prop := Claim7.holds Tryz.pinned (.plain (OpenSpec.ofChange certPutsSpec)) certPutsCard

/-- THE TIED CARD OF 'greatseallaw18.CertGets'. -/
def certGetsCard : Claim7 := { stood := { row := certGetsRow, standIns := [], harness := (true, "1128e307966b0840d85816e9ba1fac9c07de20041f8902131a6fdc27be32bb85"), looks := true }, kinds := [], alts := [], laidByText := true, laidKinds := [.data, .funcsDeep, .pinned], laidTests := true, laidLooks := .later }
def CertGetsCardSaid : Prop := Claim7.holds Tryz.pinned (.plain (OpenSpec.ofChange certGetsSpec)) certGetsCard

/-- THE TIED CARD OF 'greatseallaw18.CertBack'. -/
def certBackCard : Claim7 := { stood := { row := certBackRow, standIns := [], harness := (true, "1128e307966b0840d85816e9ba1fac9c07de20041f8902131a6fdc27be32bb85"), looks := true }, kinds := [], alts := [], laidByText := true, laidKinds := [.data, .funcsDeep, .pinned], laidTests := true, laidLooks := .later }
def CertBackCardSaid : Prop := Claim7.holds Tryz.pinned (.plain (OpenSpec.ofChange certBackSpec)) certBackCard

/-- THE TIED CARD OF 'greatseallaw18.CertOnly'. -/
def certOnlyCard : Claim7 := { stood := { row := certOnlyRow, standIns := [], harness := (true, "1128e307966b0840d85816e9ba1fac9c07de20041f8902131a6fdc27be32bb85"), looks := true }, kinds := [], alts := [], laidByText := true, laidKinds := [.data, .funcsDeep, .pinned], laidTests := true, laidLooks := .later }
def CertOnlyCardSaid : Prop := Claim7.holds Tryz.pinned (.plain (OpenSpec.ofChange certOnlySpec)) certOnlyCard

/-- THE TIED CARD OF 'greatseallaw18.CertLeaf'. -/
def certLeafCard : Claim7 := { stood := { row := certLeafRow, standIns := [], harness := (true, "1128e307966b0840d85816e9ba1fac9c07de20041f8902131a6fdc27be32bb85"), looks := true }, kinds := [], alts := [], laidByText := true, laidKinds := [.data, .funcsDeep, .pinned], laidTests := true, laidLooks := .later }
def CertLeafCardSaid : Prop := Claim7.holds Tryz.pinned (.plain (OpenSpec.ofChange certLeafSpec)) certLeafCard

/-- THE TIED CARD OF 'greatseallaw18.CertUnlike'. -/
def certUnlikeCard : Claim7 := { stood := { row := certUnlikeRow, standIns := [], harness := (true, "1128e307966b0840d85816e9ba1fac9c07de20041f8902131a6fdc27be32bb85"), looks := true }, kinds := [], alts := [], laidByText := true, laidKinds := [.data, .funcsDeep, .pinned], laidTests := true, laidLooks := .later }
def CertUnlikeCardSaid : Prop := Claim7.holds Tryz.pinned (.plain (OpenSpec.ofChange certUnlikeSpec)) certUnlikeCard

/-- THE TIED CARD OF 'greatseallaw18.CertParts'. -/
def certPartsCard : Claim7 := { stood := { row := certPartsRow, standIns := [], harness := (true, "1128e307966b0840d85816e9ba1fac9c07de20041f8902131a6fdc27be32bb85"), looks := true }, kinds := [], alts := [], laidByText := true, laidKinds := [.data, .funcsDeep, .pinned], laidTests := true, laidLooks := .later }
def CertPartsCardSaid : Prop := Claim7.holds Tryz.pinned (.plain (OpenSpec.ofChange certPartsSpec)) certPartsCard

/-- THE TIED CARD OF 'greatseallaw18.CertKinds'. -/
def certKindsCard : Claim7 := { stood := { row := certKindsRow, standIns := [], harness := (true, "1128e307966b0840d85816e9ba1fac9c07de20041f8902131a6fdc27be32bb85"), looks := true }, kinds := [], alts := [], laidByText := true, laidKinds := [.data, .funcsDeep, .pinned], laidTests := true, laidLooks := .later }
def CertKindsCardSaid : Prop := Claim7.holds Tryz.pinned (.plain (OpenSpec.ofChange certKindsSpec)) certKindsCard

/-- THE SECOND FORM's CARD OF 'greatseallaw18.CertChecks'. -/
def certChecksUptoCard : Claim7 := { stood := { row := certChecksUptoRow, standIns := [], harness := (true, "1128e307966b0840d85816e9ba1fac9c07de20041f8902131a6fdc27be32bb85"), looks := true }, kinds := [], alts := [], laidByText := true, laidKinds := [.data, .funcsDeep, .pinned], laidTests := true, laidLooks := .later }
def CertChecksUptoCardSaid : Prop := Claim7.holds Tryz.pinned (.plain (OpenSpec.upto certChecksSpec)) certChecksUptoCard

/-- THE SECOND FORM's CARD OF 'greatseallaw18.CertPuts'. -/
def certPutsUptoCard : Claim7 := { stood := { row := certPutsUptoRow, standIns := [], harness := (true, "1128e307966b0840d85816e9ba1fac9c07de20041f8902131a6fdc27be32bb85"), looks := true }, kinds := [], alts := [], laidByText := true, laidKinds := [.data, .funcsDeep, .pinned], laidTests := true, laidLooks := .later }
def CertPutsUptoCardSaid : Prop := Claim7.holds Tryz.pinned (.plain (OpenSpec.upto certPutsSpec)) certPutsUptoCard

/-- THE SECOND FORM's CARD OF 'greatseallaw18.CertGets'. -/
def certGetsUptoCard : Claim7 := { stood := { row := certGetsUptoRow, standIns := [], harness := (true, "1128e307966b0840d85816e9ba1fac9c07de20041f8902131a6fdc27be32bb85"), looks := true }, kinds := [], alts := [], laidByText := true, laidKinds := [.data, .funcsDeep, .pinned], laidTests := true, laidLooks := .later }
def CertGetsUptoCardSaid : Prop := Claim7.holds Tryz.pinned (.plain (OpenSpec.upto certGetsSpec)) certGetsUptoCard

/-- THE SECOND FORM's CARD OF 'greatseallaw18.CertBack'. -/
def certBackUptoCard : Claim7 := { stood := { row := certBackUptoRow, standIns := [], harness := (true, "1128e307966b0840d85816e9ba1fac9c07de20041f8902131a6fdc27be32bb85"), looks := true }, kinds := [], alts := [], laidByText := true, laidKinds := [.data, .funcsDeep, .pinned], laidTests := true, laidLooks := .later }
def CertBackUptoCardSaid : Prop := Claim7.holds Tryz.pinned (.plain (OpenSpec.upto certBackSpec)) certBackUptoCard

/-- THE SECOND FORM's CARD OF 'greatseallaw18.CertOnly'. -/
def certOnlyUptoCard : Claim7 := { stood := { row := certOnlyUptoRow, standIns := [], harness := (true, "1128e307966b0840d85816e9ba1fac9c07de20041f8902131a6fdc27be32bb85"), looks := true }, kinds := [], alts := [], laidByText := true, laidKinds := [.data, .funcsDeep, .pinned], laidTests := true, laidLooks := .later }
def CertOnlyUptoCardSaid : Prop := Claim7.holds Tryz.pinned (.plain (OpenSpec.upto certOnlySpec)) certOnlyUptoCard

/-- THE SECOND FORM's CARD OF 'greatseallaw18.CertLeaf'. -/
def certLeafUptoCard : Claim7 := { stood := { row := certLeafUptoRow, standIns := [], harness := (true, "1128e307966b0840d85816e9ba1fac9c07de20041f8902131a6fdc27be32bb85"), looks := true }, kinds := [], alts := [], laidByText := true, laidKinds := [.data, .funcsDeep, .pinned], laidTests := true, laidLooks := .later }
def CertLeafUptoCardSaid : Prop := Claim7.holds Tryz.pinned (.plain (OpenSpec.upto certLeafSpec)) certLeafUptoCard

/-- THE SECOND FORM's CARD OF 'greatseallaw18.CertUnlike'. -/
def certUnlikeUptoCard : Claim7 := { stood := { row := certUnlikeUptoRow, standIns := [], harness := (true, "1128e307966b0840d85816e9ba1fac9c07de20041f8902131a6fdc27be32bb85"), looks := true }, kinds := [], alts := [], laidByText := true, laidKinds := [.data, .funcsDeep, .pinned], laidTests := true, laidLooks := .later }
def CertUnlikeUptoCardSaid : Prop := Claim7.holds Tryz.pinned (.plain (OpenSpec.upto certUnlikeSpec)) certUnlikeUptoCard

/-- THE SECOND FORM's CARD OF 'greatseallaw18.CertParts'. -/
def certPartsUptoCard : Claim7 := { stood := { row := certPartsUptoRow, standIns := [], harness := (true, "1128e307966b0840d85816e9ba1fac9c07de20041f8902131a6fdc27be32bb85"), looks := true }, kinds := [], alts := [], laidByText := true, laidKinds := [.data, .funcsDeep, .pinned], laidTests := true, laidLooks := .later }
def CertPartsUptoCardSaid : Prop := Claim7.holds Tryz.pinned (.plain (OpenSpec.upto certPartsSpec)) certPartsUptoCard

/-- THE SECOND FORM's CARD OF 'greatseallaw18.CertKinds'. -/
def certKindsUptoCard : Claim7 := { stood := { row := certKindsUptoRow, standIns := [], harness := (true, "1128e307966b0840d85816e9ba1fac9c07de20041f8902131a6fdc27be32bb85"), looks := true }, kinds := [], alts := [], laidByText := true, laidKinds := [.data, .funcsDeep, .pinned], laidTests := true, laidLooks := .later }
def CertKindsUptoCardSaid : Prop := Claim7.holds Tryz.pinned (.plain (OpenSpec.upto certKindsSpec)) certKindsUptoCard
end Rows
end Go.Proofs.YtlnbckkkapbdmaaGreatDoor
