/-
  DERIVED. GIVEN WITH THE SEED: THE CARDS: each row of YtohipjalgccmnaaDoorRows.lean that lists a variable, with what it lists TIED to the program's text (the seventh form; the later family's looks); each row that meets fmt, with fmt's text TOLD by the authors' own Lean function (tested against real Go, not proved from fmt's source: count such statements apart). THE CARD IS WHAT COUNTS. Prove the row's statement (the work); the ties are given (YtohipjalgccmnaaDoorTie.lean); close each card by the builder's one call (the guide's Derived/Test/ToyasCard.lean, 'card_holds'). Laid BY PROGRAM, IN A SANDBOX (cutbox-door.mjs). By AI agents, Wed Nov 11 2026. No macro, syntax, notation, axiom, sorry.
-/
import Derived.Test.YtohipjalgccmnaaDoorRows
import GoSem.ClaimSeven
namespace Go.Proofs.YtohipjalgccmnaaDoor
namespace Rows

/-- THE TIED CARD OF 'greatseallaw08.MerkleRoots'. -/
def merkleRootsCard : Claim7 := { stood := { row := merkleRootsRow, standIns := [], harness := (true, "9cc41babc289fc6ef08df90fe5c95160afedb080cffe74f030779634d9344b69"), looks := false }, kinds := [], alts := [], laidByText := true, laidKinds := [.data, .data], laidTests := true, laidLooks := .later }
def MerkleRootsCardSaid : Prop := Claim7.holds Tryd.pinned (.plain (OpenSpec.ofChange merkleRootsSpec)) merkleRootsCard

/-- THE TIED CARD OF 'greatseallaw08.MerkleProves'. -/
def merkleProvesCard : Claim7 := { stood := { row := merkleProvesRow, standIns := [], harness := (true, "9cc41babc289fc6ef08df90fe5c95160afedb080cffe74f030779634d9344b69"), looks := false }, kinds := [], alts := [], laidByText := true, laidKinds := [.data, .data], laidTests := true, laidLooks := .later }
def MerkleProvesCardSaid : Prop := Claim7.holds Tryd.pinned (.plain (OpenSpec.ofChange merkleProvesSpec)) merkleProvesCard

/-- THE TIED CARD OF 'greatseallaw08.MerkleGrows'. -/
def merkleGrowsCard : Claim7 := { stood := { row := merkleGrowsRow, standIns := [], harness := (true, "9cc41babc289fc6ef08df90fe5c95160afedb080cffe74f030779634d9344b69"), looks := false }, kinds := [], alts := [], laidByText := true, laidKinds := [.data, .data], laidTests := true, laidLooks := .later }
def MerkleGrowsCardSaid : Prop := Claim7.holds Tryd.pinned (.plain (OpenSpec.ofChange merkleGrowsSpec)) merkleGrowsCard

/-- THE TIED CARD OF 'greatseallaw08.MerkleIn'. -/
def merkleInCard : Claim7 := { stood := { row := merkleInRow, standIns := [], harness := (true, "9cc41babc289fc6ef08df90fe5c95160afedb080cffe74f030779634d9344b69"), looks := false }, kinds := [], alts := [], laidByText := true, laidKinds := [.data, .data], laidTests := true, laidLooks := .later }
def MerkleInCardSaid : Prop := Claim7.holds Tryd.pinned (.plain (OpenSpec.ofChange merkleInSpec)) merkleInCard

/-- THE TIED CARD OF 'greatseallaw08.MerkleGrown'. -/
def merkleGrownCard : Claim7 := { stood := { row := merkleGrownRow, standIns := [], harness := (true, "9cc41babc289fc6ef08df90fe5c95160afedb080cffe74f030779634d9344b69"), looks := false }, kinds := [], alts := [], laidByText := true, laidKinds := [.data, .data], laidTests := true, laidLooks := .later }
def MerkleGrownCardSaid : Prop := Claim7.holds Tryd.pinned (.plain (OpenSpec.ofChange merkleGrownSpec)) merkleGrownCard

/-- THE TIED CARD OF 'greatseallaw08.MerkleFooled'. -/
def merkleFooledCard : Claim7 := { stood := { row := merkleFooledRow, standIns := [], harness := (true, "9cc41babc289fc6ef08df90fe5c95160afedb080cffe74f030779634d9344b69"), looks := false }, kinds := [], alts := [], laidByText := true, laidKinds := [.data, .data], laidTests := true, laidLooks := .later }
def MerkleFooledCardSaid : Prop := Claim7.holds Tryd.pinned (.plain (OpenSpec.ofChange merkleFooledSpec)) merkleFooledCard

/-- THE TIED CARD OF 'greatseallaw08.MerkleSame'. -/
def merkleSameCard : Claim7 := { stood := { row := merkleSameRow, standIns := [], harness := (true, "9cc41babc289fc6ef08df90fe5c95160afedb080cffe74f030779634d9344b69"), looks := false }, kinds := [], alts := [], laidByText := true, laidKinds := [.data, .data], laidTests := true, laidLooks := .later }
def MerkleSameCardSaid : Prop := Claim7.holds Tryd.pinned (.plain (OpenSpec.ofChange merkleSameSpec)) merkleSameCard

/-- THE TIED CARD OF 'greatseallaw08.MerkleHalves'. -/
def merkleHalvesCard : Claim7 := { stood := { row := merkleHalvesRow, standIns := [], harness := (true, "9cc41babc289fc6ef08df90fe5c95160afedb080cffe74f030779634d9344b69"), looks := false }, kinds := [], alts := [], laidByText := true, laidKinds := [.data, .data], laidTests := true, laidLooks := .later }
def MerkleHalvesCardSaid : Prop := Claim7.holds Tryd.pinned (.plain (OpenSpec.ofChange merkleHalvesSpec)) merkleHalvesCard

/-- THE TIED CARD OF 'greatseallaw08.MerkleTold'. -/
def merkleToldCard : Claim7 := { stood := { row := merkleToldRow, standIns := [], harness := (true, "9cc41babc289fc6ef08df90fe5c95160afedb080cffe74f030779634d9344b69"), looks := false }, kinds := [], alts := [], laidByText := true, laidKinds := [.data, .data], laidTests := true, laidLooks := .later }
def MerkleToldCardSaid : Prop := Claim7.holds Tryd.pinned (.plain (OpenSpec.ofChange merkleToldSpec)) merkleToldCard

/-- THE SECOND FORM's CARD OF 'greatseallaw08.MerkleRoots'. -/
def merkleRootsUptoCard : Claim7 := { stood := { row := merkleRootsUptoRow, standIns := [], harness := (true, "9cc41babc289fc6ef08df90fe5c95160afedb080cffe74f030779634d9344b69"), looks := false }, kinds := [], alts := [], laidByText := true, laidKinds := [.data, .data], laidTests := true, laidLooks := .later }
def MerkleRootsUptoCardSaid : Prop := Claim7.holds Tryd.pinned (.plain (OpenSpec.upto merkleRootsSpec)) merkleRootsUptoCard

/-- THE SECOND FORM's CARD OF 'greatseallaw08.MerkleProves'. -/
def merkleProvesUptoCard : Claim7 := { stood := { row := merkleProvesUptoRow, standIns := [], harness := (true, "9cc41babc289fc6ef08df90fe5c95160afedb080cffe74f030779634d9344b69"), looks := false }, kinds := [], alts := [], laidByText := true, laidKinds := [.data, .data], laidTests := true, laidLooks := .later }
def MerkleProvesUptoCardSaid : Prop := Claim7.holds Tryd.pinned (.plain (OpenSpec.upto merkleProvesSpec)) merkleProvesUptoCard

/-- THE SECOND FORM's CARD OF 'greatseallaw08.MerkleGrows'. -/
def merkleGrowsUptoCard : Claim7 := { stood := { row := merkleGrowsUptoRow, standIns := [], harness := (true, "9cc41babc289fc6ef08df90fe5c95160afedb080cffe74f030779634d9344b69"), looks := false }, kinds := [], alts := [], laidByText := true, laidKinds := [.data, .data], laidTests := true, laidLooks := .later }
def MerkleGrowsUptoCardSaid : Prop := Claim7.holds Tryd.pinned (.plain (OpenSpec.upto merkleGrowsSpec)) merkleGrowsUptoCard

/-- THE SECOND FORM's CARD OF 'greatseallaw08.MerkleIn'. -/
def merkleInUptoCard : Claim7 := { stood := { row := merkleInUptoRow, standIns := [], harness := (true, "9cc41babc289fc6ef08df90fe5c95160afedb080cffe74f030779634d9344b69"), looks := false }, kinds := [], alts := [], laidByText := true, laidKinds := [.data, .data], laidTests := true, laidLooks := .later }
def MerkleInUptoCardSaid : Prop := Claim7.holds Tryd.pinned (.plain (OpenSpec.upto merkleInSpec)) merkleInUptoCard

/-- THE SECOND FORM's CARD OF 'greatseallaw08.MerkleGrown'. -/
def merkleGrownUptoCard : Claim7 := { stood := { row := merkleGrownUptoRow, standIns := [], harness := (true, "9cc41babc289fc6ef08df90fe5c95160afedb080cffe74f030779634d9344b69"), looks := false }, kinds := [], alts := [], laidByText := true, laidKinds := [.data, .data], laidTests := true, laidLooks := .later }
def MerkleGrownUptoCardSaid : Prop := Claim7.holds Tryd.pinned (.plain (OpenSpec.upto merkleGrownSpec)) merkleGrownUptoCard

/-- THE SECOND FORM's CARD OF 'greatseallaw08.MerkleFooled'. -/
def merkleFooledUptoCard : Claim7 := { stood := { row := merkleFooledUptoRow, standIns := [], harness := (true, "9cc41babc289fc6ef08df90fe5c95160afedb080cffe74f030779634d9344b69"), looks := false }, kinds := [], alts := [], laidByText := true, laidKinds := [.data, .data], laidTests := true, laidLooks := .later }
def MerkleFooledUptoCardSaid : Prop := Claim7.holds Tryd.pinned (.plain (OpenSpec.upto merkleFooledSpec)) merkleFooledUptoCard

/-- THE SECOND FORM's CARD OF 'greatseallaw08.MerkleSame'. -/
def merkleSameUptoCard : Claim7 := { stood := { row := merkleSameUptoRow, standIns := [], harness := (true, "9cc41babc289fc6ef08df90fe5c95160afedb080cffe74f030779634d9344b69"), looks := false }, kinds := [], alts := [], laidByText := true, laidKinds := [.data, .data], laidTests := true, laidLooks := .later }
def MerkleSameUptoCardSaid : Prop := Claim7.holds Tryd.pinned (.plain (OpenSpec.upto merkleSameSpec)) merkleSameUptoCard

/-- THE SECOND FORM's CARD OF 'greatseallaw08.MerkleHalves'. -/
def merkleHalvesUptoCard : Claim7 := { stood := { row := merkleHalvesUptoRow, standIns := [], harness := (true, "9cc41babc289fc6ef08df90fe5c95160afedb080cffe74f030779634d9344b69"), looks := false }, kinds := [], alts := [], laidByText := true, laidKinds := [.data, .data], laidTests := true, laidLooks := .later }
def MerkleHalvesUptoCardSaid : Prop := Claim7.holds Tryd.pinned (.plain (OpenSpec.upto merkleHalvesSpec)) merkleHalvesUptoCard

/-- THE SECOND FORM's CARD OF 'greatseallaw08.MerkleTold'. -/
def merkleToldUptoCard : Claim7 := { stood := { row := merkleToldUptoRow, standIns := [], harness := (true, "9cc41babc289fc6ef08df90fe5c95160afedb080cffe74f030779634d9344b69"), looks := false }, kinds := [], alts := [], laidByText := true, laidKinds := [.data, .data], laidTests := true, laidLooks := .later }
def MerkleToldUptoCardSaid : Prop := Claim7.holds Tryd.pinned (.plain (OpenSpec.upto merkleToldSpec)) merkleToldUptoCard
end Rows
end Go.Proofs.YtohipjalgccmnaaDoor
