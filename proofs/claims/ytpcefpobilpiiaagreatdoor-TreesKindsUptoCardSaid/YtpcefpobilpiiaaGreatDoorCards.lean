/-
  DERIVED. GIVEN WITH THE SEED: THE CARDS: each row of YtpcefpobilpiiaaGreatDoorRows.lean that lists a variable, with what it lists TIED to the program's text (the seventh form; the later family's looks); each row that meets fmt, with fmt's text TOLD by the authors' own Lean function (tested against real Go, not proved from fmt's source: count such statements apart). THE CARD IS WHAT COUNTS. Prove the row's statement (the work); the ties are given (YtpcefpobilpiiaaGreatDoorTie.lean); close each card by the builder's one call (the guide's Derived/Test/ToyasCard.lean, 'card_holds'). Laid BY PROGRAM, IN A SANDBOX (cutbox-door.mjs). By AI agents, Wed Nov 11 2026. No macro, syntax, notation, axiom, sorry.
-/
import Derived.Test.YtpcefpobilpiiaaGreatDoorRows
import GoSem.ClaimSeven
namespace Go.Proofs.YtpcefpobilpiiaaGreatDoor
namespace Rows

/-- THE TIED CARD OF 'whelklaw12.TreesChecks'. -/
def treesChecksCard : Claim7 := { stood := { row := treesChecksRow, standIns := [], harness := (true, "e19ae9ac1778e550577f41a8809e9e2b16c0a73a547148bc6f2527e3cd1282f9"), looks := false }, kinds := [], alts := [], laidByText := true, laidKinds := [.data, .pinned], laidTests := true, laidLooks := .later }
def TreesChecksCardSaid : Prop := Claim7.holds Tryz.pinned (.plain (OpenSpec.ofChange treesChecksSpec)) treesChecksCard

/-- THE TIED CARD OF 'whelklaw12.TreesSame'. -/
def treesSameCard : Claim7 := { stood := { row := treesSameRow, standIns := [], harness := (true, "e19ae9ac1778e550577f41a8809e9e2b16c0a73a547148bc6f2527e3cd1282f9"), looks := false }, kinds := [], alts := [], laidByText := true, laidKinds := [.data, .pinned], laidTests := true, laidLooks := .later }
def TreesSameCardSaid : Prop := Claim7.holds Tryz.pinned (.plain (OpenSpec.ofChange treesSameSpec)) treesSameCard

/-- THE TIED CARD OF 'whelklaw12.TreesParts'. -/
def treesPartsCard : Claim7 := { stood := { row := treesPartsRow, standIns := [], harness := (true, "e19ae9ac1778e550577f41a8809e9e2b16c0a73a547148bc6f2527e3cd1282f9"), looks := false }, kinds := [], alts := [], laidByText := true, laidKinds := [.data, .pinned], laidTests := true, laidLooks := .later }
def TreesPartsCardSaid : Prop := Claim7.holds Tryz.pinned (.plain (OpenSpec.ofChange treesPartsSpec)) treesPartsCard

/-- THE TIED CARD OF 'whelklaw12.TreesKinds'. -/
def treesKindsCard : Claim7 := { stood := { row := treesKindsRow, standIns := [], harness := (true, "e19ae9ac1778e550577f41a8809e9e2b16c0a73a547148bc6f2527e3cd1282f9"), looks := false }, kinds := [], alts := [], laidByText := true, laidKinds := [.data, .pinned], laidTests := true, laidLooks := .later }
def TreesKindsCardSaid : Prop := Claim7.holds Tryz.pinned (.plain (OpenSpec.ofChange treesKindsSpec)) treesKindsCard

/-- THE SECOND FORM's CARD OF 'whelklaw12.TreesChecks'. -/
def treesChecksUptoCard : Claim7 := { stood := { row := treesChecksUptoRow, standIns := [], harness := (true, "e19ae9ac1778e550577f41a8809e9e2b16c0a73a547148bc6f2527e3cd1282f9"), looks := false }, kinds := [], alts := [], laidByText := true, laidKinds := [.data, .pinned], laidTests := true, laidLooks := .later }
def TreesChecksUptoCardSaid : Prop := Claim7.holds Tryz.pinned (.plain (OpenSpec.upto treesChecksSpec)) treesChecksUptoCard

/-- THE SECOND FORM's CARD OF 'whelklaw12.TreesSame'. -/
def treesSameUptoCard : Claim7 := { stood := { row := treesSameUptoRow, standIns := [], harness := (true, "e19ae9ac1778e550577f41a8809e9e2b16c0a73a547148bc6f2527e3cd1282f9"), looks := false }, kinds := [], alts := [], laidByText := true, laidKinds := [.data, .pinned], laidTests := true, laidLooks := .later }
def TreesSameUptoCardSaid : Prop := Claim7.holds Tryz.pinned (.plain (OpenSpec.upto treesSameSpec)) treesSameUptoCard

/-- THE SECOND FORM's CARD OF 'whelklaw12.TreesParts'. -/
def treesPartsUptoCard : Claim7 := { stood := { row := treesPartsUptoRow, standIns := [], harness := (true, "e19ae9ac1778e550577f41a8809e9e2b16c0a73a547148bc6f2527e3cd1282f9"), looks := false }, kinds := [], alts := [], laidByText := true, laidKinds := [.data, .pinned], laidTests := true, laidLooks := .later }
def TreesPartsUptoCardSaid : Prop := Claim7.holds Tryz.pinned (.plain (OpenSpec.upto treesPartsSpec)) treesPartsUptoCard

/-- THE SECOND FORM's CARD OF 'whelklaw12.TreesKinds'. -/
def treesKindsUptoCard : Claim7 := { stood := { row := treesKindsUptoRow, standIns := [], harness := (true, "e19ae9ac1778e550577f41a8809e9e2b16c0a73a547148bc6f2527e3cd1282f9"), looks := false }, kinds := [], alts := [], laidByText := true, laidKinds := [.data, .pinned], laidTests := true, laidLooks := .later }
def TreesKindsUptoCardSaid : Prop := Claim7.holds Tryz.pinned (.plain (OpenSpec.upto treesKindsSpec)) treesKindsUptoCard
end Rows
end Go.Proofs.YtpcefpobilpiiaaGreatDoor
