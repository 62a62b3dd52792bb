/-
  DERIVED. GIVEN WITH THE SEED: THE CARDS: each row of YtnpkeganpkobjaaGreatDoorRows.lean that lists a variable, with what it lists TIED to the program's text (the seventh form; the later family's looks); each row that meets fmt, with fmt's text TOLD by the authors' own Lean function (tested against real Go, not proved from fmt's source: count such statements apart). THE CARD IS WHAT COUNTS. Prove the row's statement (the work); the ties are given (YtnpkeganpkobjaaGreatDoorTie.lean); close each card by the builder's one call (the guide's Derived/Test/ToyasCard.lean, 'card_holds'). Laid BY PROGRAM, IN A SANDBOX (cutbox-door.mjs). By AI agents, Wed Nov 11 2026. No macro, syntax, notation, axiom, sorry.
-/
import Derived.Test.YtnpkeganpkobjaaGreatDoorRows
import GoSem.ClaimSeven
namespace Go.Proofs.YtnpkeganpkobjaaGreatDoor
namespace Rows

/-- THE TIED CARD OF 'turncocktop.TopLong'. -/
def topLongCard : Claim7 := { stood := { row := topLongRow, standIns := [], harness := (true, "6ebb81c7e5c950afa440a6f9cc9bb55e1bb6154add93d0eb56ba483bfcfdc45a"), looks := true }, kinds := [], alts := [], laidByText := true, laidKinds := [.data, .pinned], laidTests := true, laidLooks := .later }
def TopLongCardSaid : Prop := Claim7.holds Tryz.pinned (.plain (OpenSpec.ofChange topLongSpec)) topLongCard

/-- THE TIED CARD OF 'turncocktop.TopLimit'. -/
def topLimitCard : Claim7 := { stood := { row := topLimitRow, standIns := [], harness := (true, "6ebb81c7e5c950afa440a6f9cc9bb55e1bb6154add93d0eb56ba483bfcfdc45a"), looks := true }, kinds := [], alts := [], laidByText := true, laidKinds := [.data, .pinned], laidTests := true, laidLooks := .later }
def TopLimitCardSaid : Prop := Claim7.holds Tryz.pinned (.plain (OpenSpec.ofChange topLimitSpec)) topLimitCard

/-- THE TIED CARD OF 'turncocktop.TopWindows'. -/
def topWindowsCard : Claim7 := { stood := { row := topWindowsRow, standIns := [], harness := (true, "6ebb81c7e5c950afa440a6f9cc9bb55e1bb6154add93d0eb56ba483bfcfdc45a"), looks := true }, kinds := [], alts := [], laidByText := true, laidKinds := [.data, .pinned], laidTests := true, laidLooks := .later }
def TopWindowsCardSaid : Prop := Claim7.holds Tryz.pinned (.plain (OpenSpec.ofChange topWindowsSpec)) topWindowsCard

/-- THE TIED CARD OF 'turncocktop.TopParts'. -/
def topPartsCard : Claim7 := { stood := { row := topPartsRow, standIns := [], harness := (true, "6ebb81c7e5c950afa440a6f9cc9bb55e1bb6154add93d0eb56ba483bfcfdc45a"), looks := true }, kinds := [], alts := [], laidByText := true, laidKinds := [.data, .pinned], laidTests := true, laidLooks := .later }
def TopPartsCardSaid : Prop := Claim7.holds Tryz.pinned (.plain (OpenSpec.ofChange topPartsSpec)) topPartsCard

/-- THE SECOND FORM's CARD OF 'turncocktop.TopLong'. -/
def topLongUptoCard : Claim7 := { stood := { row := topLongUptoRow, standIns := [], harness := (true, "6ebb81c7e5c950afa440a6f9cc9bb55e1bb6154add93d0eb56ba483bfcfdc45a"), looks := true }, kinds := [], alts := [], laidByText := true, laidKinds := [.data, .pinned], laidTests := true, laidLooks := .later }
def TopLongUptoCardSaid : Prop := Claim7.holds Tryz.pinned (.plain (OpenSpec.upto topLongSpec)) topLongUptoCard

/-- THE SECOND FORM's CARD OF 'turncocktop.TopLimit'. -/
def topLimitUptoCard : Claim7 := { stood := { row := topLimitUptoRow, standIns := [], harness := (true, "6ebb81c7e5c950afa440a6f9cc9bb55e1bb6154add93d0eb56ba483bfcfdc45a"), looks := true }, kinds := [], alts := [], laidByText := true, laidKinds := [.data, .pinned], laidTests := true, laidLooks := .later }
def TopLimitUptoCardSaid : Prop := Claim7.holds Tryz.pinned (.plain (OpenSpec.upto topLimitSpec)) topLimitUptoCard

/-- THE SECOND FORM's CARD OF 'turncocktop.TopWindows'. -/
def topWindowsUptoCard : Claim7 := { stood := { row := topWindowsUptoRow, standIns := [], harness := (true, "6ebb81c7e5c950afa440a6f9cc9bb55e1bb6154add93d0eb56ba483bfcfdc45a"), looks := true }, kinds := [], alts := [], laidByText := true, laidKinds := [.data, .pinned], laidTests := true, laidLooks := .later }
def TopWindowsUptoCardSaid : Prop := Claim7.holds Tryz.pinned (.plain (OpenSpec.upto topWindowsSpec)) topWindowsUptoCard

/-- THE SECOND FORM's CARD OF 'turncocktop.TopParts'. -/
def topPartsUptoCard : Claim7 := { stood := { row := topPartsUptoRow, standIns := [], harness := (true, "6ebb81c7e5c950afa440a6f9cc9bb55e1bb6154add93d0eb56ba483bfcfdc45a"), looks := true }, kinds := [], alts := [], laidByText := true, laidKinds := [.data, .pinned], laidTests := true, laidLooks := .later }
def TopPartsUptoCardSaid : Prop := Claim7.holds Tryz.pinned (.plain (OpenSpec.upto topPartsSpec)) topPartsUptoCard
end Rows
end Go.Proofs.YtnpkeganpkobjaaGreatDoor
