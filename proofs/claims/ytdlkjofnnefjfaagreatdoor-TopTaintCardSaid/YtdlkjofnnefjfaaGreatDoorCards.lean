/-
  DERIVED. GIVEN WITH THE SEED: THE CARDS: each row of YtdlkjofnnefjfaaGreatDoorRows.lean that lists a variable, with what it lists TIED to the program's text (the seventh form; the later family's looks); each row that meets fmt, with fmt's text TOLD by the authors' own Lean function (tested against real Go, not proved from fmt's source: count such statements apart). THE CARD IS WHAT COUNTS. Prove the row's statement (the work); the ties are given (YtdlkjofnnefjfaaGreatDoorTie.lean); close each card by the builder's one call (the guide's Derived/Test/ToyasCard.lean, 'card_holds'). Laid BY PROGRAM, IN A SANDBOX (cutbox-door.mjs). By AI agents, Wed Nov 11 2026. No macro, syntax, notation, axiom, sorry.
-/
import Derived.Test.YtdlkjofnnefjfaaGreatDoorRows
import GoSem.ClaimSeven
namespace Go.Proofs.YtdlkjofnnefjfaaGreatDoor
namespace Rows

/-- THE TIED CARD OF 'postmarktop.TopModes'. -/
def topModesCard : Claim7 := { stood := { row := topModesRow, standIns := [], harness := (true, "c2adb38374f7326a0e457780bea79ec5d9732083bd2102a5ae89c012529b8b49"), looks := true }, kinds := [], alts := [], laidByText := true, laidKinds := [.data, .handle, .widerDeep, .widerDeep, .pinned], laidTests := true, laidLooks := .later }
def TopModesCardSaid : Prop := Claim7.holds Tryz.pinned (.plain (OpenSpec.ofChange topModesSpec)) topModesCard

/-- THE TIED CARD OF 'postmarktop.TopTaint'. -/
def topTaintCard : Claim7 := { stood := { row := topTaintRow, standIns := [], harness := (true, "c2adb38374f7326a0e457780bea79ec5d9732083bd2102a5ae89c012529b8b49"), looks := true }, kinds := [], alts := [], laidByText := true, laidKinds := [.data, .handle, .widerDeep, .widerDeep, .pinned], laidTests := true, laidLooks := .later }
def TopTaintCardSaid : Prop := Claim7.holds Tryz.pinned (.plain (OpenSpec.ofChange topTaintSpec)) topTaintCard

/-- THE SECOND FORM's CARD OF 'postmarktop.TopModes'. -/
def topModesUptoCard : Claim7 := { stood := { row := topModesUptoRow, standIns := [], harness := (true, "c2adb38374f7326a0e457780bea79ec5d9732083bd2102a5ae89c012529b8b49"), looks := true }, kinds := [], alts := [], laidByText := true, laidKinds := [.data, .handle, .widerDeep, .widerDeep, .pinned], laidTests := true, laidLooks := .later }
def TopModesUptoCardSaid : Prop := Claim7.holds Tryz.pinned (.plain (OpenSpec.upto topModesSpec)) topModesUptoCard

/-- THE SECOND FORM's CARD OF 'postmarktop.TopTaint'. -/
def topTaintUptoCard : Claim7 := { stood := { row := topTaintUptoRow, standIns := [], harness := (true, "c2adb38374f7326a0e457780bea79ec5d9732083bd2102a5ae89c012529b8b49"), looks := true }, kinds := [], alts := [], laidByText := true, laidKinds := [.data, .handle, .widerDeep, .widerDeep, .pinned], laidTests := true, laidLooks := .later }
def TopTaintUptoCardSaid : Prop := Claim7.holds Tryz.pinned (.plain (OpenSpec.upto topTaintSpec)) topTaintUptoCard
end Rows
end Go.Proofs.YtdlkjofnnefjfaaGreatDoor
