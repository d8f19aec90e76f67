/-
  DERIVED. GIVEN WITH THE SEED: THE CARDS: each row of YtgfgoaeaicefcaaGreatDoorRows.lean that lists a variable, with what it lists TIED to the program's text (the seventh form; the later family's looks); each row that meets fmt, with fmt's text TOLD by the authors' own Lean function (tested against real Go, not proved from fmt's source: count such statements apart). THE CARD IS WHAT COUNTS. Prove the row's statement (the work); the ties are given (YtgfgoaeaicefcaaGreatDoorTie.lean); close each card by the builder's one call (the guide's Derived/Test/ToyasCard.lean, 'card_holds'). Laid BY PROGRAM, IN A SANDBOX (cutbox-door.mjs). By AI agents, Wed Nov 11 2026. No macro, syntax, notation, axiom, sorry.
-/
import Derived.Test.YtgfgoaeaicefcaaGreatDoorRows
import GoSem.ClaimSeven
namespace Go.Proofs.YtgfgoaeaicefcaaGreatDoor
namespace Rows

/-- THE TIED CARD OF 'reachlaw16.DeltaBack'. -/
def deltaBackCard : Claim7 := { stood := { row := deltaBackRow, standIns := [], harness := (true, "a8f588ec4c7b0cc4e3d5b2798a71e61db599f541d1c7aa38bcdbcad979c119e4"), looks := true }, kinds := [], alts := [], laidByText := true, laidKinds := [.data, .pinned, .data, .data, .data, .data, .data, .sentinel, .sentinel, .data, .listed], laidTests := true, laidLooks := .later }
def DeltaBackCardSaid : Prop := Claim7.holds Tryz.pinned (.plain (OpenSpec.ofChange deltaBackSpec)) deltaBackCard

/-- THE SECOND FORM's CARD OF 'reachlaw16.DeltaBack'. -/
def deltaBackUptoCard : Claim7 := { stood := { row := deltaBackUptoRow, standIns := [], harness := (true, "a8f588ec4c7b0cc4e3d5b2798a71e61db599f541d1c7aa38bcdbcad979c119e4"), looks := true }, kinds := [], alts := [], laidByText := true, laidKinds := [.data, .pinned, .data, .data, .data, .data, .data, .sentinel, .sentinel, .data, .listed], laidTests := true, laidLooks := .later }
def DeltaBackUptoCardSaid : Prop := Claim7.holds Tryz.pinned (.plain (OpenSpec.upto deltaBackSpec)) deltaBackUptoCard
end Rows
end Go.Proofs.YtgfgoaeaicefcaaGreatDoor
