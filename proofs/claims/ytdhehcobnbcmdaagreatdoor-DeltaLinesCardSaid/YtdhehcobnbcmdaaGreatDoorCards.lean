/-
  DERIVED. GIVEN WITH THE SEED: THE CARDS: each row of YtdhehcobnbcmdaaGreatDoorRows.lean that lists a variable, with what it lists TIED to the program's text (the seventh form; the later family's looks); each row that meets fmt, with fmt's text TOLD by the authors' own Lean function (tested against real Go, not proved from fmt's source: count such statements apart). THE CARD IS WHAT COUNTS. Prove the row's statement (the work); the ties are given (YtdhehcobnbcmdaaGreatDoorTie.lean); close each card by the builder's one call (the guide's Derived/Test/ToyasCard.lean, 'card_holds'). Laid BY PROGRAM, IN A SANDBOX (cutbox-door.mjs). By AI agents, Wed Nov 11 2026. No macro, syntax, notation, axiom, sorry.
-/
import Derived.Test.YtdhehcobnbcmdaaGreatDoorRows
import GoSem.ClaimSeven
namespace Go.Proofs.YtdhehcobnbcmdaaGreatDoor
namespace Rows

/-- THE TIED CARD OF 'reachlaw16.DeltaLines'. -/
def deltaLinesCard : Claim7 := { stood := { row := deltaLinesRow, standIns := [], harness := (true, "9e26e2f14c67464a77b84946bb5039bb58912b570083a1cb57bf7c96963d6539"), looks := true }, kinds := [], alts := [], laidByText := true, laidKinds := [.data, .data, .data, .data, .sentinel, .sentinel, .listed, .data, .data, .data, .pinned], laidTests := true, laidLooks := .later }
def DeltaLinesCardSaid : Prop := Claim7.holds Tryz.pinned (.plain (OpenSpec.ofChange deltaLinesSpec)) deltaLinesCard

/-- THE SECOND FORM's CARD OF 'reachlaw16.DeltaLines'. -/
def deltaLinesUptoCard : Claim7 := { stood := { row := deltaLinesUptoRow, standIns := [], harness := (true, "9e26e2f14c67464a77b84946bb5039bb58912b570083a1cb57bf7c96963d6539"), looks := true }, kinds := [], alts := [], laidByText := true, laidKinds := [.data, .data, .data, .data, .sentinel, .sentinel, .listed, .data, .data, .data, .pinned], laidTests := true, laidLooks := .later }
def DeltaLinesUptoCardSaid : Prop := Claim7.holds Tryz.pinned (.plain (OpenSpec.upto deltaLinesSpec)) deltaLinesUptoCard
end Rows
end Go.Proofs.YtdhehcobnbcmdaaGreatDoor
