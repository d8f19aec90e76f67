/-
  DERIVED. GIVEN WITH THE SEED: THE CARDS: each row of YtjokciofeicdkaaGreatDoorRows.lean that lists a variable, with what it lists TIED to the program's text (the seventh form; the later family's looks); each row that meets fmt, with fmt's text TOLD by the authors' own Lean function (tested against real Go, not proved from fmt's source: count such statements apart). THE CARD IS WHAT COUNTS. Prove the row's statement (the work); the ties are given (YtjokciofeicdkaaGreatDoorTie.lean); close each card by the builder's one call (the guide's Derived/Test/ToyasCard.lean, 'card_holds'). Laid BY PROGRAM, IN A SANDBOX (cutbox-door.mjs). By AI agents, Wed Nov 11 2026. No macro, syntax, notation, axiom, sorry.
-/
import Derived.Test.YtjokciofeicdkaaGreatDoorRows
import GoSem.ClaimSeven
namespace Go.Proofs.YtjokciofeicdkaaGreatDoor
namespace Rows

/-- THE TIED CARD OF 'reachlaw9.LowerValids'. -/
def lowerValidsCard : Claim7 := { stood := { row := lowerValidsRow, standIns := [], harness := (true, "cfe5b7cc8a99e7bdfe152d74b0d1b9c9ffa8594dfe20c6c5fe96c95212c4b30a"), looks := true }, kinds := [], alts := [], laidByText := true, laidKinds := [.data, .data, .data, .data, .sentinel, .sentinel, .listed, .data, .data, .pinned], laidTests := true, laidLooks := .later }
def LowerValidsCardSaid : Prop := Claim7.holds Tryz.pinned (.plain (OpenSpec.ofChange lowerValidsSpec)) lowerValidsCard

/-- THE TIED CARD OF 'reachlaw17.RunParses'. -/
def runParsesCard : Claim7 := { stood := { row := runParsesRow, standIns := [], harness := (true, "cfe5b7cc8a99e7bdfe152d74b0d1b9c9ffa8594dfe20c6c5fe96c95212c4b30a"), looks := true }, kinds := [], alts := [], laidByText := true, laidKinds := [.data, .data, .data, .data, .data, .sentinel, .sentinel, .data, .data, .pinned], laidTests := true, laidLooks := .later }
def RunParsesCardSaid : Prop := Claim7.holds Tryz.pinned (.plain (OpenSpec.ofChange runParsesSpec)) runParsesCard

/-- THE SECOND FORM's CARD OF 'reachlaw9.LowerValids'. -/
def lowerValidsUptoCard : Claim7 := { stood := { row := lowerValidsUptoRow, standIns := [], harness := (true, "cfe5b7cc8a99e7bdfe152d74b0d1b9c9ffa8594dfe20c6c5fe96c95212c4b30a"), looks := true }, kinds := [], alts := [], laidByText := true, laidKinds := [.data, .data, .data, .data, .sentinel, .sentinel, .listed, .data, .data, .pinned], laidTests := true, laidLooks := .later }
def LowerValidsUptoCardSaid : Prop := Claim7.holds Tryz.pinned (.plain (OpenSpec.upto lowerValidsSpec)) lowerValidsUptoCard

/-- THE SECOND FORM's CARD OF 'reachlaw17.RunParses'. -/
def runParsesUptoCard : Claim7 := { stood := { row := runParsesUptoRow, standIns := [], harness := (true, "cfe5b7cc8a99e7bdfe152d74b0d1b9c9ffa8594dfe20c6c5fe96c95212c4b30a"), looks := true }, kinds := [], alts := [], laidByText := true, laidKinds := [.data, .data, .data, .data, .data, .sentinel, .sentinel, .data, .data, .pinned], laidTests := true, laidLooks := .later }
def RunParsesUptoCardSaid : Prop := Claim7.holds Tryz.pinned (.plain (OpenSpec.upto runParsesSpec)) runParsesUptoCard
end Rows
end Go.Proofs.YtjokciofeicdkaaGreatDoor
