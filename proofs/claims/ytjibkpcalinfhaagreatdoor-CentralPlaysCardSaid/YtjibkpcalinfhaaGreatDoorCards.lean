/-
  DERIVED. GIVEN WITH THE SEED: THE CARDS: each row of YtjibkpcalinfhaaGreatDoorRows.lean that lists a variable, with what it lists TIED to the program's text (the seventh form; the later family's looks); each row that meets fmt, with fmt's text TOLD by the authors' own Lean function (tested against real Go, not proved from fmt's source: count such statements apart). THE CARD IS WHAT COUNTS. Prove the row's statement (the work); the ties are given (YtjibkpcalinfhaaGreatDoorTie.lean); close each card by the builder's one call (the guide's Derived/Test/ToyasCard.lean, 'card_holds'). Laid BY PROGRAM, IN A SANDBOX (cutbox-door.mjs). By AI agents, Wed Nov 11 2026. No macro, syntax, notation, axiom, sorry.
-/
import Derived.Test.YtjibkpcalinfhaaGreatDoorRows
import GoSem.ClaimSeven
namespace Go.Proofs.YtjibkpcalinfhaaGreatDoor
namespace Rows

/-- THE TIED CARD OF 'mallowlaw19.CentralPlays'. -/
def centralPlaysCard : Claim7 := { stood := { row := centralPlaysRow, standIns := [], harness := (true, "d53fc86a75fa03839860bc284b6f9dc4cee7d208457b1c68ffc20a3eb2e9d95c"), looks := true }, kinds := [], alts := [], laidByText := true, laidKinds := [.data], laidTests := true, laidLooks := .later }
def CentralPlaysCardSaid : Prop := Claim7.holds Tryz.pinned (.plain (OpenSpec.ofChange centralPlaysSpec)) centralPlaysCard

/-- THE SECOND FORM's CARD OF 'mallowlaw19.CentralPlays'. -/
def centralPlaysUptoCard : Claim7 := { stood := { row := centralPlaysUptoRow, standIns := [], harness := (true, "d53fc86a75fa03839860bc284b6f9dc4cee7d208457b1c68ffc20a3eb2e9d95c"), looks := true }, kinds := [], alts := [], laidByText := true, laidKinds := [.data], laidTests := true, laidLooks := .later }
def CentralPlaysUptoCardSaid : Prop := Claim7.holds Tryz.pinned (.plain (OpenSpec.upto centralPlaysSpec)) centralPlaysUptoCard
end Rows
end Go.Proofs.YtjibkpcalinfhaaGreatDoor
