/-
  DERIVED. GIVEN WITH THE SEED: THE CARDS: each row of YtgcgcligdjnmaaaGreatDoorRows.lean that lists a variable, with what it lists TIED to the program's text (the seventh form; the later family's looks); each row that meets fmt, with fmt's text TOLD by the authors' own Lean function (tested against real Go, not proved from fmt's source: count such statements apart). THE CARD IS WHAT COUNTS. Prove the row's statement (the work); the ties are given (YtgcgcligdjnmaaaGreatDoorTie.lean); close each card by the builder's one call (the guide's Derived/Test/ToyasCard.lean, 'card_holds'). Laid BY PROGRAM, IN A SANDBOX (cutbox-door.mjs). By AI agents, Wed Nov 11 2026. No macro, syntax, notation, axiom, sorry.
-/
import Derived.Test.YtgcgcligdjnmaaaGreatDoorRows
import GoSem.ClaimSeven
namespace Go.Proofs.YtgcgcligdjnmaaaGreatDoor
namespace Rows

/-- THE TIED CARD OF 'mallowlaw18.SweepPlays'. -/
def sweepPlaysCard : Claim7 := { stood := { row := sweepPlaysRow, standIns := [], harness := (true, "b744ed3cf20b60b589ef4a0b23e453221ff896151f973346a1f7aff8c11c19fc"), looks := true }, kinds := [], alts := [], laidByText := true, laidKinds := [.data], laidTests := true, laidLooks := .later }
def SweepPlaysCardSaid : Prop := Claim7.holds Tryz.pinned (.plain (OpenSpec.ofChange sweepPlaysSpec)) sweepPlaysCard

/-- THE SECOND FORM's CARD OF 'mallowlaw18.SweepPlays'. -/
def sweepPlaysUptoCard : Claim7 := { stood := { row := sweepPlaysUptoRow, standIns := [], harness := (true, "b744ed3cf20b60b589ef4a0b23e453221ff896151f973346a1f7aff8c11c19fc"), looks := true }, kinds := [], alts := [], laidByText := true, laidKinds := [.data], laidTests := true, laidLooks := .later }
def SweepPlaysUptoCardSaid : Prop := Claim7.holds Tryz.pinned (.plain (OpenSpec.upto sweepPlaysSpec)) sweepPlaysUptoCard
end Rows
end Go.Proofs.YtgcgcligdjnmaaaGreatDoor
