/-
  DERIVED. GIVEN WITH THE SEED: THE CARDS: each row of YtbkjmfgdoceogaaGreatDoorRows.lean that lists a variable, with what it lists TIED to the program's text (the seventh form; the later family's looks); each row that meets fmt, with fmt's text TOLD by the authors' own Lean function (tested against real Go, not proved from fmt's source: count such statements apart). THE CARD IS WHAT COUNTS. Prove the row's statement (the work); the ties are given (YtbkjmfgdoceogaaGreatDoorTie.lean); close each card by the builder's one call (the guide's Derived/Test/ToyasCard.lean, 'card_holds'). Laid BY PROGRAM, IN A SANDBOX (cutbox-door.mjs). By AI agents, Wed Nov 11 2026. No macro, syntax, notation, axiom, sorry.
-/
import Derived.Test.YtbkjmfgdoceogaaGreatDoorRows
import GoSem.ClaimSeven
namespace Go.Proofs.YtbkjmfgdoceogaaGreatDoor
namespace Rows

/-- THE TIED CARD OF 'mallowlaw22.ScavPlays'. -/
def scavPlaysCard : Claim7 := { stood := { row := scavPlaysRow, standIns := [], harness := (true, "a76ff23a5d94dedef67e63838c58c5fb16908bc77289f14e2385b9e3c207b6cf"), looks := false }, kinds := [], alts := [], laidByText := true, laidKinds := [.data], laidTests := true, laidLooks := .later }
def ScavPlaysCardSaid : Prop := Claim7.holds Tryz.pinned (.plain (OpenSpec.ofChange scavPlaysSpec)) scavPlaysCard

/-- THE SECOND FORM's CARD OF 'mallowlaw22.ScavPlays'. -/
def scavPlaysUptoCard : Claim7 := { stood := { row := scavPlaysUptoRow, standIns := [], harness := (true, "a76ff23a5d94dedef67e63838c58c5fb16908bc77289f14e2385b9e3c207b6cf"), looks := false }, kinds := [], alts := [], laidByText := true, laidKinds := [.data], laidTests := true, laidLooks := .later }
def ScavPlaysUptoCardSaid : Prop := Claim7.holds Tryz.pinned (.plain (OpenSpec.upto scavPlaysSpec)) scavPlaysUptoCard
end Rows
end Go.Proofs.YtbkjmfgdoceogaaGreatDoor
