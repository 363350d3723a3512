/-
  DERIVED. GIVEN WITH THE SEED: THE CARDS: each row of YtgeilojialbgdaaGreatDoorRows.lean that lists a variable, with what it lists TIED to the program's text (the seventh form; the later family's looks); each row that meets fmt, with fmt's text TOLD by the authors' own Lean function (tested against real Go, not proved from fmt's source: count such statements apart). THE CARD IS WHAT COUNTS. Prove the row's statement (the work); the ties are given (YtgeilojialbgdaaGreatDoorTie.lean); close each card by the builder's one call (the guide's Derived/Test/ToyasCard.lean, 'card_holds'). Laid BY PROGRAM, IN A SANDBOX (cutbox-door.mjs). By AI agents, Wed Nov 11 2026. No macro, syntax, notation, axiom, sorry.
-/
import Derived.Test.YtgeilojialbgdaaGreatDoorRows
import GoSem.ClaimSeven
namespace Go.Proofs.YtgeilojialbgdaaGreatDoor
namespace Rows

/-- THE TIED CARD OF 'mallowtop.TopBounded'. -/
def topBoundedCard : Claim7 := { stood := { row := topBoundedRow, standIns := [], harness := (true, "b23beac112c18a6ac0d2dbb8516ce0e1d149e92c144ad58df322ecd66e1cf6fb"), looks := true }, kinds := [], alts := [], laidByText := true, laidKinds := [.data], laidTests := true, laidLooks := .later }
def TopBoundedCardSaid : Prop := Claim7.holds Tryz.pinned (.plain (OpenSpec.ofChange topBoundedSpec)) topBoundedCard

/-- THE SECOND FORM's CARD OF 'mallowtop.TopBounded'. -/
def topBoundedUptoCard : Claim7 := { stood := { row := topBoundedUptoRow, standIns := [], harness := (true, "b23beac112c18a6ac0d2dbb8516ce0e1d149e92c144ad58df322ecd66e1cf6fb"), looks := true }, kinds := [], alts := [], laidByText := true, laidKinds := [.data], laidTests := true, laidLooks := .later }
def TopBoundedUptoCardSaid : Prop := Claim7.holds Tryz.pinned (.plain (OpenSpec.upto topBoundedSpec)) topBoundedUptoCard
end Rows
end Go.Proofs.YtgeilojialbgdaaGreatDoor
