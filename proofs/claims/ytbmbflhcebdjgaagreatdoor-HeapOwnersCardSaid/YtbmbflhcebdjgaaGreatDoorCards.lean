/-
  DERIVED. GIVEN WITH THE SEED: THE CARDS: each row of YtbmbflhcebdjgaaGreatDoorRows.lean that lists a variable, with what it lists TIED to the program's text (the seventh form; the later family's looks); each row that meets fmt, with fmt's text TOLD by the authors' own Lean function (tested against real Go, not proved from fmt's source: count such statements apart). THE CARD IS WHAT COUNTS. Prove the row's statement (the work); the ties are given (YtbmbflhcebdjgaaGreatDoorTie.lean); close each card by the builder's one call (the guide's Derived/Test/ToyasCard.lean, 'card_holds'). Laid BY PROGRAM, IN A SANDBOX (cutbox-door.mjs). By AI agents, Wed Nov 11 2026. No macro, syntax, notation, axiom, sorry.
-/
import Derived.Test.YtbmbflhcebdjgaaGreatDoorRows
import GoSem.ClaimSeven
namespace Go.Proofs.YtbmbflhcebdjgaaGreatDoor
namespace Rows

/-- THE TIED CARD OF 'mallowlaw16.HeapOwners'. -/
def heapOwnersCard : Claim7 := { stood := { row := heapOwnersRow, standIns := [], harness := (true, "021d397fdff379849afed56014a8fd341bf3ed5948037c27a13154fb1818189f"), looks := false }, kinds := [], alts := [], laidByText := true, laidKinds := [.data], laidTests := true, laidLooks := .later }
def HeapOwnersCardSaid : Prop := Claim7.holds Tryz.pinned (.plain (OpenSpec.ofChange heapOwnersSpec)) heapOwnersCard

/-- THE SECOND FORM's CARD OF 'mallowlaw16.HeapOwners'. -/
def heapOwnersUptoCard : Claim7 := { stood := { row := heapOwnersUptoRow, standIns := [], harness := (true, "021d397fdff379849afed56014a8fd341bf3ed5948037c27a13154fb1818189f"), looks := false }, kinds := [], alts := [], laidByText := true, laidKinds := [.data], laidTests := true, laidLooks := .later }
def HeapOwnersUptoCardSaid : Prop := Claim7.holds Tryz.pinned (.plain (OpenSpec.upto heapOwnersSpec)) heapOwnersUptoCard
end Rows
end Go.Proofs.YtbmbflhcebdjgaaGreatDoor
