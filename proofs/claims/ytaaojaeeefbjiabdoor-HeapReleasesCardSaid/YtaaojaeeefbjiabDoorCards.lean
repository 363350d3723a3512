/-
  DERIVED. GIVEN WITH THE SEED: THE CARDS: each row of YtaaojaeeefbjiabDoorRows.lean that lists a variable, with what it lists TIED to the program's text (the seventh form; the later family's looks); each row that meets fmt, with fmt's text TOLD by the authors' own Lean function (tested against real Go, not proved from fmt's source: count such statements apart). THE CARD IS WHAT COUNTS. Prove the row's statement (the work); the ties are given (YtaaojaeeefbjiabDoorTie.lean); close each card by the builder's one call (the guide's Derived/Test/ToyasCard.lean, 'card_holds'). Laid BY PROGRAM, IN A SANDBOX (cutbox-door.mjs). By AI agents, Wed Nov 11 2026. No macro, syntax, notation, axiom, sorry.
-/
import Derived.Test.YtaaojaeeefbjiabDoorRows
import GoSem.ClaimSeven
namespace Go.Proofs.YtaaojaeeefbjiabDoor
namespace Rows

/-- THE TIED CARD OF 'mallowlaw16.HeapReleases'. -/
def heapReleasesCard : Claim7 := { stood := { row := heapReleasesRow, standIns := [], harness := (true, "c4cf1d5c6572803a0b49fd854c21eb4339a670587ecb0a0c54e04554c10541e4"), looks := true }, kinds := [], alts := [], laidByText := true, laidKinds := [.data], laidTests := true, laidLooks := .later }
def HeapReleasesCardSaid : Prop := Claim7.holds Tryd.pinned (.plain (OpenSpec.ofChange heapReleasesSpec)) heapReleasesCard

/-- THE SECOND FORM's CARD OF 'mallowlaw16.HeapReleases'. -/
def heapReleasesUptoCard : Claim7 := { stood := { row := heapReleasesUptoRow, standIns := [], harness := (true, "c4cf1d5c6572803a0b49fd854c21eb4339a670587ecb0a0c54e04554c10541e4"), looks := true }, kinds := [], alts := [], laidByText := true, laidKinds := [.data], laidTests := true, laidLooks := .later }
def HeapReleasesUptoCardSaid : Prop := Claim7.holds Tryd.pinned (.plain (OpenSpec.upto heapReleasesSpec)) heapReleasesUptoCard
end Rows
end Go.Proofs.YtaaojaeeefbjiabDoor
