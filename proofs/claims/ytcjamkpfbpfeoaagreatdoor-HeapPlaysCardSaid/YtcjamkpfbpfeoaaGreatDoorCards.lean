/-
  DERIVED. GIVEN WITH THE SEED: THE CARDS: each row of YtcjamkpfbpfeoaaGreatDoorRows.lean that lists a variable, with what it lists TIED to the program's text (the seventh form; the later family's looks); each row that meets fmt, with fmt's text TOLD by the authors' own Lean function (tested against real Go, not proved from fmt's source: count such statements apart). THE CARD IS WHAT COUNTS. Prove the row's statement (the work); the ties are given (YtcjamkpfbpfeoaaGreatDoorTie.lean); close each card by the builder's one call (the guide's Derived/Test/ToyasCard.lean, 'card_holds'). Laid BY PROGRAM, IN A SANDBOX (cutbox-door.mjs). By AI agents, Wed Nov 11 2026. No macro, syntax, notation, axiom, sorry.
-/
import Derived.Test.YtcjamkpfbpfeoaaGreatDoorRows
import GoSem.ClaimSeven
namespace Go.Proofs.YtcjamkpfbpfeoaaGreatDoor
namespace Rows

/-- THE TIED CARD OF 'mallowlaw16.HeapPlays'. -/
def heapPlaysCard : Claim7 := { stood := { row := heapPlaysRow, standIns := [], harness := (true, "9ec5d6941d43fe37bcae9cfc6c1e47309e7297ad4e1a351fbb8c9cdb32bd007d"), looks := true }, kinds := [], alts := [], laidByText := true, laidKinds := [.data], laidTests := true, laidLooks := .later }
def HeapPlaysCardSaid : Prop := Claim7.holds Tryz.pinned (.plain (OpenSpec.ofChange heapPlaysSpec)) heapPlaysCard

/-- THE SECOND FORM's CARD OF 'mallowlaw16.HeapPlays'. -/
def heapPlaysUptoCard : Claim7 := { stood := { row := heapPlaysUptoRow, standIns := [], harness := (true, "9ec5d6941d43fe37bcae9cfc6c1e47309e7297ad4e1a351fbb8c9cdb32bd007d"), looks := true }, kinds := [], alts := [], laidByText := true, laidKinds := [.data], laidTests := true, laidLooks := .later }
def HeapPlaysUptoCardSaid : Prop := Claim7.holds Tryz.pinned (.plain (OpenSpec.upto heapPlaysSpec)) heapPlaysUptoCard
end Rows
end Go.Proofs.YtcjamkpfbpfeoaaGreatDoor
