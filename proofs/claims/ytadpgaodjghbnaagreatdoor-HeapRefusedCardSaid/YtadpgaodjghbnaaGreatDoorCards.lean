/-
  DERIVED. GIVEN WITH THE SEED: THE CARDS: each row of YtadpgaodjghbnaaGreatDoorRows.lean that lists a variable, with what it lists TIED to the program's text (the seventh form; the later family's looks); each row that meets fmt, with fmt's text TOLD by the authors' own Lean function (tested against real Go, not proved from fmt's source: count such statements apart). THE CARD IS WHAT COUNTS. Prove the row's statement (the work); the ties are given (YtadpgaodjghbnaaGreatDoorTie.lean); close each card by the builder's one call (the guide's Derived/Test/ToyasCard.lean, 'card_holds'). Laid BY PROGRAM, IN A SANDBOX (cutbox-door.mjs). By AI agents, Wed Nov 11 2026. No macro, syntax, notation, axiom, sorry.
-/
import Derived.Test.YtadpgaodjghbnaaGreatDoorRows
import GoSem.ClaimSeven
namespace Go.Proofs.YtadpgaodjghbnaaGreatDoor
namespace Rows

/-- THE TIED CARD OF 'mallowlaw16.HeapRecords'. -/
def heapRecordsCard : Claim7 := { stood := { row := heapRecordsRow, standIns := [], harness := (true, "c6fbca7b9f80150840f33a56d80bd5e2c2b09a8bdb450cfd67b3ce006e70442f"), looks := true }, kinds := [], alts := [], laidByText := true, laidKinds := [.data], laidTests := true, laidLooks := .later }
def HeapRecordsCardSaid : Prop := Claim7.holds Tryz.pinned (.plain (OpenSpec.ofChange heapRecordsSpec)) heapRecordsCard

/-- THE TIED CARD OF 'mallowlaw16.HeapRefused'. -/
def heapRefusedCard : Claim7 := { stood := { row := heapRefusedRow, standIns := [], harness := (true, "c6fbca7b9f80150840f33a56d80bd5e2c2b09a8bdb450cfd67b3ce006e70442f"), looks := true }, kinds := [], alts := [], laidByText := true, laidKinds := [.data], laidTests := true, laidLooks := .later }
def HeapRefusedCardSaid : Prop := Claim7.holds Tryz.pinned (.plain (OpenSpec.ofChange heapRefusedSpec)) heapRefusedCard

/-- THE SECOND FORM's CARD OF 'mallowlaw16.HeapRecords'. -/
def heapRecordsUptoCard : Claim7 := { stood := { row := heapRecordsUptoRow, standIns := [], harness := (true, "c6fbca7b9f80150840f33a56d80bd5e2c2b09a8bdb450cfd67b3ce006e70442f"), looks := true }, kinds := [], alts := [], laidByText := true, laidKinds := [.data], laidTests := true, laidLooks := .later }
def HeapRecordsUptoCardSaid : Prop := Claim7.holds Tryz.pinned (.plain (OpenSpec.upto heapRecordsSpec)) heapRecordsUptoCard

/-- THE SECOND FORM's CARD OF 'mallowlaw16.HeapRefused'. -/
def heapRefusedUptoCard : Claim7 := { stood := { row := heapRefusedUptoRow, standIns := [], harness := (true, "c6fbca7b9f80150840f33a56d80bd5e2c2b09a8bdb450cfd67b3ce006e70442f"), looks := true }, kinds := [], alts := [], laidByText := true, laidKinds := [.data], laidTests := true, laidLooks := .later }
def HeapRefusedUptoCardSaid : Prop := Claim7.holds Tryz.pinned (.plain (OpenSpec.upto heapRefusedSpec)) heapRefusedUptoCard
end Rows
end Go.Proofs.YtadpgaodjghbnaaGreatDoor
