/-
  DERIVED. GIVEN WITH THE SEED: THE CARDS: each row of YtcmlamembchcdaaGreatDoorRows.lean that lists a variable, with what it lists TIED to the program's text (the seventh form; the later family's looks); each row that meets fmt, with fmt's text TOLD by the authors' own Lean function (tested against real Go, not proved from fmt's source: count such statements apart). THE CARD IS WHAT COUNTS. Prove the row's statement (the work); the ties are given (YtcmlamembchcdaaGreatDoorTie.lean); close each card by the builder's one call (the guide's Derived/Test/ToyasCard.lean, 'card_holds'). Laid BY PROGRAM, IN A SANDBOX (cutbox-door.mjs). By AI agents, Wed Nov 11 2026. No macro, syntax, notation, axiom, sorry.
-/
import Derived.Test.YtcmlamembchcdaaGreatDoorRows
import GoSem.ClaimSeven
namespace Go.Proofs.YtcmlamembchcdaaGreatDoor
namespace Rows

/-- THE TIED CARD OF 'mallowlaw21.StacksSizes'. -/
def stacksSizesCard : Claim7 := { stood := { row := stacksSizesRow, standIns := [], harness := (true, "7c683a72be5b8a11978854c5562a6a4e3e56061d523e885c8da885dfea3f92eb"), looks := true }, kinds := [], alts := [], laidByText := true, laidKinds := [.data], laidTests := true, laidLooks := .later }
def StacksSizesCardSaid : Prop := Claim7.holds Tryz.pinned (.plain (OpenSpec.ofChange stacksSizesSpec)) stacksSizesCard

/-- THE TIED CARD OF 'mallowlaw21.StacksLast'. -/
def stacksLastCard : Claim7 := { stood := { row := stacksLastRow, standIns := [], harness := (true, "7c683a72be5b8a11978854c5562a6a4e3e56061d523e885c8da885dfea3f92eb"), looks := true }, kinds := [], alts := [], laidByText := true, laidKinds := [.data], laidTests := true, laidLooks := .later }
def StacksLastCardSaid : Prop := Claim7.holds Tryz.pinned (.plain (OpenSpec.ofChange stacksLastSpec)) stacksLastCard

/-- THE TIED CARD OF 'mallowlaw21.StacksRefused'. -/
def stacksRefusedCard : Claim7 := { stood := { row := stacksRefusedRow, standIns := [], harness := (true, "7c683a72be5b8a11978854c5562a6a4e3e56061d523e885c8da885dfea3f92eb"), looks := true }, kinds := [], alts := [], laidByText := true, laidKinds := [.data], laidTests := true, laidLooks := .later }
def StacksRefusedCardSaid : Prop := Claim7.holds Tryz.pinned (.plain (OpenSpec.ofChange stacksRefusedSpec)) stacksRefusedCard

/-- THE TIED CARD OF 'mallowlaw21.StacksApart'. -/
def stacksApartCard : Claim7 := { stood := { row := stacksApartRow, standIns := [], harness := (true, "7c683a72be5b8a11978854c5562a6a4e3e56061d523e885c8da885dfea3f92eb"), looks := true }, kinds := [], alts := [], laidByText := true, laidKinds := [.data], laidTests := true, laidLooks := .later }
def StacksApartCardSaid : Prop := Claim7.holds Tryz.pinned (.plain (OpenSpec.ofChange stacksApartSpec)) stacksApartCard

/-- THE SECOND FORM's CARD OF 'mallowlaw21.StacksSizes'. -/
def stacksSizesUptoCard : Claim7 := { stood := { row := stacksSizesUptoRow, standIns := [], harness := (true, "7c683a72be5b8a11978854c5562a6a4e3e56061d523e885c8da885dfea3f92eb"), looks := true }, kinds := [], alts := [], laidByText := true, laidKinds := [.data], laidTests := true, laidLooks := .later }
def StacksSizesUptoCardSaid : Prop := Claim7.holds Tryz.pinned (.plain (OpenSpec.upto stacksSizesSpec)) stacksSizesUptoCard

/-- THE SECOND FORM's CARD OF 'mallowlaw21.StacksLast'. -/
def stacksLastUptoCard : Claim7 := { stood := { row := stacksLastUptoRow, standIns := [], harness := (true, "7c683a72be5b8a11978854c5562a6a4e3e56061d523e885c8da885dfea3f92eb"), looks := true }, kinds := [], alts := [], laidByText := true, laidKinds := [.data], laidTests := true, laidLooks := .later }
def StacksLastUptoCardSaid : Prop := Claim7.holds Tryz.pinned (.plain (OpenSpec.upto stacksLastSpec)) stacksLastUptoCard

/-- THE SECOND FORM's CARD OF 'mallowlaw21.StacksRefused'. -/
def stacksRefusedUptoCard : Claim7 := { stood := { row := stacksRefusedUptoRow, standIns := [], harness := (true, "7c683a72be5b8a11978854c5562a6a4e3e56061d523e885c8da885dfea3f92eb"), looks := true }, kinds := [], alts := [], laidByText := true, laidKinds := [.data], laidTests := true, laidLooks := .later }
def StacksRefusedUptoCardSaid : Prop := Claim7.holds Tryz.pinned (.plain (OpenSpec.upto stacksRefusedSpec)) stacksRefusedUptoCard

/-- THE SECOND FORM's CARD OF 'mallowlaw21.StacksApart'. -/
def stacksApartUptoCard : Claim7 := { stood := { row := stacksApartUptoRow, standIns := [], harness := (true, "7c683a72be5b8a11978854c5562a6a4e3e56061d523e885c8da885dfea3f92eb"), looks := true }, kinds := [], alts := [], laidByText := true, laidKinds := [.data], laidTests := true, laidLooks := .later }
def StacksApartUptoCardSaid : Prop := Claim7.holds Tryz.pinned (.plain (OpenSpec.upto stacksApartSpec)) stacksApartUptoCard
end Rows
end Go.Proofs.YtcmlamembchcdaaGreatDoor
