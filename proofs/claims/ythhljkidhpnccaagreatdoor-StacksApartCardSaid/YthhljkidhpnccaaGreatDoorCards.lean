/-
  DERIVED. GIVEN WITH THE SEED: THE CARDS: each row of YthhljkidhpnccaaGreatDoorRows.lean that lists a variable, with what it lists TIED to the program's text (the seventh form; the later family's looks); each row that meets fmt, with fmt's text TOLD by the authors' own Lean function (tested against real Go, not proved from fmt's source: count such statements apart). THE CARD IS WHAT COUNTS. Prove the row's statement (the work); the ties are given (YthhljkidhpnccaaGreatDoorTie.lean); close each card by the builder's one call (the guide's Derived/Test/ToyasCard.lean, 'card_holds'). Laid BY PROGRAM, IN A SANDBOX (cutbox-door.mjs). By AI agents, Wed Nov 11 2026. No macro, syntax, notation, axiom, sorry.
-/
import Derived.Test.YthhljkidhpnccaaGreatDoorRows
import GoSem.ClaimSeven
namespace Go.Proofs.YthhljkidhpnccaaGreatDoor
namespace Rows

/-- THE TIED CARD OF 'mallowlaw21.StacksApart'. -/
def stacksApartCard : Claim7 := { stood := { row := stacksApartRow, standIns := [], harness := (true, "945e2282e59d5c62854ade52e527b1a8bcb2c13b91356443607a80a977c65e99"), looks := true }, kinds := [], alts := [], laidByText := true, laidKinds := [.data], laidTests := true, laidLooks := .later }
def StacksApartCardSaid : Prop := Claim7.holds Tryz.pinned (.plain (OpenSpec.ofChange stacksApartSpec)) stacksApartCard

/-- THE SECOND FORM's CARD OF 'mallowlaw21.StacksApart'. -/
def stacksApartUptoCard : Claim7 := { stood := { row := stacksApartUptoRow, standIns := [], harness := (true, "945e2282e59d5c62854ade52e527b1a8bcb2c13b91356443607a80a977c65e99"), looks := true }, kinds := [], alts := [], laidByText := true, laidKinds := [.data], laidTests := true, laidLooks := .later }
def StacksApartUptoCardSaid : Prop := Claim7.holds Tryz.pinned (.plain (OpenSpec.upto stacksApartSpec)) stacksApartUptoCard
end Rows
end Go.Proofs.YthhljkidhpnccaaGreatDoor
