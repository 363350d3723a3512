/-
  DERIVED. GIVEN WITH THE SEED: THE CARDS: each row of YtcnbbdhhgcbjmaaGreatDoorRows.lean that lists a variable, with what it lists TIED to the program's text (the seventh form; the later family's looks); each row that meets fmt, with fmt's text TOLD by the authors' own Lean function (tested against real Go, not proved from fmt's source: count such statements apart). THE CARD IS WHAT COUNTS. Prove the row's statement (the work); the ties are given (YtcnbbdhhgcbjmaaGreatDoorTie.lean); close each card by the builder's one call (the guide's Derived/Test/ToyasCard.lean, 'card_holds'). Laid BY PROGRAM, IN A SANDBOX (cutbox-door.mjs). By AI agents, Wed Nov 11 2026. No macro, syntax, notation, axiom, sorry.
-/
import Derived.Test.YtcnbbdhhgcbjmaaGreatDoorRows
import GoSem.ClaimSeven
namespace Go.Proofs.YtcnbbdhhgcbjmaaGreatDoor
namespace Rows

/-- THE TIED CARD OF 'mallowlaw20.CachePlay'. -/
def cachePlayCard : Claim7 := { stood := { row := cachePlayRow, standIns := [], harness := (true, "f9e4c5ab8280743f192357199ea6f50f5fd4af290b62ebc1abf8cedd7aa7cb44"), looks := true }, kinds := [], alts := [], laidByText := true, laidKinds := [.data], laidTests := true, laidLooks := .later }
def CachePlayCardSaid : Prop := Claim7.holds Tryz.pinned (.plain (OpenSpec.ofChange cachePlaySpec)) cachePlayCard

/-- THE SECOND FORM's CARD OF 'mallowlaw20.CachePlay'. -/
def cachePlayUptoCard : Claim7 := { stood := { row := cachePlayUptoRow, standIns := [], harness := (true, "f9e4c5ab8280743f192357199ea6f50f5fd4af290b62ebc1abf8cedd7aa7cb44"), looks := true }, kinds := [], alts := [], laidByText := true, laidKinds := [.data], laidTests := true, laidLooks := .later }
def CachePlayUptoCardSaid : Prop := Claim7.holds Tryz.pinned (.plain (OpenSpec.upto cachePlaySpec)) cachePlayUptoCard
end Rows
end Go.Proofs.YtcnbbdhhgcbjmaaGreatDoor
