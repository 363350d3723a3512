/-
  DERIVED. GIVEN WITH THE SEED: THE CARDS: each row of YtnmbkhckcjkopaaDoorRows.lean that lists a variable, with what it lists TIED to the program's text (the seventh form; the later family's looks); each row that meets fmt, with fmt's text TOLD by the authors' own Lean function (tested against real Go, not proved from fmt's source: count such statements apart). THE CARD IS WHAT COUNTS. Prove the row's statement (the work); the ties are given (YtnmbkhckcjkopaaDoorTie.lean); close each card by the builder's one call (the guide's Derived/Test/ToyasCard.lean, 'card_holds'). Laid BY PROGRAM, IN A SANDBOX (cutbox-door.mjs). By AI agents, Wed Nov 11 2026. No macro, syntax, notation, axiom, sorry.
-/
import Derived.Test.YtnmbkhckcjkopaaDoorRows
import GoSem.ClaimSeven
namespace Go.Proofs.YtnmbkhckcjkopaaDoor
namespace Rows

/-- THE TIED CARD OF 'mallowlaw10.CacheGives'. -/
def cacheGivesCard : Claim7 := { stood := { row := cacheGivesRow, standIns := [], harness := (true, "f3b18f8ee3899803f404120ba510f125dcae8f3e38b5bb34b4e47b470ec22fa2"), looks := false }, kinds := [], alts := [], laidByText := true, laidKinds := [.data], laidTests := true, laidLooks := .later }
def CacheGivesCardSaid : Prop := Claim7.holds Tryd.pinned (.plain (OpenSpec.ofChange cacheGivesSpec)) cacheGivesCard

/-- THE TIED CARD OF 'mallowlaw10.CacheTwo'. -/
def cacheTwoCard : Claim7 := { stood := { row := cacheTwoRow, standIns := [], harness := (true, "f3b18f8ee3899803f404120ba510f125dcae8f3e38b5bb34b4e47b470ec22fa2"), looks := false }, kinds := [], alts := [], laidByText := true, laidKinds := [.data], laidTests := true, laidLooks := .later }
def CacheTwoCardSaid : Prop := Claim7.holds Tryd.pinned (.plain (OpenSpec.ofChange cacheTwoSpec)) cacheTwoCard

/-- THE TIED CARD OF 'mallowlaw10.CacheUndo'. -/
def cacheUndoCard : Claim7 := { stood := { row := cacheUndoRow, standIns := [], harness := (true, "f3b18f8ee3899803f404120ba510f125dcae8f3e38b5bb34b4e47b470ec22fa2"), looks := false }, kinds := [], alts := [], laidByText := true, laidKinds := [.data], laidTests := true, laidLooks := .later }
def CacheUndoCardSaid : Prop := Claim7.holds Tryd.pinned (.plain (OpenSpec.ofChange cacheUndoSpec)) cacheUndoCard

/-- THE TIED CARD OF 'mallowlaw10.CachePlays'. -/
def cachePlaysCard : Claim7 := { stood := { row := cachePlaysRow, standIns := [], harness := (true, "f3b18f8ee3899803f404120ba510f125dcae8f3e38b5bb34b4e47b470ec22fa2"), looks := false }, kinds := [], alts := [], laidByText := true, laidKinds := [.data], laidTests := true, laidLooks := .later }
def CachePlaysCardSaid : Prop := Claim7.holds Tryd.pinned (.plain (OpenSpec.ofChange cachePlaysSpec)) cachePlaysCard

/-- THE SECOND FORM's CARD OF 'mallowlaw10.CacheGives'. -/
def cacheGivesUptoCard : Claim7 := { stood := { row := cacheGivesUptoRow, standIns := [], harness := (true, "f3b18f8ee3899803f404120ba510f125dcae8f3e38b5bb34b4e47b470ec22fa2"), looks := false }, kinds := [], alts := [], laidByText := true, laidKinds := [.data], laidTests := true, laidLooks := .later }
def CacheGivesUptoCardSaid : Prop := Claim7.holds Tryd.pinned (.plain (OpenSpec.upto cacheGivesSpec)) cacheGivesUptoCard

/-- THE SECOND FORM's CARD OF 'mallowlaw10.CacheTwo'. -/
def cacheTwoUptoCard : Claim7 := { stood := { row := cacheTwoUptoRow, standIns := [], harness := (true, "f3b18f8ee3899803f404120ba510f125dcae8f3e38b5bb34b4e47b470ec22fa2"), looks := false }, kinds := [], alts := [], laidByText := true, laidKinds := [.data], laidTests := true, laidLooks := .later }
def CacheTwoUptoCardSaid : Prop := Claim7.holds Tryd.pinned (.plain (OpenSpec.upto cacheTwoSpec)) cacheTwoUptoCard

/-- THE SECOND FORM's CARD OF 'mallowlaw10.CacheUndo'. -/
def cacheUndoUptoCard : Claim7 := { stood := { row := cacheUndoUptoRow, standIns := [], harness := (true, "f3b18f8ee3899803f404120ba510f125dcae8f3e38b5bb34b4e47b470ec22fa2"), looks := false }, kinds := [], alts := [], laidByText := true, laidKinds := [.data], laidTests := true, laidLooks := .later }
def CacheUndoUptoCardSaid : Prop := Claim7.holds Tryd.pinned (.plain (OpenSpec.upto cacheUndoSpec)) cacheUndoUptoCard

/-- THE SECOND FORM's CARD OF 'mallowlaw10.CachePlays'. -/
def cachePlaysUptoCard : Claim7 := { stood := { row := cachePlaysUptoRow, standIns := [], harness := (true, "f3b18f8ee3899803f404120ba510f125dcae8f3e38b5bb34b4e47b470ec22fa2"), looks := false }, kinds := [], alts := [], laidByText := true, laidKinds := [.data], laidTests := true, laidLooks := .later }
def CachePlaysUptoCardSaid : Prop := Claim7.holds Tryd.pinned (.plain (OpenSpec.upto cachePlaysSpec)) cachePlaysUptoCard
end Rows
end Go.Proofs.YtnmbkhckcjkopaaDoor
