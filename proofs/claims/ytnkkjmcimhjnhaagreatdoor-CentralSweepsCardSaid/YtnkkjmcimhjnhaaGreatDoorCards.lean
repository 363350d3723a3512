/-
  DERIVED. GIVEN WITH THE SEED: THE CARDS: each row of YtnkkjmcimhjnhaaGreatDoorRows.lean that lists a variable, with what it lists TIED to the program's text (the seventh form; the later family's looks); each row that meets fmt, with fmt's text TOLD by the authors' own Lean function (tested against real Go, not proved from fmt's source: count such statements apart). THE CARD IS WHAT COUNTS. Prove the row's statement (the work); the ties are given (YtnkkjmcimhjnhaaGreatDoorTie.lean); close each card by the builder's one call (the guide's Derived/Test/ToyasCard.lean, 'card_holds'). Laid BY PROGRAM, IN A SANDBOX (cutbox-door.mjs). By AI agents, Wed Nov 11 2026. No macro, syntax, notation, axiom, sorry.
-/
import Derived.Test.YtnkkjmcimhjnhaaGreatDoorRows
import GoSem.ClaimSeven
namespace Go.Proofs.YtnkkjmcimhjnhaaGreatDoor
namespace Rows

/-- THE TIED CARD OF 'mallowlaw19.CentralRoom'. -/
def centralRoomCard : Claim7 := { stood := { row := centralRoomRow, standIns := [], harness := (true, "8d637bdf8523e4e8452304c3152d2e0ca20f23291fcd391271da83924ea89970"), looks := true }, kinds := [], alts := [], laidByText := true, laidKinds := [.data], laidTests := true, laidLooks := .later }
def CentralRoomCardSaid : Prop := Claim7.holds Tryz.pinned (.plain (OpenSpec.ofChange centralRoomSpec)) centralRoomCard

/-- THE TIED CARD OF 'mallowlaw19.CentralSweeps'. -/
def centralSweepsCard : Claim7 := { stood := { row := centralSweepsRow, standIns := [], harness := (true, "8d637bdf8523e4e8452304c3152d2e0ca20f23291fcd391271da83924ea89970"), looks := true }, kinds := [], alts := [], laidByText := true, laidKinds := [.data], laidTests := true, laidLooks := .later }
def CentralSweepsCardSaid : Prop := Claim7.holds Tryz.pinned (.plain (OpenSpec.ofChange centralSweepsSpec)) centralSweepsCard

/-- THE TIED CARD OF 'mallowlaw20.CacheApart'. -/
def cacheApartCard : Claim7 := { stood := { row := cacheApartRow, standIns := [], harness := (true, "8d637bdf8523e4e8452304c3152d2e0ca20f23291fcd391271da83924ea89970"), looks := true }, kinds := [], alts := [], laidByText := true, laidKinds := [.data], laidTests := true, laidLooks := .later }
def CacheApartCardSaid : Prop := Claim7.holds Tryz.pinned (.plain (OpenSpec.ofChange cacheApartSpec)) cacheApartCard

/-- THE TIED CARD OF 'mallowlaw20.CacheTiny'. -/
def cacheTinyCard : Claim7 := { stood := { row := cacheTinyRow, standIns := [], harness := (true, "8d637bdf8523e4e8452304c3152d2e0ca20f23291fcd391271da83924ea89970"), looks := true }, kinds := [], alts := [], laidByText := true, laidKinds := [.data], laidTests := true, laidLooks := .later }
def CacheTinyCardSaid : Prop := Claim7.holds Tryz.pinned (.plain (OpenSpec.ofChange cacheTinySpec)) cacheTinyCard

/-- THE TIED CARD OF 'mallowlaw20.CacheRefused'. -/
def cacheRefusedCard : Claim7 := { stood := { row := cacheRefusedRow, standIns := [], harness := (true, "8d637bdf8523e4e8452304c3152d2e0ca20f23291fcd391271da83924ea89970"), looks := true }, kinds := [], alts := [], laidByText := true, laidKinds := [.data], laidTests := true, laidLooks := .later }
def CacheRefusedCardSaid : Prop := Claim7.holds Tryz.pinned (.plain (OpenSpec.ofChange cacheRefusedSpec)) cacheRefusedCard

/-- THE TIED CARD OF 'mallowlaw20.CacheFills'. -/
def cacheFillsCard : Claim7 := { stood := { row := cacheFillsRow, standIns := [], harness := (true, "8d637bdf8523e4e8452304c3152d2e0ca20f23291fcd391271da83924ea89970"), looks := true }, kinds := [], alts := [], laidByText := true, laidKinds := [.data], laidTests := true, laidLooks := .later }
def CacheFillsCardSaid : Prop := Claim7.holds Tryz.pinned (.plain (OpenSpec.ofChange cacheFillsSpec)) cacheFillsCard

/-- THE SECOND FORM's CARD OF 'mallowlaw19.CentralRoom'. -/
def centralRoomUptoCard : Claim7 := { stood := { row := centralRoomUptoRow, standIns := [], harness := (true, "8d637bdf8523e4e8452304c3152d2e0ca20f23291fcd391271da83924ea89970"), looks := true }, kinds := [], alts := [], laidByText := true, laidKinds := [.data], laidTests := true, laidLooks := .later }
def CentralRoomUptoCardSaid : Prop := Claim7.holds Tryz.pinned (.plain (OpenSpec.upto centralRoomSpec)) centralRoomUptoCard

/-- THE SECOND FORM's CARD OF 'mallowlaw19.CentralSweeps'. -/
def centralSweepsUptoCard : Claim7 := { stood := { row := centralSweepsUptoRow, standIns := [], harness := (true, "8d637bdf8523e4e8452304c3152d2e0ca20f23291fcd391271da83924ea89970"), looks := true }, kinds := [], alts := [], laidByText := true, laidKinds := [.data], laidTests := true, laidLooks := .later }
def CentralSweepsUptoCardSaid : Prop := Claim7.holds Tryz.pinned (.plain (OpenSpec.upto centralSweepsSpec)) centralSweepsUptoCard

/-- THE SECOND FORM's CARD OF 'mallowlaw20.CacheApart'. -/
def cacheApartUptoCard : Claim7 := { stood := { row := cacheApartUptoRow, standIns := [], harness := (true, "8d637bdf8523e4e8452304c3152d2e0ca20f23291fcd391271da83924ea89970"), looks := true }, kinds := [], alts := [], laidByText := true, laidKinds := [.data], laidTests := true, laidLooks := .later }
def CacheApartUptoCardSaid : Prop := Claim7.holds Tryz.pinned (.plain (OpenSpec.upto cacheApartSpec)) cacheApartUptoCard

/-- THE SECOND FORM's CARD OF 'mallowlaw20.CacheTiny'. -/
def cacheTinyUptoCard : Claim7 := { stood := { row := cacheTinyUptoRow, standIns := [], harness := (true, "8d637bdf8523e4e8452304c3152d2e0ca20f23291fcd391271da83924ea89970"), looks := true }, kinds := [], alts := [], laidByText := true, laidKinds := [.data], laidTests := true, laidLooks := .later }
def CacheTinyUptoCardSaid : Prop := Claim7.holds Tryz.pinned (.plain (OpenSpec.upto cacheTinySpec)) cacheTinyUptoCard

/-- THE SECOND FORM's CARD OF 'mallowlaw20.CacheRefused'. -/
def cacheRefusedUptoCard : Claim7 := { stood := { row := cacheRefusedUptoRow, standIns := [], harness := (true, "8d637bdf8523e4e8452304c3152d2e0ca20f23291fcd391271da83924ea89970"), looks := true }, kinds := [], alts := [], laidByText := true, laidKinds := [.data], laidTests := true, laidLooks := .later }
def CacheRefusedUptoCardSaid : Prop := Claim7.holds Tryz.pinned (.plain (OpenSpec.upto cacheRefusedSpec)) cacheRefusedUptoCard

/-- THE SECOND FORM's CARD OF 'mallowlaw20.CacheFills'. -/
def cacheFillsUptoCard : Claim7 := { stood := { row := cacheFillsUptoRow, standIns := [], harness := (true, "8d637bdf8523e4e8452304c3152d2e0ca20f23291fcd391271da83924ea89970"), looks := true }, kinds := [], alts := [], laidByText := true, laidKinds := [.data], laidTests := true, laidLooks := .later }
def CacheFillsUptoCardSaid : Prop := Claim7.holds Tryz.pinned (.plain (OpenSpec.upto cacheFillsSpec)) cacheFillsUptoCard
end Rows
end Go.Proofs.YtnkkjmcimhjnhaaGreatDoor
