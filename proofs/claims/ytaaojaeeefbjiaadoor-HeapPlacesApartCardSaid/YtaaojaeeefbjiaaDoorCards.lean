/-
  DERIVED. GIVEN WITH THE SEED: THE CARDS: each row of YtaaojaeeefbjiaaDoorRows.lean that lists a variable, with what it lists TIED to the program's text (the seventh form; the later family's looks); each row that meets fmt, with fmt's text TOLD by the authors' own Lean function (tested against real Go, not proved from fmt's source: count such statements apart). THE CARD IS WHAT COUNTS. Prove the row's statement (the work); the ties are given (YtaaojaeeefbjiaaDoorTie.lean); close each card by the builder's one call (the guide's Derived/Test/ToyasCard.lean, 'card_holds'). Laid BY PROGRAM, IN A SANDBOX (cutbox-door.mjs). By AI agents, Wed Nov 11 2026. No macro, syntax, notation, axiom, sorry.
-/
import Derived.Test.YtaaojaeeefbjiaaDoorRows
import GoSem.ClaimSeven
namespace Go.Proofs.YtaaojaeeefbjiaaDoor
namespace Rows

/-- THE TIED CARD OF 'mallowlaw16.HeapPlacesApart'. -/
def heapPlacesApartCard : Claim7 := { stood := { row := heapPlacesApartRow, standIns := [], harness := (true, "d7be63ff3466e39aebe6663eb518f39c569e553e15c44648d3c87fd57e627cc2"), looks := true }, kinds := [], alts := [], laidByText := true, laidKinds := [.data], laidTests := true, laidLooks := .later }
def HeapPlacesApartCardSaid : Prop := Claim7.holds Tryd.pinned (.plain (OpenSpec.ofChange heapPlacesApartSpec)) heapPlacesApartCard

/-- THE TIED CARD OF 'mallowlaw16.HeapCached'. -/
def heapCachedCard : Claim7 := { stood := { row := heapCachedRow, standIns := [], harness := (true, "d7be63ff3466e39aebe6663eb518f39c569e553e15c44648d3c87fd57e627cc2"), looks := true }, kinds := [], alts := [], laidByText := true, laidKinds := [.data], laidTests := true, laidLooks := .later }
def HeapCachedCardSaid : Prop := Claim7.holds Tryd.pinned (.plain (OpenSpec.ofChange heapCachedSpec)) heapCachedCard

/-- THE TIED CARD OF 'mallowlaw16.HeapClasses'. -/
def heapClassesCard : Claim7 := { stood := { row := heapClassesRow, standIns := [], harness := (true, "d7be63ff3466e39aebe6663eb518f39c569e553e15c44648d3c87fd57e627cc2"), looks := true }, kinds := [], alts := [], laidByText := true, laidKinds := [.data], laidTests := true, laidLooks := .later }
def HeapClassesCardSaid : Prop := Claim7.holds Tryd.pinned (.plain (OpenSpec.ofChange heapClassesSpec)) heapClassesCard

/-- THE TIED CARD OF 'mallowlaw16.HeapGrows'. -/
def heapGrowsCard : Claim7 := { stood := { row := heapGrowsRow, standIns := [], harness := (true, "d7be63ff3466e39aebe6663eb518f39c569e553e15c44648d3c87fd57e627cc2"), looks := true }, kinds := [], alts := [], laidByText := true, laidKinds := [.data], laidTests := true, laidLooks := .later }
def HeapGrowsCardSaid : Prop := Claim7.holds Tryd.pinned (.plain (OpenSpec.ofChange heapGrowsSpec)) heapGrowsCard

/-- THE SECOND FORM's CARD OF 'mallowlaw16.HeapPlacesApart'. -/
def heapPlacesApartUptoCard : Claim7 := { stood := { row := heapPlacesApartUptoRow, standIns := [], harness := (true, "d7be63ff3466e39aebe6663eb518f39c569e553e15c44648d3c87fd57e627cc2"), looks := true }, kinds := [], alts := [], laidByText := true, laidKinds := [.data], laidTests := true, laidLooks := .later }
def HeapPlacesApartUptoCardSaid : Prop := Claim7.holds Tryd.pinned (.plain (OpenSpec.upto heapPlacesApartSpec)) heapPlacesApartUptoCard

/-- THE SECOND FORM's CARD OF 'mallowlaw16.HeapCached'. -/
def heapCachedUptoCard : Claim7 := { stood := { row := heapCachedUptoRow, standIns := [], harness := (true, "d7be63ff3466e39aebe6663eb518f39c569e553e15c44648d3c87fd57e627cc2"), looks := true }, kinds := [], alts := [], laidByText := true, laidKinds := [.data], laidTests := true, laidLooks := .later }
def HeapCachedUptoCardSaid : Prop := Claim7.holds Tryd.pinned (.plain (OpenSpec.upto heapCachedSpec)) heapCachedUptoCard

/-- THE SECOND FORM's CARD OF 'mallowlaw16.HeapClasses'. -/
def heapClassesUptoCard : Claim7 := { stood := { row := heapClassesUptoRow, standIns := [], harness := (true, "d7be63ff3466e39aebe6663eb518f39c569e553e15c44648d3c87fd57e627cc2"), looks := true }, kinds := [], alts := [], laidByText := true, laidKinds := [.data], laidTests := true, laidLooks := .later }
def HeapClassesUptoCardSaid : Prop := Claim7.holds Tryd.pinned (.plain (OpenSpec.upto heapClassesSpec)) heapClassesUptoCard

/-- THE SECOND FORM's CARD OF 'mallowlaw16.HeapGrows'. -/
def heapGrowsUptoCard : Claim7 := { stood := { row := heapGrowsUptoRow, standIns := [], harness := (true, "d7be63ff3466e39aebe6663eb518f39c569e553e15c44648d3c87fd57e627cc2"), looks := true }, kinds := [], alts := [], laidByText := true, laidKinds := [.data], laidTests := true, laidLooks := .later }
def HeapGrowsUptoCardSaid : Prop := Claim7.holds Tryd.pinned (.plain (OpenSpec.upto heapGrowsSpec)) heapGrowsUptoCard
end Rows
end Go.Proofs.YtaaojaeeefbjiaaDoor
