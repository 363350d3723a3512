/-
  DERIVED. GIVEN WITH THE SEED: THE CARDS: each row of YtnkphenomejbfaaDoorRows.lean that lists a variable, with what it lists TIED to the program's text (the seventh form; the later family's looks); each row that meets fmt, with fmt's text TOLD by the authors' own Lean function (tested against real Go, not proved from fmt's source: count such statements apart). THE CARD IS WHAT COUNTS. Prove the row's statement (the work); the ties are given (YtnkphenomejbfaaDoorTie.lean); close each card by the builder's one call (the guide's Derived/Test/ToyasCard.lean, 'card_holds'). Laid BY PROGRAM, IN A SANDBOX (cutbox-door.mjs). By AI agents, Wed Nov 11 2026. No macro, syntax, notation, axiom, sorry.
-/
import Derived.Test.YtnkphenomejbfaaDoorRows
import GoSem.ClaimSeven
namespace Go.Proofs.YtnkphenomejbfaaDoor
namespace Rows

/-- THE TIED CARD OF 'mallowlaw22.ScavRates'. -/
def scavRatesCard : Claim7 := { stood := { row := scavRatesRow, standIns := [], harness := (true, "e69c53c374bb2d3ea489c2176d6915ea47b50f076951fbe3793f229a50e1539b"), looks := true }, kinds := [], alts := [], laidByText := true, laidKinds := [.data], laidTests := true, laidLooks := .later }
def ScavRatesCardSaid : Prop := Claim7.holds Tryd.pinned (.plain (OpenSpec.ofChange scavRatesSpec)) scavRatesCard

/-- THE TIED CARD OF 'mallowlaw22.ScavHighest'. -/
def scavHighestCard : Claim7 := { stood := { row := scavHighestRow, standIns := [], harness := (true, "e69c53c374bb2d3ea489c2176d6915ea47b50f076951fbe3793f229a50e1539b"), looks := true }, kinds := [], alts := [], laidByText := true, laidKinds := [.data], laidTests := true, laidLooks := .later }
def ScavHighestCardSaid : Prop := Claim7.holds Tryd.pinned (.plain (OpenSpec.ofChange scavHighestSpec)) scavHighestCard

/-- THE TIED CARD OF 'mallowlaw22.ScavKeeps'. -/
def scavKeepsCard : Claim7 := { stood := { row := scavKeepsRow, standIns := [], harness := (true, "e69c53c374bb2d3ea489c2176d6915ea47b50f076951fbe3793f229a50e1539b"), looks := true }, kinds := [], alts := [], laidByText := true, laidKinds := [.data], laidTests := true, laidLooks := .later }
def ScavKeepsCardSaid : Prop := Claim7.holds Tryd.pinned (.plain (OpenSpec.ofChange scavKeepsSpec)) scavKeepsCard

/-- THE SECOND FORM's CARD OF 'mallowlaw22.ScavRates'. -/
def scavRatesUptoCard : Claim7 := { stood := { row := scavRatesUptoRow, standIns := [], harness := (true, "e69c53c374bb2d3ea489c2176d6915ea47b50f076951fbe3793f229a50e1539b"), looks := true }, kinds := [], alts := [], laidByText := true, laidKinds := [.data], laidTests := true, laidLooks := .later }
def ScavRatesUptoCardSaid : Prop := Claim7.holds Tryd.pinned (.plain (OpenSpec.upto scavRatesSpec)) scavRatesUptoCard

/-- THE SECOND FORM's CARD OF 'mallowlaw22.ScavHighest'. -/
def scavHighestUptoCard : Claim7 := { stood := { row := scavHighestUptoRow, standIns := [], harness := (true, "e69c53c374bb2d3ea489c2176d6915ea47b50f076951fbe3793f229a50e1539b"), looks := true }, kinds := [], alts := [], laidByText := true, laidKinds := [.data], laidTests := true, laidLooks := .later }
def ScavHighestUptoCardSaid : Prop := Claim7.holds Tryd.pinned (.plain (OpenSpec.upto scavHighestSpec)) scavHighestUptoCard

/-- THE SECOND FORM's CARD OF 'mallowlaw22.ScavKeeps'. -/
def scavKeepsUptoCard : Claim7 := { stood := { row := scavKeepsUptoRow, standIns := [], harness := (true, "e69c53c374bb2d3ea489c2176d6915ea47b50f076951fbe3793f229a50e1539b"), looks := true }, kinds := [], alts := [], laidByText := true, laidKinds := [.data], laidTests := true, laidLooks := .later }
def ScavKeepsUptoCardSaid : Prop := Claim7.holds Tryd.pinned (.plain (OpenSpec.upto scavKeepsSpec)) scavKeepsUptoCard
end Rows
end Go.Proofs.YtnkphenomejbfaaDoor
