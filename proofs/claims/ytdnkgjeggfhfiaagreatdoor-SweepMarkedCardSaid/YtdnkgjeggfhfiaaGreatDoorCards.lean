/-
  DERIVED. GIVEN WITH THE SEED: THE CARDS: each row of YtdnkgjeggfhfiaaGreatDoorRows.lean that lists a variable, with what it lists TIED to the program's text (the seventh form; the later family's looks); each row that meets fmt, with fmt's text TOLD by the authors' own Lean function (tested against real Go, not proved from fmt's source: count such statements apart). THE CARD IS WHAT COUNTS. Prove the row's statement (the work); the ties are given (YtdnkgjeggfhfiaaGreatDoorTie.lean); close each card by the builder's one call (the guide's Derived/Test/ToyasCard.lean, 'card_holds'). Laid BY PROGRAM, IN A SANDBOX (cutbox-door.mjs). By AI agents, Wed Nov 11 2026. No macro, syntax, notation, axiom, sorry.
-/
import Derived.Test.YtdnkgjeggfhfiaaGreatDoorRows
import GoSem.ClaimSeven
namespace Go.Proofs.YtdnkgjeggfhfiaaGreatDoor
namespace Rows

/-- THE TIED CARD OF 'mallowlaw18.SweepKeeps'. -/
def sweepKeepsCard : Claim7 := { stood := { row := sweepKeepsRow, standIns := [], harness := (true, "5bcae3cf32446c01b31df25d26b31186c13919d93c8b204c8793e5d91c050328"), looks := true }, kinds := [], alts := [], laidByText := true, laidKinds := [.data], laidTests := true, laidLooks := .later }
def SweepKeepsCardSaid : Prop := Claim7.holds Tryz.pinned (.plain (OpenSpec.ofChange sweepKeepsSpec)) sweepKeepsCard

/-- THE TIED CARD OF 'mallowlaw18.SweepMarked'. -/
def sweepMarkedCard : Claim7 := { stood := { row := sweepMarkedRow, standIns := [], harness := (true, "5bcae3cf32446c01b31df25d26b31186c13919d93c8b204c8793e5d91c050328"), looks := true }, kinds := [], alts := [], laidByText := true, laidKinds := [.data], laidTests := true, laidLooks := .later }
def SweepMarkedCardSaid : Prop := Claim7.holds Tryz.pinned (.plain (OpenSpec.ofChange sweepMarkedSpec)) sweepMarkedCard

/-- THE TIED CARD OF 'mallowlaw18.SweepZombie'. -/
def sweepZombieCard : Claim7 := { stood := { row := sweepZombieRow, standIns := [], harness := (true, "5bcae3cf32446c01b31df25d26b31186c13919d93c8b204c8793e5d91c050328"), looks := true }, kinds := [], alts := [], laidByText := true, laidKinds := [.data], laidTests := true, laidLooks := .later }
def SweepZombieCardSaid : Prop := Claim7.holds Tryz.pinned (.plain (OpenSpec.ofChange sweepZombieSpec)) sweepZombieCard

/-- THE TIED CARD OF 'mallowlaw18.SweepLarge'. -/
def sweepLargeCard : Claim7 := { stood := { row := sweepLargeRow, standIns := [], harness := (true, "5bcae3cf32446c01b31df25d26b31186c13919d93c8b204c8793e5d91c050328"), looks := true }, kinds := [], alts := [], laidByText := true, laidKinds := [.data], laidTests := true, laidLooks := .later }
def SweepLargeCardSaid : Prop := Claim7.holds Tryz.pinned (.plain (OpenSpec.ofChange sweepLargeSpec)) sweepLargeCard

/-- THE TIED CARD OF 'mallowlaw18.SweepCredit'. -/
def sweepCreditCard : Claim7 := { stood := { row := sweepCreditRow, standIns := [], harness := (true, "5bcae3cf32446c01b31df25d26b31186c13919d93c8b204c8793e5d91c050328"), looks := true }, kinds := [], alts := [], laidByText := true, laidKinds := [.data], laidTests := true, laidLooks := .later }
def SweepCreditCardSaid : Prop := Claim7.holds Tryz.pinned (.plain (OpenSpec.ofChange sweepCreditSpec)) sweepCreditCard

/-- THE TIED CARD OF 'mallowlaw18.SweepOrder'. -/
def sweepOrderCard : Claim7 := { stood := { row := sweepOrderRow, standIns := [], harness := (true, "5bcae3cf32446c01b31df25d26b31186c13919d93c8b204c8793e5d91c050328"), looks := true }, kinds := [], alts := [], laidByText := true, laidKinds := [.data], laidTests := true, laidLooks := .later }
def SweepOrderCardSaid : Prop := Claim7.holds Tryz.pinned (.plain (OpenSpec.ofChange sweepOrderSpec)) sweepOrderCard

/-- THE SECOND FORM's CARD OF 'mallowlaw18.SweepKeeps'. -/
def sweepKeepsUptoCard : Claim7 := { stood := { row := sweepKeepsUptoRow, standIns := [], harness := (true, "5bcae3cf32446c01b31df25d26b31186c13919d93c8b204c8793e5d91c050328"), looks := true }, kinds := [], alts := [], laidByText := true, laidKinds := [.data], laidTests := true, laidLooks := .later }
def SweepKeepsUptoCardSaid : Prop := Claim7.holds Tryz.pinned (.plain (OpenSpec.upto sweepKeepsSpec)) sweepKeepsUptoCard

/-- THE SECOND FORM's CARD OF 'mallowlaw18.SweepMarked'. -/
def sweepMarkedUptoCard : Claim7 := { stood := { row := sweepMarkedUptoRow, standIns := [], harness := (true, "5bcae3cf32446c01b31df25d26b31186c13919d93c8b204c8793e5d91c050328"), looks := true }, kinds := [], alts := [], laidByText := true, laidKinds := [.data], laidTests := true, laidLooks := .later }
def SweepMarkedUptoCardSaid : Prop := Claim7.holds Tryz.pinned (.plain (OpenSpec.upto sweepMarkedSpec)) sweepMarkedUptoCard

/-- THE SECOND FORM's CARD OF 'mallowlaw18.SweepZombie'. -/
def sweepZombieUptoCard : Claim7 := { stood := { row := sweepZombieUptoRow, standIns := [], harness := (true, "5bcae3cf32446c01b31df25d26b31186c13919d93c8b204c8793e5d91c050328"), looks := true }, kinds := [], alts := [], laidByText := true, laidKinds := [.data], laidTests := true, laidLooks := .later }
def SweepZombieUptoCardSaid : Prop := Claim7.holds Tryz.pinned (.plain (OpenSpec.upto sweepZombieSpec)) sweepZombieUptoCard

/-- THE SECOND FORM's CARD OF 'mallowlaw18.SweepLarge'. -/
def sweepLargeUptoCard : Claim7 := { stood := { row := sweepLargeUptoRow, standIns := [], harness := (true, "5bcae3cf32446c01b31df25d26b31186c13919d93c8b204c8793e5d91c050328"), looks := true }, kinds := [], alts := [], laidByText := true, laidKinds := [.data], laidTests := true, laidLooks := .later }
def SweepLargeUptoCardSaid : Prop := Claim7.holds Tryz.pinned (.plain (OpenSpec.upto sweepLargeSpec)) sweepLargeUptoCard

/-- THE SECOND FORM's CARD OF 'mallowlaw18.SweepCredit'. -/
def sweepCreditUptoCard : Claim7 := { stood := { row := sweepCreditUptoRow, standIns := [], harness := (true, "5bcae3cf32446c01b31df25d26b31186c13919d93c8b204c8793e5d91c050328"), looks := true }, kinds := [], alts := [], laidByText := true, laidKinds := [.data], laidTests := true, laidLooks := .later }
def SweepCreditUptoCardSaid : Prop := Claim7.holds Tryz.pinned (.plain (OpenSpec.upto sweepCreditSpec)) sweepCreditUptoCard

/-- THE SECOND FORM's CARD OF 'mallowlaw18.SweepOrder'. -/
def sweepOrderUptoCard : Claim7 := { stood := { row := sweepOrderUptoRow, standIns := [], harness := (true, "5bcae3cf32446c01b31df25d26b31186c13919d93c8b204c8793e5d91c050328"), looks := true }, kinds := [], alts := [], laidByText := true, laidKinds := [.data], laidTests := true, laidLooks := .later }
def SweepOrderUptoCardSaid : Prop := Claim7.holds Tryz.pinned (.plain (OpenSpec.upto sweepOrderSpec)) sweepOrderUptoCard
end Rows
end Go.Proofs.YtdnkgjeggfhfiaaGreatDoor
