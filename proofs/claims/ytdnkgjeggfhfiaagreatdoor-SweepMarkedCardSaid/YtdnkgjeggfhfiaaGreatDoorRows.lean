/-
  NARROWER THAN 'FOR EVERY INPUT', by the rows' own cells (each row's printed sentence says how): SweepKeeps: laid · SweepMarked: laid · SweepZombie: laid · SweepLarge: laid · SweepCredit: laid · SweepOrder: laid.
  DERIVED. THE GIVEN ROWS OF THIS SEAT. 6 by the template 'for every input the law returns true; each argument reads behind the call as it read before'; 0 by the template 'total and deterministic' (their statements: YtdnkgjeggfhfiaaGreatDoorTotals.lean).
  GIVEN WITH THE SEED: the statements are not yours to turn. If you find one false, say at which input.
  Laid BY PROGRAM, IN A SANDBOX (cutbox-rows.mjs): the forced cells as the released guide's own fill.sh prints them over the translation d5f986c245afa7ce… (all of the seat's roots in one cut). By AI agents, Wed Nov 11 2026. No macro, syntax, notation, axiom, sorry.
-/
import Derived.Test.YtdnkgjeggfhfiaaGreatDoorChecked
import GoSem.Claim
import GoSem.ClaimJoined
import GoSem.ClaimMapViews
import Derived.JoinedTies
import Derived.KernelRfl
namespace Go.Proofs.YtdnkgjeggfhfiaaGreatDoor
/- THE CELL 'sum', in the pinned program and in every row, IS THE sha256 OF THE DUMP (.gsa) THAT YtdnkgjeggfhfiaaGreatDoorProg.lean LOADS. Nothing in Lean hashes anything: it is a label: what it is worth is what the hold of that sum in a sandbox is worth. -/
noncomputable def Tryz.pinned : Pinned := { name := "ytdnkgjeggfhfiaagreatdoor", sum := "d5f986c245afa7ce3f583b736d03351188b8351facb2e708bb58da9f23f6013b", checked := Tryz.checked }
namespace Rows
def none {H : Type} : Left H := { results := [], args := [] }

/- WHAT THE LISTED PACKAGE-LEVEL VARIABLES READ AS WHEN THE CALL BEGINS. Each datum BY PROGRAM (the guide's laid-datum.mjs) off the statement by which the dump's own 'gosem.cut.vars' lays the variable. In a bare row this is a premise. The card (YtdnkgjeggfhfiaaGreatDoorCards.lean) ties it to the program's text. -/
def laid_math_bits_deBruijn64tab {H : Type} : DataW H := .agg [.lit (.int .u8 0), .lit (.int .u8 1), .lit (.int .u8 56), .lit (.int .u8 2), .lit (.int .u8 57), .lit (.int .u8 49), .lit (.int .u8 28), .lit (.int .u8 3), .lit (.int .u8 61), .lit (.int .u8 58), .lit (.int .u8 42), .lit (.int .u8 50), .lit (.int .u8 38), .lit (.int .u8 29), .lit (.int .u8 17), .lit (.int .u8 4), .lit (.int .u8 62), .lit (.int .u8 47), .lit (.int .u8 59), .lit (.int .u8 36), .lit (.int .u8 45), .lit (.int .u8 43), .lit (.int .u8 51), .lit (.int .u8 22), .lit (.int .u8 53), .lit (.int .u8 39), .lit (.int .u8 33), .lit (.int .u8 30), .lit (.int .u8 24), .lit (.int .u8 18), .lit (.int .u8 12), .lit (.int .u8 5), .lit (.int .u8 63), .lit (.int .u8 55), .lit (.int .u8 48), .lit (.int .u8 27), .lit (.int .u8 60), .lit (.int .u8 41), .lit (.int .u8 37), .lit (.int .u8 16), .lit (.int .u8 46), .lit (.int .u8 35), .lit (.int .u8 44), .lit (.int .u8 21), .lit (.int .u8 52), .lit (.int .u8 32), .lit (.int .u8 23), .lit (.int .u8 11), .lit (.int .u8 54), .lit (.int .u8 26), .lit (.int .u8 40), .lit (.int .u8 15), .lit (.int .u8 34), .lit (.int .u8 20), .lit (.int .u8 31), .lit (.int .u8 10), .lit (.int .u8 25), .lit (.int .u8 14), .lit (.int .u8 19), .lit (.int .u8 9), .lit (.int .u8 13), .lit (.int .u8 8), .lit (.int .u8 7), .lit (.int .u8 6)]

/-- 'mallowlaw18.SweepKeeps': WHATEVER THE INPUT: true; the input reads as it did. -/
def sweepKeepsSpec : ChangeSpec := { name := "sweepKeeps", fn := fun _ => fun
  | [d1, d2, d3] => { results := [.lit (.bool true)], args := [d1, d2, d3] }
  | _ => none }
def sweepKeepsRow : OpenClaim := { program := "ytdnkgjeggfhfiaagreatdoor", sum := "d5f986c245afa7ce3f583b736d03351188b8351facb2e708bb58da9f23f6013b", func := "mallow/mallowlaw18.SweepKeeps", spec := "sweepKeeps", unfollowed := true, recurses := true, named := ["math/bits.deBruijn64tab"], plainKeys := false, apart := false, laid := [("math/bits.deBruijn64tab", laid_math_bits_deBruijn64tab)] }
def SweepKeepsSaid : Prop := sweepKeepsRow.holds Tryz.pinned (OpenSpec.ofChange sweepKeepsSpec)

/-- ITS FALSE NEIGHBOUR: 'it returns false'. Refute it at one input. -/
def sweepKeepsWrong : ChangeSpec := { name := "sweepKeeps", fn := fun _ => fun
  | [d1, d2, d3] => { results := [.lit (.bool false)], args := [d1, d2, d3] }
  | _ => none }
def SweepKeepsWrongFalsely : Prop := sweepKeepsRow.holds Tryz.pinned (OpenSpec.ofChange sweepKeepsWrong)

/-- 'mallowlaw18.SweepMarked': WHATEVER THE INPUT: true; the input reads as it did. -/
def sweepMarkedSpec : ChangeSpec := { name := "sweepMarked", fn := fun _ => fun
  | [d1, d2, d3, d4, d5] => { results := [.lit (.bool true)], args := [d1, d2, d3, d4, d5] }
  | _ => none }
def sweepMarkedRow : OpenClaim := { program := "ytdnkgjeggfhfiaagreatdoor", sum := "d5f986c245afa7ce3f583b736d03351188b8351facb2e708bb58da9f23f6013b", func := "mallow/mallowlaw18.SweepMarked", spec := "sweepMarked", unfollowed := true, recurses := true, named := ["math/bits.deBruijn64tab"], plainKeys := false, apart := false, laid := [("math/bits.deBruijn64tab", laid_math_bits_deBruijn64tab)] }
def SweepMarkedSaid : Prop := sweepMarkedRow.holds Tryz.pinned (OpenSpec.ofChange sweepMarkedSpec)

/-- ITS FALSE NEIGHBOUR: 'it returns false'. Refute it at one input. -/
def sweepMarkedWrong : ChangeSpec := { name := "sweepMarked", fn := fun _ => fun
  | [d1, d2, d3, d4, d5] => { results := [.lit (.bool false)], args := [d1, d2, d3, d4, d5] }
  | _ => none }
def SweepMarkedWrongFalsely : Prop := sweepMarkedRow.holds Tryz.pinned (OpenSpec.ofChange sweepMarkedWrong)

/-- 'mallowlaw18.SweepZombie': WHATEVER THE INPUT: true; the input reads as it did. -/
def sweepZombieSpec : ChangeSpec := { name := "sweepZombie", fn := fun _ => fun
  | [d1, d2, d3, d4] => { results := [.lit (.bool true)], args := [d1, d2, d3, d4] }
  | _ => none }
def sweepZombieRow : OpenClaim := { program := "ytdnkgjeggfhfiaagreatdoor", sum := "d5f986c245afa7ce3f583b736d03351188b8351facb2e708bb58da9f23f6013b", func := "mallow/mallowlaw18.SweepZombie", spec := "sweepZombie", unfollowed := true, recurses := true, named := ["math/bits.deBruijn64tab"], plainKeys := false, apart := false, laid := [("math/bits.deBruijn64tab", laid_math_bits_deBruijn64tab)] }
def SweepZombieSaid : Prop := sweepZombieRow.holds Tryz.pinned (OpenSpec.ofChange sweepZombieSpec)

/-- ITS FALSE NEIGHBOUR: 'it returns false'. Refute it at one input. -/
def sweepZombieWrong : ChangeSpec := { name := "sweepZombie", fn := fun _ => fun
  | [d1, d2, d3, d4] => { results := [.lit (.bool false)], args := [d1, d2, d3, d4] }
  | _ => none }
def SweepZombieWrongFalsely : Prop := sweepZombieRow.holds Tryz.pinned (OpenSpec.ofChange sweepZombieWrong)

/-- 'mallowlaw18.SweepLarge': WHATEVER THE INPUT: true; the input reads as it did. -/
def sweepLargeSpec : ChangeSpec := { name := "sweepLarge", fn := fun _ => fun
  | [d1, d2, d3] => { results := [.lit (.bool true)], args := [d1, d2, d3] }
  | _ => none }
def sweepLargeRow : OpenClaim := { program := "ytdnkgjeggfhfiaagreatdoor", sum := "d5f986c245afa7ce3f583b736d03351188b8351facb2e708bb58da9f23f6013b", func := "mallow/mallowlaw18.SweepLarge", spec := "sweepLarge", unfollowed := true, recurses := true, named := ["math/bits.deBruijn64tab"], plainKeys := false, apart := false, laid := [("math/bits.deBruijn64tab", laid_math_bits_deBruijn64tab)] }
def SweepLargeSaid : Prop := sweepLargeRow.holds Tryz.pinned (OpenSpec.ofChange sweepLargeSpec)

/-- ITS FALSE NEIGHBOUR: 'it returns false'. Refute it at one input. -/
def sweepLargeWrong : ChangeSpec := { name := "sweepLarge", fn := fun _ => fun
  | [d1, d2, d3] => { results := [.lit (.bool false)], args := [d1, d2, d3] }
  | _ => none }
def SweepLargeWrongFalsely : Prop := sweepLargeRow.holds Tryz.pinned (OpenSpec.ofChange sweepLargeWrong)

/-- 'mallowlaw18.SweepCredit': WHATEVER THE INPUT: true; the input reads as it did. -/
def sweepCreditSpec : ChangeSpec := { name := "sweepCredit", fn := fun _ => fun
  | [d1, d2, d3] => { results := [.lit (.bool true)], args := [d1, d2, d3] }
  | _ => none }
def sweepCreditRow : OpenClaim := { program := "ytdnkgjeggfhfiaagreatdoor", sum := "d5f986c245afa7ce3f583b736d03351188b8351facb2e708bb58da9f23f6013b", func := "mallow/mallowlaw18.SweepCredit", spec := "sweepCredit", inPlace := ["math/bits.Add64", "math.Float64frombits"], unfollowed := true, recurses := true, named := ["math/bits.deBruijn64tab"], plainKeys := false, apart := false, laid := [("math/bits.deBruijn64tab", laid_math_bits_deBruijn64tab)] }
def SweepCreditSaid : Prop := sweepCreditRow.holds Tryz.pinned (OpenSpec.ofChange sweepCreditSpec)

/-- ITS FALSE NEIGHBOUR: 'it returns false'. Refute it at one input. -/
def sweepCreditWrong : ChangeSpec := { name := "sweepCredit", fn := fun _ => fun
  | [d1, d2, d3] => { results := [.lit (.bool false)], args := [d1, d2, d3] }
  | _ => none }
def SweepCreditWrongFalsely : Prop := sweepCreditRow.holds Tryz.pinned (OpenSpec.ofChange sweepCreditWrong)

/-- 'mallowlaw18.SweepOrder': WHATEVER THE INPUT: true; the input reads as it did. -/
def sweepOrderSpec : ChangeSpec := { name := "sweepOrder", fn := fun _ => fun
  | [d1, d2] => { results := [.lit (.bool true)], args := [d1, d2] }
  | _ => none }
def sweepOrderRow : OpenClaim := { program := "ytdnkgjeggfhfiaagreatdoor", sum := "d5f986c245afa7ce3f583b736d03351188b8351facb2e708bb58da9f23f6013b", func := "mallow/mallowlaw18.SweepOrder", spec := "sweepOrder", unfollowed := true, recurses := true, named := ["math/bits.deBruijn64tab"], plainKeys := false, apart := false, laid := [("math/bits.deBruijn64tab", laid_math_bits_deBruijn64tab)] }
def SweepOrderSaid : Prop := sweepOrderRow.holds Tryz.pinned (OpenSpec.ofChange sweepOrderSpec)

/-- ITS FALSE NEIGHBOUR: 'it returns false'. Refute it at one input. -/
def sweepOrderWrong : ChangeSpec := { name := "sweepOrder", fn := fun _ => fun
  | [d1, d2] => { results := [.lit (.bool false)], args := [d1, d2] }
  | _ => none }
def SweepOrderWrongFalsely : Prop := sweepOrderRow.holds Tryz.pinned (OpenSpec.ofChange sweepOrderWrong)

/- THE SECOND FORM. 'bulk': how many values and letters a reading holds, each counted each time it is reached (what is shared counts as often as it is met; a slice's spare places count too). A statement '..UptoSaid' is the law's where the arguments, and the package variables that the reading takes, are together of bulk at most 1048576: NARROWER than '..Said'. Prove '..Said' where nothing that the law and all that it calls make is longer than what came in: it says more and counts as full. Else prove '..UptoSaid'. A law counts once. -/
mutual
def uptoBulk {H : Type} : DataW H → Nat
  | .lit (.string bytes) => bytes.length + 1
  | .lit _ => 1
  | .nil => 1
  | .ptr d => uptoBulk d + 1
  | .slice elems spare => uptoBulkAll elems + uptoBulkAll spare + 1
  | .agg parts => uptoBulkAll parts + 1
  | .iface _ d => uptoBulk d + 1
  | .map entries => uptoBulkEntries entries + 1
  | .held _ => 1
def uptoBulkAll {H : Type} : List (DataW H) → Nat
  | [] => 0
  | d :: r => uptoBulk d + uptoBulkAll r
def uptoBulkEntries {H : Type} : List (Lit × DataW H) → Nat
  | [] => 0
  | x :: r => uptoBulkEntry x + uptoBulkEntries r
def uptoBulkEntry {H : Type} : Lit × DataW H → Nat
  | (.string bytes, d) => bytes.length + uptoBulk d + 1
  | (_, d) => uptoBulk d + 1
 end
def uptoSmall : (H : Type) → List (DataW H) → Bool := fun _ ds => decide (uptoBulkAll ds ≤ 1048576)
def OpenSpec.upto (s : _root_.Go.ChangeSpec) : _root_.Go.OpenSpec := { _root_.Go.OpenSpec.ofChange s with cond := some uptoSmall }

/-- 'mallowlaw18.SweepKeeps', WHERE WHAT IT READS IS OF BULK AT MOST 1048576: true; the input reads as it did. -/
def sweepKeepsUptoRow : OpenClaim := { program := "ytdnkgjeggfhfiaagreatdoor", sum := "d5f986c245afa7ce3f583b736d03351188b8351facb2e708bb58da9f23f6013b", func := "mallow/mallowlaw18.SweepKeeps", spec := "sweepKeeps", unfollowed := true, recurses := true, named := ["math/bits.deBruijn64tab"], plainKeys := false, apart := false, laid := [("math/bits.deBruijn64tab", laid_math_bits_deBruijn64tab)], narrowed := true }
def SweepKeepsUptoSaid : Prop := sweepKeepsUptoRow.holds Tryz.pinned (OpenSpec.upto sweepKeepsSpec)

/-- 'mallowlaw18.SweepMarked', WHERE WHAT IT READS IS OF BULK AT MOST 1048576: true; the input reads as it did. -/
def sweepMarkedUptoRow : OpenClaim := { program := "ytdnkgjeggfhfiaagreatdoor", sum := "d5f986c245afa7ce3f583b736d03351188b8351facb2e708bb58da9f23f6013b", func := "mallow/mallowlaw18.SweepMarked", spec := "sweepMarked", unfollowed := true, recurses := true, named := ["math/bits.deBruijn64tab"], plainKeys := false, apart := false, laid := [("math/bits.deBruijn64tab", laid_math_bits_deBruijn64tab)], narrowed := true }
def SweepMarkedUptoSaid : Prop := sweepMarkedUptoRow.holds Tryz.pinned (OpenSpec.upto sweepMarkedSpec)

/-- 'mallowlaw18.SweepZombie', WHERE WHAT IT READS IS OF BULK AT MOST 1048576: true; the input reads as it did. -/
def sweepZombieUptoRow : OpenClaim := { program := "ytdnkgjeggfhfiaagreatdoor", sum := "d5f986c245afa7ce3f583b736d03351188b8351facb2e708bb58da9f23f6013b", func := "mallow/mallowlaw18.SweepZombie", spec := "sweepZombie", unfollowed := true, recurses := true, named := ["math/bits.deBruijn64tab"], plainKeys := false, apart := false, laid := [("math/bits.deBruijn64tab", laid_math_bits_deBruijn64tab)], narrowed := true }
def SweepZombieUptoSaid : Prop := sweepZombieUptoRow.holds Tryz.pinned (OpenSpec.upto sweepZombieSpec)

/-- 'mallowlaw18.SweepLarge', WHERE WHAT IT READS IS OF BULK AT MOST 1048576: true; the input reads as it did. -/
def sweepLargeUptoRow : OpenClaim := { program := "ytdnkgjeggfhfiaagreatdoor", sum := "d5f986c245afa7ce3f583b736d03351188b8351facb2e708bb58da9f23f6013b", func := "mallow/mallowlaw18.SweepLarge", spec := "sweepLarge", unfollowed := true, recurses := true, named := ["math/bits.deBruijn64tab"], plainKeys := false, apart := false, laid := [("math/bits.deBruijn64tab", laid_math_bits_deBruijn64tab)], narrowed := true }
def SweepLargeUptoSaid : Prop := sweepLargeUptoRow.holds Tryz.pinned (OpenSpec.upto sweepLargeSpec)

/-- 'mallowlaw18.SweepCredit', WHERE WHAT IT READS IS OF BULK AT MOST 1048576: true; the input reads as it did. -/
def sweepCreditUptoRow : OpenClaim := { program := "ytdnkgjeggfhfiaagreatdoor", sum := "d5f986c245afa7ce3f583b736d03351188b8351facb2e708bb58da9f23f6013b", func := "mallow/mallowlaw18.SweepCredit", spec := "sweepCredit", inPlace := ["math/bits.Add64", "math.Float64frombits"], unfollowed := true, recurses := true, named := ["math/bits.deBruijn64tab"], plainKeys := false, apart := false, laid := [("math/bits.deBruijn64tab", laid_math_bits_deBruijn64tab)], narrowed := true }
def SweepCreditUptoSaid : Prop := sweepCreditUptoRow.holds Tryz.pinned (OpenSpec.upto sweepCreditSpec)

/-- 'mallowlaw18.SweepOrder', WHERE WHAT IT READS IS OF BULK AT MOST 1048576: true; the input reads as it did. -/
def sweepOrderUptoRow : OpenClaim := { program := "ytdnkgjeggfhfiaagreatdoor", sum := "d5f986c245afa7ce3f583b736d03351188b8351facb2e708bb58da9f23f6013b", func := "mallow/mallowlaw18.SweepOrder", spec := "sweepOrder", unfollowed := true, recurses := true, named := ["math/bits.deBruijn64tab"], plainKeys := false, apart := false, laid := [("math/bits.deBruijn64tab", laid_math_bits_deBruijn64tab)], narrowed := true }
def SweepOrderUptoSaid : Prop := sweepOrderUptoRow.holds Tryz.pinned (OpenSpec.upto sweepOrderSpec)

end Rows
end Go.Proofs.YtdnkgjeggfhfiaaGreatDoor
