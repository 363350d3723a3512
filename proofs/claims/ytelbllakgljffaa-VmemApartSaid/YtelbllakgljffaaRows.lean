/-
  No cell of these rows narrows 'for every input' (looked for: loops, veiled, ifaces, maps, wideKeys, modest, calm, conditions, laid).
  DERIVED. THE GIVEN ROWS OF THIS SEAT. 8 by the template 'for every input the law returns true; each argument reads behind the call as it read before'; 0 by the template 'total and deterministic' (their statements: YtelbllakgljffaaTotals.lean).
  GIVEN WITH THE SEED: the statements are not yours to turn. If you find one false, say at which input.
  Laid BY PROGRAM, IN A SANDBOX (cutbox-rows.mjs): the forced cells as the released guide's own fill.sh prints them over the translation ccb64add49953048… (all of the seat's roots in one cut). By AI agents, Wed Nov 11 2026. No macro, syntax, notation, axiom, sorry.
-/
import Derived.Test.YtelbllakgljffaaChecked
import GoSem.Claim
import GoSem.ClaimJoined
import GoSem.ClaimMapViews
import Derived.JoinedTies
import Derived.KernelRfl
namespace Go.Proofs.Ytelbllakgljffaa
/- THE CELL 'sum', in the pinned program and in every row, IS THE sha256 OF THE DUMP (.gsa) THAT YtelbllakgljffaaProg.lean LOADS. Nothing in Lean hashes anything: it is a label: what it is worth is what the hold of that sum in a sandbox is worth. -/
noncomputable def Try.pinned : Pinned := { name := "ytelbllakgljffaa", sum := "ccb64add49953048dfc30d240624b130e3a623ca5357f2526d232dda804938d8", checked := Try.checked }
namespace Rows
def none {H : Type} : Left H := { results := [], args := [] }

/-- 'mallowlaw3.VmemFills': WHATEVER THE INPUT: true; the input reads as it did. -/
def vmemFillsSpec : ChangeSpec := { name := "vmemFills", fn := fun _ => fun
  | [d1, d2, d3] => { results := [.lit (.bool true)], args := [d1, d2, d3] }
  | _ => none }
def vmemFillsRow : OpenClaim := { program := "ytelbllakgljffaa", sum := "ccb64add49953048dfc30d240624b130e3a623ca5357f2526d232dda804938d8", func := "mallow/mallowlaw3.VmemFills", spec := "vmemFills", unfollowed := true, recurses := true, apart := false }
def VmemFillsSaid : Prop := vmemFillsRow.holds Try.pinned (OpenSpec.ofChange vmemFillsSpec)

/-- ITS FALSE NEIGHBOUR: 'it returns false'. Refute it at one input. -/
def vmemFillsWrong : ChangeSpec := { name := "vmemFills", fn := fun _ => fun
  | [d1, d2, d3] => { results := [.lit (.bool false)], args := [d1, d2, d3] }
  | _ => none }
def VmemFillsWrongFalsely : Prop := vmemFillsRow.holds Try.pinned (OpenSpec.ofChange vmemFillsWrong)

/-- 'mallowlaw3.VmemKeeps': WHATEVER THE INPUT: true; the input reads as it did. -/
def vmemKeepsSpec : ChangeSpec := { name := "vmemKeeps", fn := fun _ => fun
  | [d1, d2, d3] => { results := [.lit (.bool true)], args := [d1, d2, d3] }
  | _ => none }
def vmemKeepsRow : OpenClaim := { program := "ytelbllakgljffaa", sum := "ccb64add49953048dfc30d240624b130e3a623ca5357f2526d232dda804938d8", func := "mallow/mallowlaw3.VmemKeeps", spec := "vmemKeeps", unfollowed := true, recurses := true, apart := false }
def VmemKeepsSaid : Prop := vmemKeepsRow.holds Try.pinned (OpenSpec.ofChange vmemKeepsSpec)

/-- ITS FALSE NEIGHBOUR: 'it returns false'. Refute it at one input. -/
def vmemKeepsWrong : ChangeSpec := { name := "vmemKeeps", fn := fun _ => fun
  | [d1, d2, d3] => { results := [.lit (.bool false)], args := [d1, d2, d3] }
  | _ => none }
def VmemKeepsWrongFalsely : Prop := vmemKeepsRow.holds Try.pinned (OpenSpec.ofChange vmemKeepsWrong)

/-- 'mallowlaw3.VmemRefused': WHATEVER THE INPUT: true; the input reads as it did. -/
def vmemRefusedSpec : ChangeSpec := { name := "vmemRefused", fn := fun _ => fun
  | [d1, d2] => { results := [.lit (.bool true)], args := [d1, d2] }
  | _ => none }
def vmemRefusedRow : OpenClaim := { program := "ytelbllakgljffaa", sum := "ccb64add49953048dfc30d240624b130e3a623ca5357f2526d232dda804938d8", func := "mallow/mallowlaw3.VmemRefused", spec := "vmemRefused", unfollowed := true, recurses := true, apart := false }
def VmemRefusedSaid : Prop := vmemRefusedRow.holds Try.pinned (OpenSpec.ofChange vmemRefusedSpec)

/-- ITS FALSE NEIGHBOUR: 'it returns false'. Refute it at one input. -/
def vmemRefusedWrong : ChangeSpec := { name := "vmemRefused", fn := fun _ => fun
  | [d1, d2] => { results := [.lit (.bool false)], args := [d1, d2] }
  | _ => none }
def VmemRefusedWrongFalsely : Prop := vmemRefusedRow.holds Try.pinned (OpenSpec.ofChange vmemRefusedWrong)

/-- 'mallowlaw3.VmemPlaces': WHATEVER THE INPUT: true; the input reads as it did. -/
def vmemPlacesSpec : ChangeSpec := { name := "vmemPlaces", fn := fun _ => fun
  | [d1, d2] => { results := [.lit (.bool true)], args := [d1, d2] }
  | _ => none }
def vmemPlacesRow : OpenClaim := { program := "ytelbllakgljffaa", sum := "ccb64add49953048dfc30d240624b130e3a623ca5357f2526d232dda804938d8", func := "mallow/mallowlaw3.VmemPlaces", spec := "vmemPlaces", unfollowed := true, recurses := true, apart := false }
def VmemPlacesSaid : Prop := vmemPlacesRow.holds Try.pinned (OpenSpec.ofChange vmemPlacesSpec)

/-- ITS FALSE NEIGHBOUR: 'it returns false'. Refute it at one input. -/
def vmemPlacesWrong : ChangeSpec := { name := "vmemPlaces", fn := fun _ => fun
  | [d1, d2] => { results := [.lit (.bool false)], args := [d1, d2] }
  | _ => none }
def VmemPlacesWrongFalsely : Prop := vmemPlacesRow.holds Try.pinned (OpenSpec.ofChange vmemPlacesWrong)

/-- 'mallowlaw3.VmemPlays': WHATEVER THE INPUT: true; the input reads as it did. -/
def vmemPlaysSpec : ChangeSpec := { name := "vmemPlays", fn := fun _ => fun
  | [d1, d2] => { results := [.lit (.bool true)], args := [d1, d2] }
  | _ => none }
def vmemPlaysRow : OpenClaim := { program := "ytelbllakgljffaa", sum := "ccb64add49953048dfc30d240624b130e3a623ca5357f2526d232dda804938d8", func := "mallow/mallowlaw3.VmemPlays", spec := "vmemPlays", unfollowed := true, recurses := true, apart := false }
def VmemPlaysSaid : Prop := vmemPlaysRow.holds Try.pinned (OpenSpec.ofChange vmemPlaysSpec)

/-- ITS FALSE NEIGHBOUR: 'it returns false'. Refute it at one input. -/
def vmemPlaysWrong : ChangeSpec := { name := "vmemPlays", fn := fun _ => fun
  | [d1, d2] => { results := [.lit (.bool false)], args := [d1, d2] }
  | _ => none }
def VmemPlaysWrongFalsely : Prop := vmemPlaysRow.holds Try.pinned (OpenSpec.ofChange vmemPlaysWrong)

/-- 'mallowlaw3.VmemApart': WHATEVER THE INPUT: true; the input reads as it did. -/
def vmemApartSpec : ChangeSpec := { name := "vmemApart", fn := fun _ => fun
  | [d1, d2, d3] => { results := [.lit (.bool true)], args := [d1, d2, d3] }
  | _ => none }
def vmemApartRow : OpenClaim := { program := "ytelbllakgljffaa", sum := "ccb64add49953048dfc30d240624b130e3a623ca5357f2526d232dda804938d8", func := "mallow/mallowlaw3.VmemApart", spec := "vmemApart", unfollowed := true, recurses := true, apart := false }
def VmemApartSaid : Prop := vmemApartRow.holds Try.pinned (OpenSpec.ofChange vmemApartSpec)

/-- ITS FALSE NEIGHBOUR: 'it returns false'. Refute it at one input. -/
def vmemApartWrong : ChangeSpec := { name := "vmemApart", fn := fun _ => fun
  | [d1, d2, d3] => { results := [.lit (.bool false)], args := [d1, d2, d3] }
  | _ => none }
def VmemApartWrongFalsely : Prop := vmemApartRow.holds Try.pinned (OpenSpec.ofChange vmemApartWrong)

/-- 'mallowlaw3.VmemStates': WHATEVER THE INPUT: true; the input reads as it did. -/
def vmemStatesSpec : ChangeSpec := { name := "vmemStates", fn := fun _ => fun
  | [d] => { results := [.lit (.bool true)], args := [d] }
  | _ => none }
def vmemStatesRow : OpenClaim := { program := "ytelbllakgljffaa", sum := "ccb64add49953048dfc30d240624b130e3a623ca5357f2526d232dda804938d8", func := "mallow/mallowlaw3.VmemStates", spec := "vmemStates", unfollowed := true, recurses := true, apart := false }
def VmemStatesSaid : Prop := vmemStatesRow.holds Try.pinned (OpenSpec.ofChange vmemStatesSpec)

/-- ITS FALSE NEIGHBOUR: 'it returns false'. Refute it at one input. -/
def vmemStatesWrong : ChangeSpec := { name := "vmemStates", fn := fun _ => fun
  | [d] => { results := [.lit (.bool false)], args := [d] }
  | _ => none }
def VmemStatesWrongFalsely : Prop := vmemStatesRow.holds Try.pinned (OpenSpec.ofChange vmemStatesWrong)

/-- 'mallowlaw3.VmemZeroes': WHATEVER THE INPUT: true; the input reads as it did. -/
def vmemZeroesSpec : ChangeSpec := { name := "vmemZeroes", fn := fun _ => fun
  | [d1, d2, d3] => { results := [.lit (.bool true)], args := [d1, d2, d3] }
  | _ => none }
def vmemZeroesRow : OpenClaim := { program := "ytelbllakgljffaa", sum := "ccb64add49953048dfc30d240624b130e3a623ca5357f2526d232dda804938d8", func := "mallow/mallowlaw3.VmemZeroes", spec := "vmemZeroes", unfollowed := true, recurses := true, apart := false }
def VmemZeroesSaid : Prop := vmemZeroesRow.holds Try.pinned (OpenSpec.ofChange vmemZeroesSpec)

/-- ITS FALSE NEIGHBOUR: 'it returns false'. Refute it at one input. -/
def vmemZeroesWrong : ChangeSpec := { name := "vmemZeroes", fn := fun _ => fun
  | [d1, d2, d3] => { results := [.lit (.bool false)], args := [d1, d2, d3] }
  | _ => none }
def VmemZeroesWrongFalsely : Prop := vmemZeroesRow.holds Try.pinned (OpenSpec.ofChange vmemZeroesWrong)

/- THE SECOND FORM. 'bulk': how many values and letters a reading holds, each counted each time it is reached (what is shared counts as often as it is met; a slice's spare places count too). A statement '..UptoSaid' is the law's where the arguments, and the package variables that the reading takes, are together of bulk at most 1048576: NARROWER than '..Said'. Prove '..Said' where nothing that the law and all that it calls make is longer than what came in: it says more and counts as full. Else prove '..UptoSaid'. A law counts once. -/
mutual
def uptoBulk {H : Type} : DataW H → Nat
  | .lit (.string bytes) => bytes.length + 1
  | .lit _ => 1
  | .nil => 1
  | .ptr d => uptoBulk d + 1
  | .slice elems spare => uptoBulkAll elems + uptoBulkAll spare + 1
  | .agg parts => uptoBulkAll parts + 1
  | .iface _ d => uptoBulk d + 1
  | .map entries => uptoBulkEntries entries + 1
  | .held _ => 1
def uptoBulkAll {H : Type} : List (DataW H) → Nat
  | [] => 0
  | d :: r => uptoBulk d + uptoBulkAll r
def uptoBulkEntries {H : Type} : List (Lit × DataW H) → Nat
  | [] => 0
  | x :: r => uptoBulkEntry x + uptoBulkEntries r
def uptoBulkEntry {H : Type} : Lit × DataW H → Nat
  | (.string bytes, d) => bytes.length + uptoBulk d + 1
  | (_, d) => uptoBulk d + 1
 end
def uptoSmall : (H : Type) → List (DataW H) → Bool := fun _ ds => decide (uptoBulkAll ds ≤ 1048576)
def OpenSpec.upto (s : _root_.Go.ChangeSpec) : _root_.Go.OpenSpec := { _root_.Go.OpenSpec.ofChange s with cond := some uptoSmall }

/-- 'mallowlaw3.VmemFills', WHERE WHAT IT READS IS OF BULK AT MOST 1048576: true; the input reads as it did. -/
def vmemFillsUptoRow : OpenClaim := { program := "ytelbllakgljffaa", sum := "ccb64add49953048dfc30d240624b130e3a623ca5357f2526d232dda804938d8", func := "mallow/mallowlaw3.VmemFills", spec := "vmemFills", unfollowed := true, recurses := true, apart := false, narrowed := true }
def VmemFillsUptoSaid : Prop := vmemFillsUptoRow.holds Try.pinned (OpenSpec.upto vmemFillsSpec)

/-- 'mallowlaw3.VmemKeeps', WHERE WHAT IT READS IS OF BULK AT MOST 1048576: true; the input reads as it did. -/
def vmemKeepsUptoRow : OpenClaim := { program := "ytelbllakgljffaa", sum := "ccb64add49953048dfc30d240624b130e3a623ca5357f2526d232dda804938d8", func := "mallow/mallowlaw3.VmemKeeps", spec := "vmemKeeps", unfollowed := true, recurses := true, apart := false, narrowed := true }
def VmemKeepsUptoSaid : Prop := vmemKeepsUptoRow.holds Try.pinned (OpenSpec.upto vmemKeepsSpec)

/-- 'mallowlaw3.VmemRefused', WHERE WHAT IT READS IS OF BULK AT MOST 1048576: true; the input reads as it did. -/
def vmemRefusedUptoRow : OpenClaim := { program := "ytelbllakgljffaa", sum := "ccb64add49953048dfc30d240624b130e3a623ca5357f2526d232dda804938d8", func := "mallow/mallowlaw3.VmemRefused", spec := "vmemRefused", unfollowed := true, recurses := true, apart := false, narrowed := true }
def VmemRefusedUptoSaid : Prop := vmemRefusedUptoRow.holds Try.pinned (OpenSpec.upto vmemRefusedSpec)

/-- 'mallowlaw3.VmemPlaces', WHERE WHAT IT READS IS OF BULK AT MOST 1048576: true; the input reads as it did. -/
def vmemPlacesUptoRow : OpenClaim := { program := "ytelbllakgljffaa", sum := "ccb64add49953048dfc30d240624b130e3a623ca5357f2526d232dda804938d8", func := "mallow/mallowlaw3.VmemPlaces", spec := "vmemPlaces", unfollowed := true, recurses := true, apart := false, narrowed := true }
def VmemPlacesUptoSaid : Prop := vmemPlacesUptoRow.holds Try.pinned (OpenSpec.upto vmemPlacesSpec)

/-- 'mallowlaw3.VmemPlays', WHERE WHAT IT READS IS OF BULK AT MOST 1048576: true; the input reads as it did. -/
def vmemPlaysUptoRow : OpenClaim := { program := "ytelbllakgljffaa", sum := "ccb64add49953048dfc30d240624b130e3a623ca5357f2526d232dda804938d8", func := "mallow/mallowlaw3.VmemPlays", spec := "vmemPlays", unfollowed := true, recurses := true, apart := false, narrowed := true }
def VmemPlaysUptoSaid : Prop := vmemPlaysUptoRow.holds Try.pinned (OpenSpec.upto vmemPlaysSpec)

/-- 'mallowlaw3.VmemApart', WHERE WHAT IT READS IS OF BULK AT MOST 1048576: true; the input reads as it did. -/
def vmemApartUptoRow : OpenClaim := { program := "ytelbllakgljffaa", sum := "ccb64add49953048dfc30d240624b130e3a623ca5357f2526d232dda804938d8", func := "mallow/mallowlaw3.VmemApart", spec := "vmemApart", unfollowed := true, recurses := true, apart := false, narrowed := true }
def VmemApartUptoSaid : Prop := vmemApartUptoRow.holds Try.pinned (OpenSpec.upto vmemApartSpec)

/-- 'mallowlaw3.VmemStates', WHERE WHAT IT READS IS OF BULK AT MOST 1048576: true; the input reads as it did. -/
def vmemStatesUptoRow : OpenClaim := { program := "ytelbllakgljffaa", sum := "ccb64add49953048dfc30d240624b130e3a623ca5357f2526d232dda804938d8", func := "mallow/mallowlaw3.VmemStates", spec := "vmemStates", unfollowed := true, recurses := true, apart := false, narrowed := true }
def VmemStatesUptoSaid : Prop := vmemStatesUptoRow.holds Try.pinned (OpenSpec.upto vmemStatesSpec)

/-- 'mallowlaw3.VmemZeroes', WHERE WHAT IT READS IS OF BULK AT MOST 1048576: true; the input reads as it did. -/
def vmemZeroesUptoRow : OpenClaim := { program := "ytelbllakgljffaa", sum := "ccb64add49953048dfc30d240624b130e3a623ca5357f2526d232dda804938d8", func := "mallow/mallowlaw3.VmemZeroes", spec := "vmemZeroes", unfollowed := true, recurses := true, apart := false, narrowed := true }
def VmemZeroesUptoSaid : Prop := vmemZeroesUptoRow.holds Try.pinned (OpenSpec.upto vmemZeroesSpec)

end Rows
end Go.Proofs.Ytelbllakgljffaa
