/-
  No cell of these rows narrows 'for every input' (looked for: loops, veiled, ifaces, maps, wideKeys, modest, calm, conditions, laid).
  DERIVED. THE GIVEN ROWS OF THIS SEAT. 6 by the template 'for every input the law returns true; each argument reads behind the call as it read before'; 0 by the template 'total and deterministic' (their statements: YtbhlnppflnfooaaTotals.lean).
  GIVEN WITH THE SEED: the statements are not yours to turn. If you find one false, say at which input.
  Laid BY PROGRAM, IN A SANDBOX (cutbox-rows.mjs): the forced cells as the released guide's own fill.sh prints them over the translation 02317fa26944952a… (all of the seat's roots in one cut). By AI agents, Wed Nov 11 2026. No macro, syntax, notation, axiom, sorry.
-/
import Derived.Test.YtbhlnppflnfooaaChecked
import GoSem.Claim
import GoSem.ClaimJoined
import GoSem.ClaimMapViews
import Derived.JoinedTies
import Derived.KernelRfl
namespace Go.Proofs.Ytbhlnppflnfooaa
/- THE CELL 'sum', in the pinned program and in every row, IS THE sha256 OF THE DUMP (.gsa) THAT YtbhlnppflnfooaaProg.lean LOADS. Nothing in Lean hashes anything: it is a label: what it is worth is what the hold of that sum in a sandbox is worth. -/
noncomputable def Try.pinned : Pinned := { name := "ytbhlnppflnfooaa", sum := "02317fa26944952ae033bc342e28893dade9f4074762addd3029a98076382125", checked := Try.checked }
namespace Rows
def none {H : Type} : Left H := { results := [], args := [] }

/-- 'mallowlaw9.RadixGaps': WHATEVER THE INPUT: true; the input reads as it did. -/
def radixGapsSpec : ChangeSpec := { name := "radixGaps", fn := fun _ => fun
  | [d1, d2, d3] => { results := [.lit (.bool true)], args := [d1, d2, d3] }
  | _ => none }
def radixGapsRow : OpenClaim := { program := "ytbhlnppflnfooaa", sum := "02317fa26944952ae033bc342e28893dade9f4074762addd3029a98076382125", func := "mallow/mallowlaw9.RadixGaps", spec := "radixGaps", unfollowed := true, recurses := true, apart := false }
def RadixGapsSaid : Prop := radixGapsRow.holds Try.pinned (OpenSpec.ofChange radixGapsSpec)

/-- ITS FALSE NEIGHBOUR: 'it returns false'. Refute it at one input. -/
def radixGapsWrong : ChangeSpec := { name := "radixGaps", fn := fun _ => fun
  | [d1, d2, d3] => { results := [.lit (.bool false)], args := [d1, d2, d3] }
  | _ => none }
def RadixGapsWrongFalsely : Prop := radixGapsRow.holds Try.pinned (OpenSpec.ofChange radixGapsWrong)

/-- 'mallowlaw9.RadixEdges': WHATEVER THE INPUT: true; the input reads as it did. -/
def radixEdgesSpec : ChangeSpec := { name := "radixEdges", fn := fun _ => fun
  | [d1, d2] => { results := [.lit (.bool true)], args := [d1, d2] }
  | _ => none }
def radixEdgesRow : OpenClaim := { program := "ytbhlnppflnfooaa", sum := "02317fa26944952ae033bc342e28893dade9f4074762addd3029a98076382125", func := "mallow/mallowlaw9.RadixEdges", spec := "radixEdges", unfollowed := true, recurses := true, apart := false }
def RadixEdgesSaid : Prop := radixEdgesRow.holds Try.pinned (OpenSpec.ofChange radixEdgesSpec)

/-- ITS FALSE NEIGHBOUR: 'it returns false'. Refute it at one input. -/
def radixEdgesWrong : ChangeSpec := { name := "radixEdges", fn := fun _ => fun
  | [d1, d2] => { results := [.lit (.bool false)], args := [d1, d2] }
  | _ => none }
def RadixEdgesWrongFalsely : Prop := radixEdgesRow.holds Try.pinned (OpenSpec.ofChange radixEdgesWrong)

/-- 'mallowlaw9.RadixTakes': WHATEVER THE INPUT: true; the input reads as it did. -/
def radixTakesSpec : ChangeSpec := { name := "radixTakes", fn := fun _ => fun
  | [d1, d2] => { results := [.lit (.bool true)], args := [d1, d2] }
  | _ => none }
def radixTakesRow : OpenClaim := { program := "ytbhlnppflnfooaa", sum := "02317fa26944952ae033bc342e28893dade9f4074762addd3029a98076382125", func := "mallow/mallowlaw9.RadixTakes", spec := "radixTakes", unfollowed := true, recurses := true, apart := false }
def RadixTakesSaid : Prop := radixTakesRow.holds Try.pinned (OpenSpec.ofChange radixTakesSpec)

/-- ITS FALSE NEIGHBOUR: 'it returns false'. Refute it at one input. -/
def radixTakesWrong : ChangeSpec := { name := "radixTakes", fn := fun _ => fun
  | [d1, d2] => { results := [.lit (.bool false)], args := [d1, d2] }
  | _ => none }
def RadixTakesWrongFalsely : Prop := radixTakesRow.holds Try.pinned (OpenSpec.ofChange radixTakesWrong)

/-- 'mallowlaw9.RadixFirst': WHATEVER THE INPUT: true; the input reads as it did. -/
def radixFirstSpec : ChangeSpec := { name := "radixFirst", fn := fun _ => fun
  | [d1, d2] => { results := [.lit (.bool true)], args := [d1, d2] }
  | _ => none }
def radixFirstRow : OpenClaim := { program := "ytbhlnppflnfooaa", sum := "02317fa26944952ae033bc342e28893dade9f4074762addd3029a98076382125", func := "mallow/mallowlaw9.RadixFirst", spec := "radixFirst", unfollowed := true, recurses := true, apart := false }
def RadixFirstSaid : Prop := radixFirstRow.holds Try.pinned (OpenSpec.ofChange radixFirstSpec)

/-- ITS FALSE NEIGHBOUR: 'it returns false'. Refute it at one input. -/
def radixFirstWrong : ChangeSpec := { name := "radixFirst", fn := fun _ => fun
  | [d1, d2] => { results := [.lit (.bool false)], args := [d1, d2] }
  | _ => none }
def RadixFirstWrongFalsely : Prop := radixFirstRow.holds Try.pinned (OpenSpec.ofChange radixFirstWrong)

/-- 'mallowlaw9.RadixUndo': WHATEVER THE INPUT: true; the input reads as it did. -/
def radixUndoSpec : ChangeSpec := { name := "radixUndo", fn := fun _ => fun
  | [d1, d2] => { results := [.lit (.bool true)], args := [d1, d2] }
  | _ => none }
def radixUndoRow : OpenClaim := { program := "ytbhlnppflnfooaa", sum := "02317fa26944952ae033bc342e28893dade9f4074762addd3029a98076382125", func := "mallow/mallowlaw9.RadixUndo", spec := "radixUndo", unfollowed := true, recurses := true, apart := false }
def RadixUndoSaid : Prop := radixUndoRow.holds Try.pinned (OpenSpec.ofChange radixUndoSpec)

/-- ITS FALSE NEIGHBOUR: 'it returns false'. Refute it at one input. -/
def radixUndoWrong : ChangeSpec := { name := "radixUndo", fn := fun _ => fun
  | [d1, d2] => { results := [.lit (.bool false)], args := [d1, d2] }
  | _ => none }
def RadixUndoWrongFalsely : Prop := radixUndoRow.holds Try.pinned (OpenSpec.ofChange radixUndoWrong)

/-- 'mallowlaw9.RadixReleases': WHATEVER THE INPUT: true; the input reads as it did. -/
def radixReleasesSpec : ChangeSpec := { name := "radixReleases", fn := fun _ => fun
  | [d1, d2, d3] => { results := [.lit (.bool true)], args := [d1, d2, d3] }
  | _ => none }
def radixReleasesRow : OpenClaim := { program := "ytbhlnppflnfooaa", sum := "02317fa26944952ae033bc342e28893dade9f4074762addd3029a98076382125", func := "mallow/mallowlaw9.RadixReleases", spec := "radixReleases", unfollowed := true, recurses := true, apart := false }
def RadixReleasesSaid : Prop := radixReleasesRow.holds Try.pinned (OpenSpec.ofChange radixReleasesSpec)

/-- ITS FALSE NEIGHBOUR: 'it returns false'. Refute it at one input. -/
def radixReleasesWrong : ChangeSpec := { name := "radixReleases", fn := fun _ => fun
  | [d1, d2, d3] => { results := [.lit (.bool false)], args := [d1, d2, d3] }
  | _ => none }
def RadixReleasesWrongFalsely : Prop := radixReleasesRow.holds Try.pinned (OpenSpec.ofChange radixReleasesWrong)

/- THE SECOND FORM. 'bulk': how many values and letters a reading holds, each counted each time it is reached (what is shared counts as often as it is met; a slice's spare places count too). A statement '..UptoSaid' is the law's where the arguments, and the package variables that the reading takes, are together of bulk at most 1048576: NARROWER than '..Said'. Prove '..Said' where nothing that the law and all that it calls make is longer than what came in: it says more and counts as full. Else prove '..UptoSaid'. A law counts once. -/
mutual
def uptoBulk {H : Type} : DataW H → Nat
  | .lit (.string bytes) => bytes.length + 1
  | .lit _ => 1
  | .nil => 1
  | .ptr d => uptoBulk d + 1
  | .slice elems spare => uptoBulkAll elems + uptoBulkAll spare + 1
  | .agg parts => uptoBulkAll parts + 1
  | .iface _ d => uptoBulk d + 1
  | .map entries => uptoBulkEntries entries + 1
  | .held _ => 1
def uptoBulkAll {H : Type} : List (DataW H) → Nat
  | [] => 0
  | d :: r => uptoBulk d + uptoBulkAll r
def uptoBulkEntries {H : Type} : List (Lit × DataW H) → Nat
  | [] => 0
  | x :: r => uptoBulkEntry x + uptoBulkEntries r
def uptoBulkEntry {H : Type} : Lit × DataW H → Nat
  | (.string bytes, d) => bytes.length + uptoBulk d + 1
  | (_, d) => uptoBulk d + 1
 end
def uptoSmall : (H : Type) → List (DataW H) → Bool := fun _ ds => decide (uptoBulkAll ds ≤ 1048576)
def OpenSpec.upto (s : _root_.Go.ChangeSpec) : _root_.Go.OpenSpec := { _root_.Go.OpenSpec.ofChange s with cond := some uptoSmall }

/-- 'mallowlaw9.RadixGaps', WHERE WHAT IT READS IS OF BULK AT MOST 1048576: true; the input reads as it did. -/
def radixGapsUptoRow : OpenClaim := { program := "ytbhlnppflnfooaa", sum := "02317fa26944952ae033bc342e28893dade9f4074762addd3029a98076382125", func := "mallow/mallowlaw9.RadixGaps", spec := "radixGaps", unfollowed := true, recurses := true, apart := false, narrowed := true }
def RadixGapsUptoSaid : Prop := radixGapsUptoRow.holds Try.pinned (OpenSpec.upto radixGapsSpec)

/-- 'mallowlaw9.RadixEdges', WHERE WHAT IT READS IS OF BULK AT MOST 1048576: true; the input reads as it did. -/
def radixEdgesUptoRow : OpenClaim := { program := "ytbhlnppflnfooaa", sum := "02317fa26944952ae033bc342e28893dade9f4074762addd3029a98076382125", func := "mallow/mallowlaw9.RadixEdges", spec := "radixEdges", unfollowed := true, recurses := true, apart := false, narrowed := true }
def RadixEdgesUptoSaid : Prop := radixEdgesUptoRow.holds Try.pinned (OpenSpec.upto radixEdgesSpec)

/-- 'mallowlaw9.RadixTakes', WHERE WHAT IT READS IS OF BULK AT MOST 1048576: true; the input reads as it did. -/
def radixTakesUptoRow : OpenClaim := { program := "ytbhlnppflnfooaa", sum := "02317fa26944952ae033bc342e28893dade9f4074762addd3029a98076382125", func := "mallow/mallowlaw9.RadixTakes", spec := "radixTakes", unfollowed := true, recurses := true, apart := false, narrowed := true }
def RadixTakesUptoSaid : Prop := radixTakesUptoRow.holds Try.pinned (OpenSpec.upto radixTakesSpec)

/-- 'mallowlaw9.RadixFirst', WHERE WHAT IT READS IS OF BULK AT MOST 1048576: true; the input reads as it did. -/
def radixFirstUptoRow : OpenClaim := { program := "ytbhlnppflnfooaa", sum := "02317fa26944952ae033bc342e28893dade9f4074762addd3029a98076382125", func := "mallow/mallowlaw9.RadixFirst", spec := "radixFirst", unfollowed := true, recurses := true, apart := false, narrowed := true }
def RadixFirstUptoSaid : Prop := radixFirstUptoRow.holds Try.pinned (OpenSpec.upto radixFirstSpec)

/-- 'mallowlaw9.RadixUndo', WHERE WHAT IT READS IS OF BULK AT MOST 1048576: true; the input reads as it did. -/
def radixUndoUptoRow : OpenClaim := { program := "ytbhlnppflnfooaa", sum := "02317fa26944952ae033bc342e28893dade9f4074762addd3029a98076382125", func := "mallow/mallowlaw9.RadixUndo", spec := "radixUndo", unfollowed := true, recurses := true, apart := false, narrowed := true }
def RadixUndoUptoSaid : Prop := radixUndoUptoRow.holds Try.pinned (OpenSpec.upto radixUndoSpec)

/-- 'mallowlaw9.RadixReleases', WHERE WHAT IT READS IS OF BULK AT MOST 1048576: true; the input reads as it did. -/
def radixReleasesUptoRow : OpenClaim := { program := "ytbhlnppflnfooaa", sum := "02317fa26944952ae033bc342e28893dade9f4074762addd3029a98076382125", func := "mallow/mallowlaw9.RadixReleases", spec := "radixReleases", unfollowed := true, recurses := true, apart := false, narrowed := true }
def RadixReleasesUptoSaid : Prop := radixReleasesUptoRow.holds Try.pinned (OpenSpec.upto radixReleasesSpec)

end Rows
end Go.Proofs.Ytbhlnppflnfooaa
