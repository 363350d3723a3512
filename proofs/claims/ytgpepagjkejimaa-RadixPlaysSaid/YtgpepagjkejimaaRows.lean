/-
  No cell of these rows narrows 'for every input' (looked for: loops, veiled, ifaces, maps, wideKeys, modest, calm, conditions, laid).
  DERIVED. THE GIVEN ROWS OF THIS SEAT. 3 by the template 'for every input the law returns true; each argument reads behind the call as it read before'; 0 by the template 'total and deterministic' (their statements: YtgpepagjkejimaaTotals.lean).
  GIVEN WITH THE SEED: the statements are not yours to turn. If you find one false, say at which input.
  Laid BY PROGRAM, IN A SANDBOX (cutbox-rows.mjs): the forced cells as the released guide's own fill.sh prints them over the translation 9d28ba7d08042616… (all of the seat's roots in one cut). By AI agents, Wed Nov 11 2026. No macro, syntax, notation, axiom, sorry.
-/
import Derived.Test.YtgpepagjkejimaaChecked
import GoSem.Claim
import GoSem.ClaimJoined
import GoSem.ClaimMapViews
import Derived.JoinedTies
import Derived.KernelRfl
namespace Go.Proofs.Ytgpepagjkejimaa
/- THE CELL 'sum', in the pinned program and in every row, IS THE sha256 OF THE DUMP (.gsa) THAT YtgpepagjkejimaaProg.lean LOADS. Nothing in Lean hashes anything: it is a label: what it is worth is what the hold of that sum in a sandbox is worth. -/
noncomputable def Try.pinned : Pinned := { name := "ytgpepagjkejimaa", sum := "9d28ba7d080426161ea2c88666975e161a81340fea91316b922d77bb0350c7f9", checked := Try.checked }
namespace Rows
def none {H : Type} : Left H := { results := [], args := [] }

/-- 'mallowlaw9.RadixMerges': WHATEVER THE INPUT: true; the input reads as it did. -/
def radixMergesSpec : ChangeSpec := { name := "radixMerges", fn := fun _ => fun
  | [d1, d2, d3] => { results := [.lit (.bool true)], args := [d1, d2, d3] }
  | _ => none }
def radixMergesRow : OpenClaim := { program := "ytgpepagjkejimaa", sum := "9d28ba7d080426161ea2c88666975e161a81340fea91316b922d77bb0350c7f9", func := "mallow/mallowlaw9.RadixMerges", spec := "radixMerges", unfollowed := true, recurses := true, apart := false }
def RadixMergesSaid : Prop := radixMergesRow.holds Try.pinned (OpenSpec.ofChange radixMergesSpec)

/-- ITS FALSE NEIGHBOUR: 'it returns false'. Refute it at one input. -/
def radixMergesWrong : ChangeSpec := { name := "radixMerges", fn := fun _ => fun
  | [d1, d2, d3] => { results := [.lit (.bool false)], args := [d1, d2, d3] }
  | _ => none }
def RadixMergesWrongFalsely : Prop := radixMergesRow.holds Try.pinned (OpenSpec.ofChange radixMergesWrong)

/-- 'mallowlaw9.RadixPlays': WHATEVER THE INPUT: true; the input reads as it did. -/
def radixPlaysSpec : ChangeSpec := { name := "radixPlays", fn := fun _ => fun
  | [d] => { results := [.lit (.bool true)], args := [d] }
  | _ => none }
def radixPlaysRow : OpenClaim := { program := "ytgpepagjkejimaa", sum := "9d28ba7d080426161ea2c88666975e161a81340fea91316b922d77bb0350c7f9", func := "mallow/mallowlaw9.RadixPlays", spec := "radixPlays", unfollowed := true, recurses := true, apart := false }
def RadixPlaysSaid : Prop := radixPlaysRow.holds Try.pinned (OpenSpec.ofChange radixPlaysSpec)

/-- ITS FALSE NEIGHBOUR: 'it returns false'. Refute it at one input. -/
def radixPlaysWrong : ChangeSpec := { name := "radixPlays", fn := fun _ => fun
  | [d] => { results := [.lit (.bool false)], args := [d] }
  | _ => none }
def RadixPlaysWrongFalsely : Prop := radixPlaysRow.holds Try.pinned (OpenSpec.ofChange radixPlaysWrong)

/-- 'mallowlaw9.RadixApart': WHATEVER THE INPUT: true; the input reads as it did. -/
def radixApartSpec : ChangeSpec := { name := "radixApart", fn := fun _ => fun
  | [d1, d2] => { results := [.lit (.bool true)], args := [d1, d2] }
  | _ => none }
def radixApartRow : OpenClaim := { program := "ytgpepagjkejimaa", sum := "9d28ba7d080426161ea2c88666975e161a81340fea91316b922d77bb0350c7f9", func := "mallow/mallowlaw9.RadixApart", spec := "radixApart", unfollowed := true, recurses := true, apart := false }
def RadixApartSaid : Prop := radixApartRow.holds Try.pinned (OpenSpec.ofChange radixApartSpec)

/-- ITS FALSE NEIGHBOUR: 'it returns false'. Refute it at one input. -/
def radixApartWrong : ChangeSpec := { name := "radixApart", fn := fun _ => fun
  | [d1, d2] => { results := [.lit (.bool false)], args := [d1, d2] }
  | _ => none }
def RadixApartWrongFalsely : Prop := radixApartRow.holds Try.pinned (OpenSpec.ofChange radixApartWrong)

/- THE SECOND FORM. 'bulk': how many values and letters a reading holds, each counted each time it is reached (what is shared counts as often as it is met; a slice's spare places count too). A statement '..UptoSaid' is the law's where the arguments, and the package variables that the reading takes, are together of bulk at most 1048576: NARROWER than '..Said'. Prove '..Said' where nothing that the law and all that it calls make is longer than what came in: it says more and counts as full. Else prove '..UptoSaid'. A law counts once. -/
mutual
def uptoBulk {H : Type} : DataW H → Nat
  | .lit (.string bytes) => bytes.length + 1
  | .lit _ => 1
  | .nil => 1
  | .ptr d => uptoBulk d + 1
  | .slice elems spare => uptoBulkAll elems + uptoBulkAll spare + 1
  | .agg parts => uptoBulkAll parts + 1
  | .iface _ d => uptoBulk d + 1
  | .map entries => uptoBulkEntries entries + 1
  | .held _ => 1
def uptoBulkAll {H : Type} : List (DataW H) → Nat
  | [] => 0
  | d :: r => uptoBulk d + uptoBulkAll r
def uptoBulkEntries {H : Type} : List (Lit × DataW H) → Nat
  | [] => 0
  | x :: r => uptoBulkEntry x + uptoBulkEntries r
def uptoBulkEntry {H : Type} : Lit × DataW H → Nat
  | (.string bytes, d) => bytes.length + uptoBulk d + 1
  | (_, d) => uptoBulk d + 1
 end
def uptoSmall : (H : Type) → List (DataW H) → Bool := fun _ ds => decide (uptoBulkAll ds ≤ 1048576)
def OpenSpec.upto (s : _root_.Go.ChangeSpec) : _root_.Go.OpenSpec := { _root_.Go.OpenSpec.ofChange s with cond := some uptoSmall }

/-- 'mallowlaw9.RadixMerges', WHERE WHAT IT READS IS OF BULK AT MOST 1048576: true; the input reads as it did. -/
def radixMergesUptoRow : OpenClaim := { program := "ytgpepagjkejimaa", sum := "9d28ba7d080426161ea2c88666975e161a81340fea91316b922d77bb0350c7f9", func := "mallow/mallowlaw9.RadixMerges", spec := "radixMerges", unfollowed := true, recurses := true, apart := false, narrowed := true }
def RadixMergesUptoSaid : Prop := radixMergesUptoRow.holds Try.pinned (OpenSpec.upto radixMergesSpec)

/-- 'mallowlaw9.RadixPlays', WHERE WHAT IT READS IS OF BULK AT MOST 1048576: true; the input reads as it did. -/
def radixPlaysUptoRow : OpenClaim := { program := "ytgpepagjkejimaa", sum := "9d28ba7d080426161ea2c88666975e161a81340fea91316b922d77bb0350c7f9", func := "mallow/mallowlaw9.RadixPlays", spec := "radixPlays", unfollowed := true, recurses := true, apart := false, narrowed := true }
def RadixPlaysUptoSaid : Prop := radixPlaysUptoRow.holds Try.pinned (OpenSpec.upto radixPlaysSpec)

/-- 'mallowlaw9.RadixApart', WHERE WHAT IT READS IS OF BULK AT MOST 1048576: true; the input reads as it did. -/
def radixApartUptoRow : OpenClaim := { program := "ytgpepagjkejimaa", sum := "9d28ba7d080426161ea2c88666975e161a81340fea91316b922d77bb0350c7f9", func := "mallow/mallowlaw9.RadixApart", spec := "radixApart", unfollowed := true, recurses := true, apart := false, narrowed := true }
def RadixApartUptoSaid : Prop := radixApartUptoRow.holds Try.pinned (OpenSpec.upto radixApartSpec)

end Rows
end Go.Proofs.Ytgpepagjkejimaa
