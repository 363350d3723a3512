/-
  NARROWER THAN 'FOR EVERY INPUT', by the rows' own cells (each row's printed sentence says how): CentralRoom: laid · CentralSweeps: laid · CacheApart: laid · CacheTiny: laid · CacheRefused: laid · CacheFills: laid.
  DERIVED. THE GIVEN ROWS OF THIS SEAT. 6 by the template 'for every input the law returns true; each argument reads behind the call as it read before'; 0 by the template 'total and deterministic' (their statements: YtnkkjmcimhjnhaaGreatDoorTotals.lean).
  GIVEN WITH THE SEED: the statements are not yours to turn. If you find one false, say at which input.
  Laid BY PROGRAM, IN A SANDBOX (cutbox-rows.mjs): the forced cells as the released guide's own fill.sh prints them over the translation 6660a1a969ec9404… (all of the seat's roots in one cut). By AI agents, Wed Nov 11 2026. No macro, syntax, notation, axiom, sorry.
-/
import Derived.Test.YtnkkjmcimhjnhaaGreatDoorChecked
import GoSem.Claim
import GoSem.ClaimJoined
import GoSem.ClaimMapViews
import Derived.JoinedTies
import Derived.KernelRfl
namespace Go.Proofs.YtnkkjmcimhjnhaaGreatDoor
/- THE CELL 'sum', in the pinned program and in every row, IS THE sha256 OF THE DUMP (.gsa) THAT YtnkkjmcimhjnhaaGreatDoorProg.lean LOADS. Nothing in Lean hashes anything: it is a label: what it is worth is what the hold of that sum in a sandbox is worth. -/
noncomputable def Tryz.pinned : Pinned := { name := "ytnkkjmcimhjnhaagreatdoor", sum := "6660a1a969ec9404fb14c0cd3bda937873ce6d127c91e792143b91eb86543cc2", checked := Tryz.checked }
namespace Rows
def none {H : Type} : Left H := { results := [], args := [] }

/- WHAT THE LISTED PACKAGE-LEVEL VARIABLES READ AS WHEN THE CALL BEGINS. Each datum BY PROGRAM (the guide's laid-datum.mjs) off the statement by which the dump's own 'gosem.cut.vars' lays the variable. In a bare row this is a premise. The card (YtnkkjmcimhjnhaaGreatDoorCards.lean) ties it to the program's text. -/
def laid_math_bits_deBruijn64tab {H : Type} : DataW H := .agg [.lit (.int .u8 0), .lit (.int .u8 1), .lit (.int .u8 56), .lit (.int .u8 2), .lit (.int .u8 57), .lit (.int .u8 49), .lit (.int .u8 28), .lit (.int .u8 3), .lit (.int .u8 61), .lit (.int .u8 58), .lit (.int .u8 42), .lit (.int .u8 50), .lit (.int .u8 38), .lit (.int .u8 29), .lit (.int .u8 17), .lit (.int .u8 4), .lit (.int .u8 62), .lit (.int .u8 47), .lit (.int .u8 59), .lit (.int .u8 36), .lit (.int .u8 45), .lit (.int .u8 43), .lit (.int .u8 51), .lit (.int .u8 22), .lit (.int .u8 53), .lit (.int .u8 39), .lit (.int .u8 33), .lit (.int .u8 30), .lit (.int .u8 24), .lit (.int .u8 18), .lit (.int .u8 12), .lit (.int .u8 5), .lit (.int .u8 63), .lit (.int .u8 55), .lit (.int .u8 48), .lit (.int .u8 27), .lit (.int .u8 60), .lit (.int .u8 41), .lit (.int .u8 37), .lit (.int .u8 16), .lit (.int .u8 46), .lit (.int .u8 35), .lit (.int .u8 44), .lit (.int .u8 21), .lit (.int .u8 52), .lit (.int .u8 32), .lit (.int .u8 23), .lit (.int .u8 11), .lit (.int .u8 54), .lit (.int .u8 26), .lit (.int .u8 40), .lit (.int .u8 15), .lit (.int .u8 34), .lit (.int .u8 20), .lit (.int .u8 31), .lit (.int .u8 10), .lit (.int .u8 25), .lit (.int .u8 14), .lit (.int .u8 19), .lit (.int .u8 9), .lit (.int .u8 13), .lit (.int .u8 8), .lit (.int .u8 7), .lit (.int .u8 6)]

/-- 'mallowlaw19.CentralRoom': WHATEVER THE INPUT: true; the input reads as it did. -/
def centralRoomSpec : ChangeSpec := { name := "centralRoom", fn := fun _ => fun
  | [d1, d2, d3, d4] => { results := [.lit (.bool true)], args := [d1, d2, d3, d4] }
  | _ => none }
def centralRoomRow : OpenClaim := { program := "ytnkkjmcimhjnhaagreatdoor", sum := "6660a1a969ec9404fb14c0cd3bda937873ce6d127c91e792143b91eb86543cc2", func := "mallow/mallowlaw19.CentralRoom", spec := "centralRoom", unfollowed := true, recurses := true, named := ["math/bits.deBruijn64tab"], plainKeys := false, apart := false, laid := [("math/bits.deBruijn64tab", laid_math_bits_deBruijn64tab)] }
def CentralRoomSaid : Prop := centralRoomRow.holds Tryz.pinned (OpenSpec.ofChange centralRoomSpec)

/-- ITS FALSE NEIGHBOUR: 'it returns false'. Refute it at one input. -/
def centralRoomWrong : ChangeSpec := { name := "centralRoom", fn := fun _ => fun
  | [d1, d2, d3, d4] => { results := [.lit (.bool false)], args := [d1, d2, d3, d4] }
  | _ => none }
def CentralRoomWrongFalsely : Prop := centralRoomRow.holds Tryz.pinned (OpenSpec.ofChange centralRoomWrong)

/-- 'mallowlaw19.CentralSweeps': WHATEVER THE INPUT: true; the input reads as it did. -/
def centralSweepsSpec : ChangeSpec := { name := "centralSweeps", fn := fun _ => fun
  | [d1, d2, d3] => { results := [.lit (.bool true)], args := [d1, d2, d3] }
  | _ => none }
def centralSweepsRow : OpenClaim := { program := "ytnkkjmcimhjnhaagreatdoor", sum := "6660a1a969ec9404fb14c0cd3bda937873ce6d127c91e792143b91eb86543cc2", func := "mallow/mallowlaw19.CentralSweeps", spec := "centralSweeps", unfollowed := true, recurses := true, named := ["math/bits.deBruijn64tab"], plainKeys := false, apart := false, laid := [("math/bits.deBruijn64tab", laid_math_bits_deBruijn64tab)] }
def CentralSweepsSaid : Prop := centralSweepsRow.holds Tryz.pinned (OpenSpec.ofChange centralSweepsSpec)

/-- ITS FALSE NEIGHBOUR: 'it returns false'. Refute it at one input. -/
def centralSweepsWrong : ChangeSpec := { name := "centralSweeps", fn := fun _ => fun
  | [d1, d2, d3] => { results := [.lit (.bool false)], args := [d1, d2, d3] }
  | _ => none }
def CentralSweepsWrongFalsely : Prop := centralSweepsRow.holds Tryz.pinned (OpenSpec.ofChange centralSweepsWrong)

/-- 'mallowlaw20.CacheApart': WHATEVER THE INPUT: true; the input reads as it did. -/
def cacheApartSpec : ChangeSpec := { name := "cacheApart", fn := fun _ => fun
  | [d1, d2] => { results := [.lit (.bool true)], args := [d1, d2] }
  | _ => none }
def cacheApartRow : OpenClaim := { program := "ytnkkjmcimhjnhaagreatdoor", sum := "6660a1a969ec9404fb14c0cd3bda937873ce6d127c91e792143b91eb86543cc2", func := "mallow/mallowlaw20.CacheApart", spec := "cacheApart", inPlace := ["math/bits.Add64", "math.Float64frombits"], unfollowed := true, recurses := true, named := ["math/bits.deBruijn64tab"], plainKeys := false, apart := false, laid := [("math/bits.deBruijn64tab", laid_math_bits_deBruijn64tab)] }
def CacheApartSaid : Prop := cacheApartRow.holds Tryz.pinned (OpenSpec.ofChange cacheApartSpec)

/-- ITS FALSE NEIGHBOUR: 'it returns false'. Refute it at one input. -/
def cacheApartWrong : ChangeSpec := { name := "cacheApart", fn := fun _ => fun
  | [d1, d2] => { results := [.lit (.bool false)], args := [d1, d2] }
  | _ => none }
def CacheApartWrongFalsely : Prop := cacheApartRow.holds Tryz.pinned (OpenSpec.ofChange cacheApartWrong)

/-- 'mallowlaw20.CacheTiny': WHATEVER THE INPUT: true; the input reads as it did. -/
def cacheTinySpec : ChangeSpec := { name := "cacheTiny", fn := fun _ => fun
  | [d] => { results := [.lit (.bool true)], args := [d] }
  | _ => none }
def cacheTinyRow : OpenClaim := { program := "ytnkkjmcimhjnhaagreatdoor", sum := "6660a1a969ec9404fb14c0cd3bda937873ce6d127c91e792143b91eb86543cc2", func := "mallow/mallowlaw20.CacheTiny", spec := "cacheTiny", inPlace := ["math/bits.Add64", "math.Float64frombits"], unfollowed := true, recurses := true, named := ["math/bits.deBruijn64tab"], plainKeys := false, apart := false, laid := [("math/bits.deBruijn64tab", laid_math_bits_deBruijn64tab)] }
def CacheTinySaid : Prop := cacheTinyRow.holds Tryz.pinned (OpenSpec.ofChange cacheTinySpec)

/-- ITS FALSE NEIGHBOUR: 'it returns false'. Refute it at one input. -/
def cacheTinyWrong : ChangeSpec := { name := "cacheTiny", fn := fun _ => fun
  | [d] => { results := [.lit (.bool false)], args := [d] }
  | _ => none }
def CacheTinyWrongFalsely : Prop := cacheTinyRow.holds Tryz.pinned (OpenSpec.ofChange cacheTinyWrong)

/-- 'mallowlaw20.CacheRefused': WHATEVER THE INPUT: true; the input reads as it did. -/
def cacheRefusedSpec : ChangeSpec := { name := "cacheRefused", fn := fun _ => fun
  | [d1, d2] => { results := [.lit (.bool true)], args := [d1, d2] }
  | _ => none }
def cacheRefusedRow : OpenClaim := { program := "ytnkkjmcimhjnhaagreatdoor", sum := "6660a1a969ec9404fb14c0cd3bda937873ce6d127c91e792143b91eb86543cc2", func := "mallow/mallowlaw20.CacheRefused", spec := "cacheRefused", inPlace := ["math/bits.Add64", "math.Float64frombits"], unfollowed := true, recurses := true, named := ["math/bits.deBruijn64tab"], plainKeys := false, apart := false, laid := [("math/bits.deBruijn64tab", laid_math_bits_deBruijn64tab)] }
def CacheRefusedSaid : Prop := cacheRefusedRow.holds Tryz.pinned (OpenSpec.ofChange cacheRefusedSpec)

/-- ITS FALSE NEIGHBOUR: 'it returns false'. Refute it at one input. -/
def cacheRefusedWrong : ChangeSpec := { name := "cacheRefused", fn := fun _ => fun
  | [d1, d2] => { results := [.lit (.bool false)], args := [d1, d2] }
  | _ => none }
def CacheRefusedWrongFalsely : Prop := cacheRefusedRow.holds Tryz.pinned (OpenSpec.ofChange cacheRefusedWrong)

/-- 'mallowlaw20.CacheFills': WHATEVER THE INPUT: true; the input reads as it did. -/
def cacheFillsSpec : ChangeSpec := { name := "cacheFills", fn := fun _ => fun
  | [d1, d2] => { results := [.lit (.bool true)], args := [d1, d2] }
  | _ => none }
def cacheFillsRow : OpenClaim := { program := "ytnkkjmcimhjnhaagreatdoor", sum := "6660a1a969ec9404fb14c0cd3bda937873ce6d127c91e792143b91eb86543cc2", func := "mallow/mallowlaw20.CacheFills", spec := "cacheFills", inPlace := ["math/bits.Add64", "math.Float64frombits"], unfollowed := true, recurses := true, named := ["math/bits.deBruijn64tab"], plainKeys := false, apart := false, laid := [("math/bits.deBruijn64tab", laid_math_bits_deBruijn64tab)] }
def CacheFillsSaid : Prop := cacheFillsRow.holds Tryz.pinned (OpenSpec.ofChange cacheFillsSpec)

/-- ITS FALSE NEIGHBOUR: 'it returns false'. Refute it at one input. -/
def cacheFillsWrong : ChangeSpec := { name := "cacheFills", fn := fun _ => fun
  | [d1, d2] => { results := [.lit (.bool false)], args := [d1, d2] }
  | _ => none }
def CacheFillsWrongFalsely : Prop := cacheFillsRow.holds Tryz.pinned (OpenSpec.ofChange cacheFillsWrong)

/- THE SECOND FORM. 'bulk': how many values and letters a reading holds, each counted each time it is reached (what is shared counts as often as it is met; a slice's spare places count too). A statement '..UptoSaid' is the law's where the arguments, and the package variables that the reading takes, are together of bulk at most 1048576: NARROWER than '..Said'. Prove '..Said' where nothing that the law and all that it calls make is longer than what came in: it says more and counts as full. Else prove '..UptoSaid'. A law counts once. -/
mutual
def uptoBulk {H : Type} : DataW H → Nat
  | .lit (.string bytes) => bytes.length + 1
  | .lit _ => 1
  | .nil => 1
  | .ptr d => uptoBulk d + 1
  | .slice elems spare => uptoBulkAll elems + uptoBulkAll spare + 1
  | .agg parts => uptoBulkAll parts + 1
  | .iface _ d => uptoBulk d + 1
  | .map entries => uptoBulkEntries entries + 1
  | .held _ => 1
def uptoBulkAll {H : Type} : List (DataW H) → Nat
  | [] => 0
  | d :: r => uptoBulk d + uptoBulkAll r
def uptoBulkEntries {H : Type} : List (Lit × DataW H) → Nat
  | [] => 0
  | x :: r => uptoBulkEntry x + uptoBulkEntries r
def uptoBulkEntry {H : Type} : Lit × DataW H → Nat
  | (.string bytes, d) => bytes.length + uptoBulk d + 1
  | (_, d) => uptoBulk d + 1
 end
def uptoSmall : (H : Type) → List (DataW H) → Bool := fun _ ds => decide (uptoBulkAll ds ≤ 1048576)
def OpenSpec.upto (s : _root_.Go.ChangeSpec) : _root_.Go.OpenSpec := { _root_.Go.OpenSpec.ofChange s with cond := some uptoSmall }

/-- 'mallowlaw19.CentralRoom', WHERE WHAT IT READS IS OF BULK AT MOST 1048576: true; the input reads as it did. -/
def centralRoomUptoRow : OpenClaim := { program := "ytnkkjmcimhjnhaagreatdoor", sum := "6660a1a969ec9404fb14c0cd3bda937873ce6d127c91e792143b91eb86543cc2", func := "mallow/mallowlaw19.CentralRoom", spec := "centralRoom", unfollowed := true, recurses := true, named := ["math/bits.deBruijn64tab"], plainKeys := false, apart := false, laid := [("math/bits.deBruijn64tab", laid_math_bits_deBruijn64tab)], narrowed := true }
def CentralRoomUptoSaid : Prop := centralRoomUptoRow.holds Tryz.pinned (OpenSpec.upto centralRoomSpec)

/-- 'mallowlaw19.CentralSweeps', WHERE WHAT IT READS IS OF BULK AT MOST 1048576: true; the input reads as it did. -/
def centralSweepsUptoRow : OpenClaim := { program := "ytnkkjmcimhjnhaagreatdoor", sum := "6660a1a969ec9404fb14c0cd3bda937873ce6d127c91e792143b91eb86543cc2", func := "mallow/mallowlaw19.CentralSweeps", spec := "centralSweeps", unfollowed := true, recurses := true, named := ["math/bits.deBruijn64tab"], plainKeys := false, apart := false, laid := [("math/bits.deBruijn64tab", laid_math_bits_deBruijn64tab)], narrowed := true }
def CentralSweepsUptoSaid : Prop := centralSweepsUptoRow.holds Tryz.pinned (OpenSpec.upto centralSweepsSpec)

/-- 'mallowlaw20.CacheApart', WHERE WHAT IT READS IS OF BULK AT MOST 1048576: true; the input reads as it did. -/
def cacheApartUptoRow : OpenClaim := { program := "ytnkkjmcimhjnhaagreatdoor", sum := "6660a1a969ec9404fb14c0cd3bda937873ce6d127c91e792143b91eb86543cc2", func := "mallow/mallowlaw20.CacheApart", spec := "cacheApart", inPlace := ["math/bits.Add64", "math.Float64frombits"], unfollowed := true, recurses := true, named := ["math/bits.deBruijn64tab"], plainKeys := false, apart := false, laid := [("math/bits.deBruijn64tab", laid_math_bits_deBruijn64tab)], narrowed := true }
def CacheApartUptoSaid : Prop := cacheApartUptoRow.holds Tryz.pinned (OpenSpec.upto cacheApartSpec)

/-- 'mallowlaw20.CacheTiny', WHERE WHAT IT READS IS OF BULK AT MOST 1048576: true; the input reads as it did. -/
def cacheTinyUptoRow : OpenClaim := { program := "ytnkkjmcimhjnhaagreatdoor", sum := "6660a1a969ec9404fb14c0cd3bda937873ce6d127c91e792143b91eb86543cc2", func := "mallow/mallowlaw20.CacheTiny", spec := "cacheTiny", inPlace := ["math/bits.Add64", "math.Float64frombits"], unfollowed := true, recurses := true, named := ["math/bits.deBruijn64tab"], plainKeys := false, apart := false, laid := [("math/bits.deBruijn64tab", laid_math_bits_deBruijn64tab)], narrowed := true }
def CacheTinyUptoSaid : Prop := cacheTinyUptoRow.holds Tryz.pinned (OpenSpec.upto cacheTinySpec)

/-- 'mallowlaw20.CacheRefused', WHERE WHAT IT READS IS OF BULK AT MOST 1048576: true; the input reads as it did. -/
def cacheRefusedUptoRow : OpenClaim := { program := "ytnkkjmcimhjnhaagreatdoor", sum := "6660a1a969ec9404fb14c0cd3bda937873ce6d127c91e792143b91eb86543cc2", func := "mallow/mallowlaw20.CacheRefused", spec := "cacheRefused", inPlace := ["math/bits.Add64", "math.Float64frombits"], unfollowed := true, recurses := true, named := ["math/bits.deBruijn64tab"], plainKeys := false, apart := false, laid := [("math/bits.deBruijn64tab", laid_math_bits_deBruijn64tab)], narrowed := true }
def CacheRefusedUptoSaid : Prop := cacheRefusedUptoRow.holds Tryz.pinned (OpenSpec.upto cacheRefusedSpec)

/-- 'mallowlaw20.CacheFills', WHERE WHAT IT READS IS OF BULK AT MOST 1048576: true; the input reads as it did. -/
def cacheFillsUptoRow : OpenClaim := { program := "ytnkkjmcimhjnhaagreatdoor", sum := "6660a1a969ec9404fb14c0cd3bda937873ce6d127c91e792143b91eb86543cc2", func := "mallow/mallowlaw20.CacheFills", spec := "cacheFills", inPlace := ["math/bits.Add64", "math.Float64frombits"], unfollowed := true, recurses := true, named := ["math/bits.deBruijn64tab"], plainKeys := false, apart := false, laid := [("math/bits.deBruijn64tab", laid_math_bits_deBruijn64tab)], narrowed := true }
def CacheFillsUptoSaid : Prop := cacheFillsUptoRow.holds Tryz.pinned (OpenSpec.upto cacheFillsSpec)

end Rows
end Go.Proofs.YtnkkjmcimhjnhaaGreatDoor
