/- Each shallow form is what the code of its function comes to, piece 2. No further condition. -/
import Derived.Test.YtbmbflhcebdjgaaGreatDoorT
import Derived.Test.YtbmbflhcebdjgaaGreatDoorProg
import Derived.KernelRfl
import Derived.Test.YtbmbflhcebdjgaaGreatDoorS
import Derived.Test.YtbmbflhcebdjgaaGreatDoorA
import Derived.Calls
set_option linter.all false
set_option maxRecDepth 100000
set_option maxHeartbeats 4000000
namespace Go.Sh
open Go.Proofs
def G10 (c : Y16) : Sem [.one (.ptr), .one (.int .u64)] := fun x K Kp w => c x.1 x.2.1 (fun r1 w' => K (.int .u64 r1) w') w
def ann10 : Ann := { loops := [(2, [(5, .one (.int .u64))])], joins := [] }
theorem Z10 (c0 : Y41) (c1 : Y17) : Tie Tryz.prog [(34, ent (G34 c0)), (35, ent (G35 c1))] ann10 Tryz.f10 (G10 (T0.mheap_Heap_Scavenge env c0 c1)) := fun x K Kp w => by kernel_rfl
theorem fits10 : FitsOne Tryz.prog 10 (ent (G10 (F.mheap_Heap_Scavenge env))) := fits_of (fits_cons fits34 (fits_cons fits35 fits_nil)) mixed Tryz.func10 Tryz.call10 (by kernel_rfl) (by kernel_rfl) (by kernel_rfl) (Z10 _ _)
def G101 (c : Y9) : Sem [.one (.int .u32)] := fun x K Kp w => c x.1 (fun r1 w' => K (.int .i64 r1) w') w
def ann101 : Ann := { loops := [], joins := [(4, [(0, .one (.int .u32)), (2, .one (.int .i64))]), (7, [(0, .one (.int .u32)), (2, .one (.int .i64))])] }
theorem Z101 : Tie Tryz.prog [] ann101 Tryz.f101 (G101 (F.math_bits_Len32 env)) := fun x K Kp w => by kernel_rfl
theorem fits101 : FitsOne Tryz.prog 101 (ent (G101 (F.math_bits_Len32 env))) := fits_of fits_nil mixed Tryz.func101 Tryz.call101 (by kernel_rfl) (by kernel_rfl) (by kernel_rfl) (Z101)
def G102 (c : Y9) : Sem [.one (.int .u64)] := fun x K Kp w => c x.1 (fun r1 w' => K (.int .i64 r1) w') w
def ann102 : Ann := { loops := [], joins := [(4, [(0, .one (.int .u64)), (2, .one (.int .i64))]), (7, [(0, .one (.int .u64)), (2, .one (.int .i64))]), (10, [(0, .one (.int .u64)), (2, .one (.int .i64))])] }
theorem Z102 : Tie Tryz.prog [] ann102 Tryz.f102 (G102 (F.math_bits_Len64 env)) := fun x K Kp w => by kernel_rfl
theorem fits102 : FitsOne Tryz.prog 102 (ent (G102 (F.math_bits_Len64 env))) := fits_of fits_nil mixed Tryz.func102 Tryz.call102 (by kernel_rfl) (by kernel_rfl) (by kernel_rfl) (Z102)
def G74 (c : Y9) : Sem [.one (.int .u64)] := fun x K Kp w => c x.1 (fun r1 w' => K (.int .i64 r1) w') w
theorem Z74 (c0 : Y9) : Tie Tryz.prog [(101, ent (G101 (F.math_bits_Len32 env))), (102, ent (G102 c0))] ann0 Tryz.f74 (G74 (T0.math_bits_Len env c0)) := fun x K Kp w => by kernel_rfl
theorem fits74 : FitsOne Tryz.prog 74 (ent (G74 (F.math_bits_Len env))) := fits_of (fits_cons fits101 (fits_cons fits102 fits_nil)) mixed Tryz.func74 Tryz.call74 (by kernel_rfl) (by kernel_rfl) (by kernel_rfl) (Z74 _)
def G93 (c : Y44) : Sem [.one (.sl), .one (.int .i64), .one (.int .i64), .one (.any)] := fun x K Kp w => c x.1 x.2.1 x.2.2.1 x.2.2.2.1 (fun  w' => K (.tuple ⟨[]⟩) w') w
noncomputable def C93 : Entry := ent (G93 (F.slices_insertionSortCmpFunc_int_ env))
def ann93 : Ann := { loops := [(1, [(8, .one (.int .i64))]), (4, [(9, .one (.int .i64))])], joins := [] }
theorem Z93 : Tie Tryz.prog [] ann93 Tryz.f93 (G93 (F.slices_insertionSortCmpFunc_int_ env)) := fun x K Kp w => by kernel_rfl
theorem fits93 : FitsOne Tryz.prog 93 (ent (G93 (F.slices_insertionSortCmpFunc_int_ env))) := fits_of fits_nil mixed Tryz.func93 Tryz.call93 (by kernel_rfl) (by kernel_rfl) (by kernel_rfl) (Z93)
def G113 (c : Y43) : Sem [.one (.sl), .one (.int .i64), .one (.int .i64), .one (.int .i64), .one (.any)] := fun x K Kp w => c x.1 x.2.1 x.2.2.1 x.2.2.2.1 x.2.2.2.2.1 (fun  w' => K (.tuple ⟨[]⟩) w') w
def ann113 : Ann := { loops := [(1, [(10, .one (.int .i64))])], joins := [(4, [(40, .one (.bool))]), (5, [(11, .one (.int .i64))])] }
theorem Z113 : Tie Tryz.prog [] ann113 Tryz.f113 (G113 (F.slices_siftDownCmpFunc_int_ env)) := fun x K Kp w => by kernel_rfl
theorem fits113 : FitsOne Tryz.prog 113 (ent (G113 (F.slices_siftDownCmpFunc_int_ env))) := fits_of fits_nil mixed Tryz.func113 Tryz.call113 (by kernel_rfl) (by kernel_rfl) (by kernel_rfl) (Z113)
def G94 (c : Y44) : Sem [.one (.sl), .one (.int .i64), .one (.int .i64), .one (.any)] := fun x K Kp w => c x.1 x.2.1 x.2.2.1 x.2.2.2.1 (fun  w' => K (.tuple ⟨[]⟩) w') w
noncomputable def C94 : Entry := ent (G94 (F.slices_heapSortCmpFunc_int_ env))
def ann94 : Ann := { loops := [(4, [(11, .one (.int .i64))]), (8, [(12, .one (.int .i64))])], joins := [] }
theorem Z94 (c0 : Y43) : Tie Tryz.prog [(113, ent (G113 c0))] ann94 Tryz.f94 (G94 (T0.slices_heapSortCmpFunc_int_ env c0)) := fun x K Kp w => by kernel_rfl
theorem fits94 : FitsOne Tryz.prog 94 (ent (G94 (F.slices_heapSortCmpFunc_int_ env))) := fits_of (fits_cons fits113 fits_nil) mixed Tryz.func94 Tryz.call94 (by kernel_rfl) (by kernel_rfl) (by kernel_rfl) (Z94 _)
def G114 (c : Y9) : Sem [.one (.int .i64)] := fun x K Kp w => c x.1 (fun r1 w' => K (.int .u64 r1) w') w
theorem Z114 (c0 : Y9) : Tie Tryz.prog [(74, ent (G74 c0))] ann0 Tryz.f114 (G114 (T0.slices_nextPowerOfTwo env c0)) := fun x K Kp w => by kernel_rfl
theorem fits114 : FitsOne Tryz.prog 114 (ent (G114 (F.slices_nextPowerOfTwo env))) := fits_of (fits_cons fits74 fits_nil) mixed Tryz.func114 Tryz.call114 (by kernel_rfl) (by kernel_rfl) (by kernel_rfl) (Z114 _)
def G115 (c : Y34) : Sem [.one (.ptr)] := fun x K Kp w => c x.1 (fun r1 w' => K (.int .u64 r1) w') w
theorem Z115 : Tie Tryz.prog [] ann0 Tryz.f115 (G115 (F.slices_xorshift_Next env)) := fun x K Kp w => by kernel_rfl
theorem fits115 : FitsOne Tryz.prog 115 (ent (G115 (F.slices_xorshift_Next env))) := fits_of fits_nil mixed Tryz.func115 Tryz.call115 (by kernel_rfl) (by kernel_rfl) (by kernel_rfl) (Z115)
def G95 (c : Y44) : Sem [.one (.sl), .one (.int .i64), .one (.int .i64), .one (.any)] := fun x K Kp w => c x.1 x.2.1 x.2.2.1 x.2.2.2.1 (fun  w' => K (.tuple ⟨[]⟩) w') w
noncomputable def C95 : Entry := ent (G95 (F.slices_breakPatternsCmpFunc_int_ env))
def ann95 : Ann := { loops := [(5, [(11, .one (.int .i64))])], joins := [(10, [(12, .one (.int .i64))])] }
theorem Z95 (c0 : Y9) (c1 : Y34) : Tie Tryz.prog [(114, ent (G114 c0)), (115, ent (G115 c1))] ann95 Tryz.f95 (G95 (T0.slices_breakPatternsCmpFunc_int_ env c0 c1)) := fun x K Kp w => by kernel_rfl
theorem fits95 : FitsOne Tryz.prog 95 (ent (G95 (F.slices_breakPatternsCmpFunc_int_ env))) := fits_of (fits_cons fits114 (fits_cons fits115 fits_nil)) mixed Tryz.func95 Tryz.call95 (by kernel_rfl) (by kernel_rfl) (by kernel_rfl) (Z95 _ _)
def G119 (c : Y45) : Sem [.one (.sl), .one (.int .i64), .one (.int .i64), .one (.ptr), .one (.any)] := fun x K Kp w => c x.1 x.2.1 x.2.2.1 x.2.2.2.1 x.2.2.2.2.1 (fun r1 r2 w' => K (.tuple ⟨[.int .i64 r1, .int .i64 r2]⟩) w') w
theorem Z119 : Tie Tryz.prog [] ann0 Tryz.f119 (G119 (F.slices_order2CmpFunc_int_ env)) := fun x K Kp w => by kernel_rfl
theorem fits119 : FitsOne Tryz.prog 119 (ent (G119 (F.slices_order2CmpFunc_int_ env))) := fits_of fits_nil mixed Tryz.func119 Tryz.call119 (by kernel_rfl) (by kernel_rfl) (by kernel_rfl) (Z119)
def G117 (c : Y46) : Sem [.one (.sl), .one (.int .i64), .one (.int .i64), .one (.int .i64), .one (.ptr), .one (.any)] := fun x K Kp w => c x.1 x.2.1 x.2.2.1 x.2.2.2.1 x.2.2.2.2.1 x.2.2.2.2.2.1 (fun r1 w' => K (.int .i64 r1) w') w
theorem Z117 (c0 : Y45) : Tie Tryz.prog [(119, ent (G119 c0))] ann0 Tryz.f117 (G117 (T0.slices_medianCmpFunc_int_ env c0)) := fun x K Kp w => by kernel_rfl
theorem fits117 : FitsOne Tryz.prog 117 (ent (G117 (F.slices_medianCmpFunc_int_ env))) := fits_of (fits_cons fits119 fits_nil) mixed Tryz.func117 Tryz.call117 (by kernel_rfl) (by kernel_rfl) (by kernel_rfl) (Z117 _)
def G116 (c : Y47) : Sem [.one (.sl), .one (.int .i64), .one (.ptr), .one (.any)] := fun x K Kp w => c x.1 x.2.1 x.2.2.1 x.2.2.2.1 (fun r1 w' => K (.int .i64 r1) w') w
theorem Z116 (c0 : Y46) : Tie Tryz.prog [(117, ent (G117 c0))] ann0 Tryz.f116 (G116 (T0.slices_medianAdjacentCmpFunc_int_ env c0)) := fun x K Kp w => by kernel_rfl
theorem fits116 : FitsOne Tryz.prog 116 (ent (G116 (F.slices_medianAdjacentCmpFunc_int_ env))) := fits_of (fits_cons fits117 fits_nil) mixed Tryz.func116 Tryz.call116 (by kernel_rfl) (by kernel_rfl) (by kernel_rfl) (Z116 _)
def G96 (c : Y48) : Sem [.one (.sl), .one (.int .i64), .one (.int .i64), .one (.any)] := fun x K Kp w => c x.1 x.2.1 x.2.2.1 x.2.2.2.1 (fun r1 r2 w' => K (.tuple ⟨[.int .i64 r1, .int .i64 r2]⟩) w') w
noncomputable def C96 : Entry := ent (G96 (F.slices_choosePivotCmpFunc_int_ env))
def ann96 : Ann := { loops := [], joins := [(11, [(12, .one (.int .i64)), (13, .one (.int .i64)), (14, .one (.int .i64))]), (12, [(13, .one (.int .i64))])] }
theorem Z96 (c0 : Y47) (c1 : Y46) : Tie Tryz.prog [(116, ent (G116 c0)), (117, ent (G117 c1))] ann96 Tryz.f96 (G96 (T0.slices_choosePivotCmpFunc_int_ env c0 c1)) := fun x K Kp w => by kernel_rfl
theorem fits96 : FitsOne Tryz.prog 96 (ent (G96 (F.slices_choosePivotCmpFunc_int_ env))) := fits_of (fits_cons fits116 (fits_cons fits117 fits_nil)) mixed Tryz.func96 Tryz.call96 (by kernel_rfl) (by kernel_rfl) (by kernel_rfl) (Z96 _ _)
def G97 (c : Y44) : Sem [.one (.sl), .one (.int .i64), .one (.int .i64), .one (.any)] := fun x K Kp w => c x.1 x.2.1 x.2.2.1 x.2.2.2.1 (fun  w' => K (.tuple ⟨[]⟩) w') w
noncomputable def C97 : Entry := ent (G97 (F.slices_reverseRangeCmpFunc_int_ env))
def ann97 : Ann := { loops := [(2, [(8, .one (.int .i64)), (9, .one (.int .i64))])], joins := [] }
theorem Z97 : Tie Tryz.prog [] ann97 Tryz.f97 (G97 (F.slices_reverseRangeCmpFunc_int_ env)) := fun x K Kp w => by kernel_rfl
theorem fits97 : FitsOne Tryz.prog 97 (ent (G97 (F.slices_reverseRangeCmpFunc_int_ env))) := fits_of fits_nil mixed Tryz.func97 Tryz.call97 (by kernel_rfl) (by kernel_rfl) (by kernel_rfl) (Z97)
def G98 (c : Y58) : Sem [.one (.sl), .one (.int .i64), .one (.int .i64), .one (.any)] := fun x K Kp w => c x.1 x.2.1 x.2.2.1 x.2.2.2.1 (fun r1 w' => K (.bool r1) w') w
noncomputable def C98 : Entry := ent (G98 (F.slices_partialInsertionSortCmpFunc_int_ env))
def ann98 : Ann := { loops := [(3, [(9, .one (.int .i64)), (10, .one (.int .i64))]), (5, [(9, .one (.int .i64))]), (14, [(11, .one (.int .i64))]), (20, [(12, .one (.int .i64))])], joins := [(7, [(9, .one (.int .i64))]), (18, [])] }
theorem Z98 : Tie Tryz.prog [] ann98 Tryz.f98 (G98 (F.slices_partialInsertionSortCmpFunc_int_ env)) := fun x K Kp w => by kernel_rfl
theorem fits98 : FitsOne Tryz.prog 98 (ent (G98 (F.slices_partialInsertionSortCmpFunc_int_ env))) := fits_of fits_nil mixed Tryz.func98 Tryz.call98 (by kernel_rfl) (by kernel_rfl) (by kernel_rfl) (Z98)
def G99 (c : Y59) : Sem [.one (.sl), .one (.int .i64), .one (.int .i64), .one (.int .i64), .one (.any)] := fun x K Kp w => c x.1 x.2.1 x.2.2.1 x.2.2.2.1 x.2.2.2.2.1 (fun r1 w' => K (.int .i64 r1) w') w
noncomputable def C99 : Entry := ent (G99 (F.slices_partitionEqualCmpFunc_int_ env))
def ann99 : Ann := { loops := [(3, [(11, .one (.int .i64)), (12, .one (.int .i64))]), (5, [(12, .one (.int .i64))])], joins := [(5, [(11, .one (.int .i64))]), (7, [(12, .one (.int .i64))])] }
theorem Z99 : Tie Tryz.prog [] ann99 Tryz.f99 (G99 (F.slices_partitionEqualCmpFunc_int_ env)) := fun x K Kp w => by kernel_rfl
theorem fits99 : FitsOne Tryz.prog 99 (ent (G99 (F.slices_partitionEqualCmpFunc_int_ env))) := fits_of fits_nil mixed Tryz.func99 Tryz.call99 (by kernel_rfl) (by kernel_rfl) (by kernel_rfl) (Z99)
def G100 (c : Y60) : Sem [.one (.sl), .one (.int .i64), .one (.int .i64), .one (.int .i64), .one (.any)] := fun x K Kp w => c x.1 x.2.1 x.2.2.1 x.2.2.2.1 x.2.2.2.2.1 (fun r1 r2 w' => K (.tuple ⟨[.int .i64 r1, .bool r2]⟩) w') w
noncomputable def C100 : Entry := ent (G100 (F.slices_partitionCmpFunc_int_ env))
def ann100 : Ann := { loops := [(3, [(12, .one (.int .i64))]), (5, [(13, .one (.int .i64))]), (13, [(12, .one (.int .i64)), (13, .one (.int .i64))]), (15, [(13, .one (.int .i64))])], joins := [(5, [(12, .one (.int .i64))]), (7, [(13, .one (.int .i64))]), (15, [(12, .one (.int .i64))]), (17, [(13, .one (.int .i64))])] }
theorem Z100 : Tie Tryz.prog [] ann100 Tryz.f100 (G100 (F.slices_partitionCmpFunc_int_ env)) := fun x K Kp w => by kernel_rfl
theorem fits100 : FitsOne Tryz.prog 100 (ent (G100 (F.slices_partitionCmpFunc_int_ env))) := fits_of fits_nil mixed Tryz.func100 Tryz.call100 (by kernel_rfl) (by kernel_rfl) (by kernel_rfl) (Z100)
noncomputable def Cn73 (n : Nat) : Entry := fun args w K Kp => unArgs [.one (.sl), .one (.int .i64), .one (.int .i64), .one (.int .i64), .one (.any)] args.toList fun x => F.slices_pdqsortCmpFunc_int_ env n x.1 x.2.1 x.2.2.1 x.2.2.2.1 x.2.2.2.2.1 (fun  w' => K (.tuple ⟨[]⟩) w') w
noncomputable def C73 : Entry := fun args w K Kp => ∃ n, Cn73 n args w K Kp
noncomputable def body73 : Code := (Tryz.f73.body).getD .skip
def ann73 : Ann := { loops := [(2, [(1, .one (.int .i64)), (2, .one (.int .i64)), (3, .one (.int .i64)), (10, .one (.bool)), (11, .one (.bool))])], joins := [(10, [(3, .one (.int .i64))]), (15, [(13, .one (.int .i64)), (14, .one (.int .i64))]), (16, [(75, .one (.bool))]), (17, []), (18, [(97, .one (.bool))])] }
theorem tie73 (n : Nat) (x : ArgsV [.one (.sl), .one (.int .i64), .one (.int .i64), .one (.int .i64), .one (.any)]) (K Kp : Value -> World -> Prop) (w : World) : F.slices_pdqsortCmpFunc_int_ env (n + 1) x.1 x.2.1 x.2.2.1 x.2.2.2.1 x.2.2.2.2.1 (fun  w' => K (.tuple ⟨[]⟩) w') w =
 ev Tryz.prog (tabC [(93, C93), (94, C94), (95, C95), (96, C96), (97, C97), (98, C98), (99, C99), (100, C100), (73, Cn73 n)]) (ground Tryz.prog) ann73 body73 (finQ Tryz.prog Tryz.f73 K Kp) (initF (mkArgs [.one (.sl), .one (.int .i64), .one (.int .i64), .one (.int .i64), .one (.any)] x)) w := by kernel_rfl
theorem fitsN73 (n : Nat) : FitsOne Tryz.prog 73 (Cn73 n) := by
 induction n with
 | zero => intro args w K Kp h; obtain ⟨x, _, h⟩ := unArgs_elim h; exact h.elim
 | succ n ih => exact fits_of_tie (T := [(93, C93), (94, C94), (95, C95), (96, C96), (97, C97), (98, C98), (99, C99), (100, C100), (73, Cn73 n)]) (A := ann73) (fn := Tryz.f73) (c := body73) (fits_cons fits93 (fits_cons fits94 (fits_cons fits95 (fits_cons fits96 (fits_cons fits97 (fits_cons fits98 (fits_cons fits99 (fits_cons fits100 (fits_cons ih fits_nil))))))))) mixed Tryz.func73 Tryz.call73 (by kernel_rfl) (by kernel_rfl) (by kernel_rfl) (tie73 n)
theorem fits73 : FitsOne Tryz.prog 73 C73 := fits_some fitsN73
def G36 (c : Y49) : Sem [.one (.sl), .one (.any)] := fun x K Kp w => c x.1 x.2.1 (fun  w' => K (.tuple ⟨[]⟩) w') w
theorem Z36 (c0 : Y9) : Tie Tryz.prog [(74, ent (G74 c0)), (73, C73)] ann0 Tryz.f36 (G36 (T0.slices_SortFunc___int_int_ env c0)) := fun x K Kp w => by kernel_rfl
theorem fits36 : FitsOne Tryz.prog 36 (ent (G36 (F.slices_SortFunc___int_int_ env))) := fits_of (fits_cons fits74 (fits_cons fits73 fits_nil)) mixed Tryz.func36 Tryz.call36 (by kernel_rfl) (by kernel_rfl) (by kernel_rfl) (Z36 _)
def G11 (c : Y13) : Sem [.one (.ptr)] := fun x K Kp w => c x.1 (fun r1 w' => K (.slice r1.base r1.len r1.cap) w') w
def ann11 : Ann := { loops := [(3, [(3, .one (.sl))])], joins := [(4, [(11, .one (.bool))])] }
theorem Z11 (c0 : Y49) : Tie Tryz.prog [(36, ent (G36 c0))] ann11 Tryz.f11 (G11 (T0.mheap_Heap_Spans env c0)) := fun x K Kp w => by kernel_rfl
theorem fits11 : FitsOne Tryz.prog 11 (ent (G11 (F.mheap_Heap_Spans env))) := fits_of (fits_cons fits36 fits_nil) mixed Tryz.func11 Tryz.call11 (by kernel_rfl) (by kernel_rfl) (by kernel_rfl) (Z11 _)
def G12 (c : Y53) : Sem [.one (.ptr), .one (.int .i64)] := fun x K Kp w => c x.1 x.2.1 (fun r1 r2 w' => K (.tuple ⟨[.pointer r1, .int .i64 r2]⟩) w') w
theorem Z12 : Tie Tryz.prog [] ann0 Tryz.f12 (G12 (F.mheap_Heap_Span env)) := fun x K Kp w => by kernel_rfl
theorem fits12 : FitsOne Tryz.prog 12 (ent (G12 (F.mheap_Heap_Span env))) := fits_of fits_nil mixed Tryz.func12 Tryz.call12 (by kernel_rfl) (by kernel_rfl) (by kernel_rfl) (Z12)
def G14 (c : Y5) : Sem [.one (.ptr)] := fun x K Kp w => c x.1 (fun r1 w' => K (.pointer r1) w') w
theorem Z14 : Tie Tryz.prog [] ann0 Tryz.f14 (G14 (F.mheap_Heap_Mem env)) := fun x K Kp w => by kernel_rfl
theorem fits14 : FitsOne Tryz.prog 14 (ent (G14 (F.mheap_Heap_Mem env))) := fits_of fits_nil mixed Tryz.func14 Tryz.call14 (by kernel_rfl) (by kernel_rfl) (by kernel_rfl) (Z14)
def G39 (c : Y38) : Sem [.one (.ptr), .one (.int .u64)] := fun x K Kp w => c x.1 x.2.1 (fun r1 w' => K (.bool r1) w') w
theorem Z39 (c0 : Y16) : Tie Tryz.prog [(76, ent (G76 c0))] ann0 Tryz.f39 (G39 (T0.stretch_Set_Has env c0)) := fun x K Kp w => by kernel_rfl
theorem fits39 : FitsOne Tryz.prog 39 (ent (G39 (F.stretch_Set_Has env))) := fits_of (fits_cons fits76 fits_nil) mixed Tryz.func39 Tryz.call39 (by kernel_rfl) (by kernel_rfl) (by kernel_rfl) (Z39 _)
def G15 (c : Y16) : Sem [.one (.ptr), .one (.int .u64)] := fun x K Kp w => c x.1 x.2.1 (fun r1 w' => K (.int .i64 r1) w') w
theorem Z15 (c0 : Y38) : Tie Tryz.prog [(39, ent (G39 c0))] ann0 Tryz.f15 (G15 (T0.vmem_Mem_State env c0)) := fun x K Kp w => by kernel_rfl
theorem fits15 : FitsOne Tryz.prog 15 (ent (G15 (F.vmem_Mem_State env))) := fits_of (fits_cons fits39 fits_nil) mixed Tryz.func15 Tryz.call15 (by kernel_rfl) (by kernel_rfl) (by kernel_rfl) (Z15 _)
def G40 (c : Y38) : Sem [.one (.ptr), .one (.int .u64)] := fun x K Kp w => c x.1 x.2.1 (fun r1 w' => K (.bool r1) w') w
theorem Z40 (c0 : Y38) : Tie Tryz.prog [(39, ent (G39 c0))] ann0 Tryz.f40 (G40 (T0.arena_Map_Has env c0)) := fun x K Kp w => by kernel_rfl
theorem fits40 : FitsOne Tryz.prog 40 (ent (G40 (F.arena_Map_Has env))) := fits_of (fits_cons fits39 fits_nil) mixed Tryz.func40 Tryz.call40 (by kernel_rfl) (by kernel_rfl) (by kernel_rfl) (Z40 _)
def G78 (c : Y16) : Sem [.one (.ptr), .one (.int .u64)] := fun x K Kp w => c x.1 x.2.1 (fun r1 w' => K (.int .i64 r1) w') w
def ann78 : Ann := { loops := [(2, [(12, .one (.int .i64))])], joins := [(5, [(25, .one (.bool))])] }
theorem Z78 : Tie Tryz.prog [] ann78 Tryz.f78 (G78 (F.arena_Map_whole env)) := fun x K Kp w => by kernel_rfl
theorem fits78 : FitsOne Tryz.prog 78 (ent (G78 (F.arena_Map_whole env))) := fits_of fits_nil mixed Tryz.func78 Tryz.call78 (by kernel_rfl) (by kernel_rfl) (by kernel_rfl) (Z78)
def G42 (c : Y16) : Sem [.one (.ptr), .one (.int .u64)] := fun x K Kp w => c x.1 x.2.1 (fun r1 w' => K (.int .i64 r1) w') w
theorem Z42 (c0 : Y16) : Tie Tryz.prog [(78, ent (G78 c0))] ann0 Tryz.f42 (G42 (T0.arena_Map_At env c0)) := fun x K Kp w => by kernel_rfl
theorem fits42 : FitsOne Tryz.prog 42 (ent (G42 (F.arena_Map_At env))) := fits_of (fits_cons fits78 fits_nil) mixed Tryz.func42 Tryz.call42 (by kernel_rfl) (by kernel_rfl) (by kernel_rfl) (Z42 _)
def G17 (c : Y16) : Sem [.one (.ptr), .one (.int .u64)] := fun x K Kp w => c x.1 x.2.1 (fun r1 w' => K (.int .i64 r1) w') w
theorem Z17 (c0 : Y16) : Tie Tryz.prog [(42, ent (G42 c0))] ann0 Tryz.f17 (G17 (T0.mheap_Heap_Of env c0)) := fun x K Kp w => by kernel_rfl
theorem fits17 : FitsOne Tryz.prog 17 (ent (G17 (F.mheap_Heap_Of env))) := fits_of (fits_cons fits42 fits_nil) mixed Tryz.func17 Tryz.call17 (by kernel_rfl) (by kernel_rfl) (by kernel_rfl) (Z17 _)
def G41 (c : Y50) : Sem [.one (.ptr)] := fun x K Kp w => c x.1 (fun r1 r2 r3 w' => K (.tuple ⟨[.int .u64 r1, .int .u64 r2, .int .u64 r3]⟩) w') w
theorem Z41 (c0 : Y21) : Tie Tryz.prog [(77, ent (G77 c0))] ann0 Tryz.f41 (G41 (T0.pcache_Cache_Tell env c0)) := fun x K Kp w => by kernel_rfl
theorem fits41 : FitsOne Tryz.prog 41 (ent (G41 (F.pcache_Cache_Tell env))) := fits_of (fits_cons fits77 fits_nil) mixed Tryz.func41 Tryz.call41 (by kernel_rfl) (by kernel_rfl) (by kernel_rfl) (Z41 _)
def G16 (c : Y41) : Sem [.one (.ptr), .one (.int .u64)] := fun x K Kp w => c x.1 x.2.1 (fun r1 r2 w' => K (.tuple ⟨[.int .i64 r1, .int .i64 r2]⟩) w') w
def ann16 : Ann := { loops := [(7, [(35, .one (.int .i64))])], joins := [(2, [(23, .one (.bool))]), (11, [(62, .one (.bool))])] }
theorem Z16 (c0 : Y38) (c1 : Y16) (c2 : Y50) : Tie Tryz.prog [(40, ent (G40 c0)), (17, ent (G17 c1)), (41, ent (G41 c2))] ann16 Tryz.f16 (G16 (T0.mheap_Heap_Owner env c0 c1 c2)) := fun x K Kp w => by kernel_rfl
theorem fits16 : FitsOne Tryz.prog 16 (ent (G16 (F.mheap_Heap_Owner env))) := fits_of (fits_cons fits40 (fits_cons fits17 (fits_cons fits41 fits_nil))) mixed Tryz.func16 Tryz.call16 (by kernel_rfl) (by kernel_rfl) (by kernel_rfl) (Z16 _ _ _)
def G45 (c : Y34) : Sem [.one (.ptr)] := fun x K Kp w => c x.1 (fun r1 w' => K (.int .u64 r1) w') w
theorem Z45 : Tie Tryz.prog [] ann0 Tryz.f45 (G45 (F.stretch_Set_Sum env)) := fun x K Kp w => by kernel_rfl
theorem fits45 : FitsOne Tryz.prog 45 (ent (G45 (F.stretch_Set_Sum env))) := fits_of fits_nil mixed Tryz.func45 Tryz.call45 (by kernel_rfl) (by kernel_rfl) (by kernel_rfl) (Z45)
def G43 (c : Y34) : Sem [.one (.ptr)] := fun x K Kp w => c x.1 (fun r1 w' => K (.int .u64 r1) w') w
theorem Z43 (c0 : Y34) : Tie Tryz.prog [(45, ent (G45 c0))] ann0 Tryz.f43 (G43 (T0.radix_Tree_Released env c0)) := fun x K Kp w => by kernel_rfl
theorem fits43 : FitsOne Tryz.prog 43 (ent (G43 (F.radix_Tree_Released env))) := fits_of (fits_cons fits45 fits_nil) mixed Tryz.func43 Tryz.call43 (by kernel_rfl) (by kernel_rfl) (by kernel_rfl) (Z43 _)
def G44 (c : Y34) : Sem [.one (.ptr)] := fun x K Kp w => c x.1 (fun r1 w' => K (.int .u64 r1) w') w
theorem Z44 (c0 : Y34) : Tie Tryz.prog [(45, ent (G45 c0))] ann0 Tryz.f44 (G44 (T0.arena_Map_Count env c0)) := fun x K Kp w => by kernel_rfl
theorem fits44 : FitsOne Tryz.prog 44 (ent (G44 (F.arena_Map_Count env))) := fits_of (fits_cons fits45 fits_nil) mixed Tryz.func44 Tryz.call44 (by kernel_rfl) (by kernel_rfl) (by kernel_rfl) (Z44 _)
def G18 (c : Y50) : Sem [.one (.ptr)] := fun x K Kp w => c x.1 (fun r1 r2 r3 w' => K (.tuple ⟨[.int .u64 r1, .int .u64 r2, .int .u64 r3]⟩) w') w
def ann18 : Ann := { loops := [(3, [(5, .one (.int .u64)), (20, .one (.int .i64))]), (6, [(5, .one (.int .u64)), (10, .one (.int .u64))])], joins := [] }
theorem Z18 (c0 : Y34) (c1 : Y50) (c2 : Y34) : Tie Tryz.prog [(43, ent (G43 c0)), (41, ent (G41 c1)), (44, ent (G44 c2))] ann18 Tryz.f18 (G18 (T0.mheap_Heap_Pages env c0 c1 c2)) := fun x K Kp w => by kernel_rfl
theorem fits18 : FitsOne Tryz.prog 18 (ent (G18 (F.mheap_Heap_Pages env))) := fits_of (fits_cons fits43 (fits_cons fits41 (fits_cons fits44 fits_nil))) mixed Tryz.func18 Tryz.call18 (by kernel_rfl) (by kernel_rfl) (by kernel_rfl) (Z18 _ _ _)
def G19 (c : Y16) : Sem [.one (.ptr), .one (.int .i64)] := fun x K Kp w => c x.1 x.2.1 (fun r1 w' => K (.int .u64 r1) w') w
theorem Z19 (c0 : Y34) : Tie Tryz.prog [(45, ent (G45 c0))] ann0 Tryz.f19 (G19 (T0.vmem_Mem_Count env c0)) := fun x K Kp w => by kernel_rfl
theorem fits19 : FitsOne Tryz.prog 19 (ent (G19 (F.vmem_Mem_Count env))) := fits_of (fits_cons fits45 fits_nil) mixed Tryz.func19 Tryz.call19 (by kernel_rfl) (by kernel_rfl) (by kernel_rfl) (Z19 _)
def G20 (c : Y51) : Sem [] := fun x K Kp w => c  (fun r1 w' => K (.bool r1) w') w
theorem Z20 (c0 : Y1) (c1 : Y5) (c2 : Y36) (c3 : Y41) (c4 : Y50) (c5 : Y16) : Tie Tryz.prog [(21, ent (G21 c0)), (23, ent (G23 c1)), (6, ent (G6 c2)), (16, ent (G16 c3)), (18, ent (G18 c4)), (17, ent (G17 c5))] ann0 Tryz.f20 (G20 (T0.mallowlaw16_awake env c0 c1 c2 c3 c4 c5)) := fun x K Kp w => by kernel_rfl
theorem fits20 : FitsOne Tryz.prog 20 (ent (G20 (F.mallowlaw16_awake env))) := fits_of (fits_cons fits21 (fits_cons fits23 (fits_cons fits6 (fits_cons fits16 (fits_cons fits18 (fits_cons fits17 fits_nil)))))) mixed Tryz.func20 Tryz.call20 (by kernel_rfl) (by kernel_rfl) (by kernel_rfl) (Z20 _ _ _ _ _ _)
def G3 (c : Y54) : Sem [.agg [.sl, .sl, .sl], .one (.sl), .one (.int .u64)] := fun x K Kp w => c x.1.1 x.1.2.1 x.1.2.2.1 x.2.1 x.2.2.1 (fun r1 w' => K (.bool r1) w') w
def ann3 : Ann := { loops := [(7, [(8, .one (.int .i64))]), (25, [(10, .one (.int .u64)), (12, .one (.int .u64)), (13, .one (.int .i64))]), (36, [(17, .one (.int .u64))])], joins := [(29, [(131, .one (.bool))]), (32, [(157, .one (.bool))]), (39, [(189, .one (.bool))]), (43, [(222, .one (.bool))]), (46, [(252, .one (.bool))])] }
theorem Z3 (c0 : Y52) (c1 : Y1) (c2 : Y36) (c3 : Y20) (c4 : Y16) (c5 : Y40) (c6 : Y16) (c7 : Y13) (c8 : Y53) (c9 : Y35) (c10 : Y5) (c11 : Y16) (c12 : Y41) (c13 : Y16) (c14 : Y50) (c15 : Y16) (c16 : Y51) : Tie Tryz.prog [(4, ent (G4 c0)), (5, ent (G5 c1)), (6, ent (G6 c2)), (7, ent (G7 c3)), (8, ent (G8 c4)), (9, ent (G9 c5)), (10, ent (G10 c6)), (11, ent (G11 c7)), (12, ent (G12 c8)), (13, ent (G13 c9)), (14, ent (G14 c10)), (15, ent (G15 c11)), (16, ent (G16 c12)), (17, ent (G17 c13)), (18, ent (G18 c14)), (19, ent (G19 c15)), (20, ent (G20 c16))] ann3 Tryz.f3 (G3 (T0.mallowlaw16_HeapOwners env c0 c1 c2 c3 c4 c5 c6 c7 c8 c9 c10 c11 c12 c13 c14 c15 c16)) := fun x K Kp w => by kernel_rfl
theorem fits3 : FitsOne Tryz.prog 3 (ent (G3 (F.mallowlaw16_HeapOwners env))) := fits_of (fits_cons fits4 (fits_cons fits5 (fits_cons fits6 (fits_cons fits7 (fits_cons fits8 (fits_cons fits9 (fits_cons fits10 (fits_cons fits11 (fits_cons fits12 (fits_cons fits13 (fits_cons fits14 (fits_cons fits15 (fits_cons fits16 (fits_cons fits17 (fits_cons fits18 (fits_cons fits19 (fits_cons fits20 fits_nil))))))))))))))))) mixed Tryz.func3 Tryz.call3 (by kernel_rfl) (by kernel_rfl) (by kernel_rfl) (Z3 _ _ _ _ _ _ _ _ _ _ _ _ _ _ _ _ _)
def G75 (c : Y7) : Sem [.one (.int .u64)] := fun x K Kp w => c x.1 (fun r1 w' => K (.bool r1) w') w
theorem Z75 : Tie Tryz.prog [] ann0 Tryz.f75 (G75 (F.cmp_isNaN_uint64_ env)) := fun x K Kp w => by kernel_rfl
theorem fits75 : FitsOne Tryz.prog 75 (ent (G75 (F.cmp_isNaN_uint64_ env))) := fits_of fits_nil mixed Tryz.func75 Tryz.call75 (by kernel_rfl) (by kernel_rfl) (by kernel_rfl) (Z75)
def G38 (c : Y8) : Sem [.one (.int .u64), .one (.int .u64)] := fun x K Kp w => c x.1 x.2.1 (fun r1 w' => K (.int .i64 r1) w') w
theorem Z38 (c0 : Y7) : Tie Tryz.prog [(75, ent (G75 c0))] ann0 Tryz.f38 (G38 (T0.cmp_Compare_uint64_ env c0)) := fun x K Kp w => by kernel_rfl
theorem fits38 : FitsOne Tryz.prog 38 (ent (G38 (F.cmp_Compare_uint64_ env))) := fits_of (fits_cons fits75 fits_nil) mixed Tryz.func38 Tryz.call38 (by kernel_rfl) (by kernel_rfl) (by kernel_rfl) (Z38 _)
def G37 (c : Y55) : Sem [.one (.int .i64), .one (.int .i64), .one (.ptr)] := fun x K Kp w => c x.1 x.2.1 x.2.2.1 (fun r1 w' => K (.int .i64 r1) w') w
theorem Z37 (c0 : Y35) (c1 : Y8) : Tie Tryz.prog [(13, ent (G13 c0)), (38, ent (G38 c1))] ann0 Tryz.f37 (G37 (T0.mheap_Heap_Spans_1 env c0 c1)) := fun x K Kp w => by kernel_rfl
theorem fits37 : FitsOne Tryz.prog 37 (ent (G37 (F.mheap_Heap_Spans_1 env))) := fits_of (fits_cons fits13 (fits_cons fits38 fits_nil)) mixed Tryz.func37 Tryz.call37 (by kernel_rfl) (by kernel_rfl) (by kernel_rfl) (Z37 _ _)
def G63 (c : Y56) : Sem [.one (.ptr), .one (.int .u64)] := fun x K Kp w => c x.1 x.2.1 (fun r1 w' => K (.pointer r1) w') w
def ann63 : Ann := { loops := [(7, [(25, .one (.int .i64))])], joins := [] }
theorem Z63 (c0 : Y16) (c1 : Y19) : Tie Tryz.prog [(78, ent (G78 c0)), (61, ent (G61 c1))] ann63 Tryz.f63 (G63 (T0.arena_Map_leaf env c0 c1)) := fun x K Kp w => by kernel_rfl
theorem fits63 : FitsOne Tryz.prog 63 (ent (G63 (F.arena_Map_leaf env))) := fits_of (fits_cons fits78 (fits_cons fits61 fits_nil)) mixed Tryz.func63 Tryz.call63 (by kernel_rfl) (by kernel_rfl) (by kernel_rfl) (Z63 _ _)
def G62 (c : Y57) : Sem [.one (.int .u64), .one (.int .u64), .one (.ptr), .one (.ptr)] := fun x K Kp w => c x.1 x.2.1 x.2.2.1 x.2.2.2.1 (fun  w' => K (.tuple ⟨[]⟩) w') w
def ann62 : Ann := { loops := [(1, [(6, .one (.int .u64))])], joins := [] }
theorem Z62 (c0 : Y56) : Tie Tryz.prog [(63, ent (G63 c0))] ann62 Tryz.f62 (G62 (T0.arena_Map_Set_1 env c0)) := fun x K Kp w => by kernel_rfl
theorem fits62 : FitsOne Tryz.prog 62 (ent (G62 (F.arena_Map_Set_1 env))) := fits_of (fits_cons fits63 fits_nil) mixed Tryz.func62 Tryz.call62 (by kernel_rfl) (by kernel_rfl) (by kernel_rfl) (Z62 _)
def G104 (c : Y61) : Sem [.one (.int .i64), .one (.ptr), .one (.ptr)] := fun x K Kp w => c x.1 x.2.1 x.2.2.1 (fun r1 w' => K (.bool r1) w') w
theorem Z104 : Tie Tryz.prog [] ann0 Tryz.f104 (G104 (F.stretch_Set_at_1 env)) := fun x K Kp w => by kernel_rfl
theorem fits104 : FitsOne Tryz.prog 104 (ent (G104 (F.stretch_Set_at_1 env))) := fits_of fits_nil mixed Tryz.func104 Tryz.call104 (by kernel_rfl) (by kernel_rfl) (by kernel_rfl) (Z104)
end Go.Sh

set_option linter.all false
namespace Go.Sh
theorem at1_mono {E : Env} {i : Int} {p1 p2 : Option Addr} {w : World} {K K' : Bool -> World -> Prop} (hk : ∀ b w', K b w' -> K' b w') (h : F.stretch_Set_at_1 E i p1 p2 K w) : F.stretch_Set_at_1 E i p1 p2 K' w := by
  unfold F.stretch_Set_at_1 at h ⊢
  obtain ⟨q1, rfl, x2, h2, h⟩ := NC_elim h
  obtain ⟨q3, rfl, x4, h4, h⟩ := NC_elim h
  obtain ⟨q5, h5, hi, x6, h6, h⟩ := NC_elim h
  obtain ⟨q7, rfl, x8, h8, h⟩ := NC_elim h
  refine ⟨some q3, h2, x4, h4, ?_⟩
  rw [h5]
  exact ⟨hi, x6, h6, x8, h8, hk _ _ h⟩
theorem ground_mono {P : Program} (g : FuncId) (args : Array Value) (w : World) (K K' : Value -> World -> Prop) (hk : ∀ v w', K v w' -> K' v w') (h : ground P g args w K noP) : ground P g args w K' noP :=
  ⟨h.1, h.2.mono fun e w' hE => let ⟨v, hv, h⟩ := hE.val; .inl ⟨v, hv, hk v w' h⟩⟩
end Go.Sh
