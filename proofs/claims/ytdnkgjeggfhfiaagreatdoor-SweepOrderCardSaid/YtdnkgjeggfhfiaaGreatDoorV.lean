/- Each shallow form is what the code of its function comes to, piece 3. No further condition. -/
import Derived.Test.YtdnkgjeggfhfiaaGreatDoorU
import Derived.Test.YtdnkgjeggfhfiaaGreatDoorProg
import Derived.KernelRfl
import Derived.Test.YtdnkgjeggfhfiaaGreatDoorS
import Derived.Test.YtdnkgjeggfhfiaaGreatDoorA
import Derived.Calls
set_option linter.all false
set_option maxRecDepth 100000
set_option maxHeartbeats 4000000
namespace Go.Sh
open Go.Proofs
def G141 (c : Y2) : Sem [.one (.int .u32)] := fun x K Kp w => c x.1 (fun r1 w' => K (.int .i64 r1) w') w
def ann141 : Ann := { loops := [], joins := [(4, [(0, .one (.int .u32)), (2, .one (.int .i64))]), (7, [(0, .one (.int .u32)), (2, .one (.int .i64))])] }
theorem Z141 : Tie Tryz.prog [] ann141 Tryz.f141 (G141 (F.math_bits_Len32 env)) := fun x K Kp w => by kernel_rfl
theorem fits141 : FitsOne Tryz.prog 141 (ent (G141 (F.math_bits_Len32 env))) := fits_of fits_nil mixed Tryz.func141 Tryz.call141 (by kernel_rfl) (by kernel_rfl) (by kernel_rfl) (Z141)
def G142 (c : Y2) : Sem [.one (.int .u64)] := fun x K Kp w => c x.1 (fun r1 w' => K (.int .i64 r1) w') w
def ann142 : Ann := { loops := [], joins := [(4, [(0, .one (.int .u64)), (2, .one (.int .i64))]), (7, [(0, .one (.int .u64)), (2, .one (.int .i64))]), (10, [(0, .one (.int .u64)), (2, .one (.int .i64))])] }
theorem Z142 : Tie Tryz.prog [] ann142 Tryz.f142 (G142 (F.math_bits_Len64 env)) := fun x K Kp w => by kernel_rfl
theorem fits142 : FitsOne Tryz.prog 142 (ent (G142 (F.math_bits_Len64 env))) := fits_of fits_nil mixed Tryz.func142 Tryz.call142 (by kernel_rfl) (by kernel_rfl) (by kernel_rfl) (Z142)
def G105 (c : Y2) : Sem [.one (.int .u64)] := fun x K Kp w => c x.1 (fun r1 w' => K (.int .i64 r1) w') w
theorem Z105 (c0 : Y2) : Tie Tryz.prog [(141, ent (G141 (F.math_bits_Len32 env))), (142, ent (G142 c0))] ann0 Tryz.f105 (G105 (T0.math_bits_Len env c0)) := fun x K Kp w => by kernel_rfl
theorem fits105 : FitsOne Tryz.prog 105 (ent (G105 (F.math_bits_Len env))) := fits_of (fits_cons fits141 (fits_cons fits142 fits_nil)) mixed Tryz.func105 Tryz.call105 (by kernel_rfl) (by kernel_rfl) (by kernel_rfl) (Z105 _)
def G133 (c : Y66) : Sem [.one (.sl), .one (.int .i64), .one (.int .i64), .one (.any)] := fun x K Kp w => c x.1 x.2.1 x.2.2.1 x.2.2.2.1 (fun  w' => K (.tuple ⟨[]⟩) w') w
noncomputable def C133 : Entry := ent (G133 (F.slices_insertionSortCmpFunc_int_ env))
def ann133 : Ann := { loops := [(1, [(8, .one (.int .i64))]), (4, [(9, .one (.int .i64))])], joins := [] }
theorem Z133 : Tie Tryz.prog [] ann133 Tryz.f133 (G133 (F.slices_insertionSortCmpFunc_int_ env)) := fun x K Kp w => by kernel_rfl
theorem fits133 : FitsOne Tryz.prog 133 (ent (G133 (F.slices_insertionSortCmpFunc_int_ env))) := fits_of fits_nil mixed Tryz.func133 Tryz.call133 (by kernel_rfl) (by kernel_rfl) (by kernel_rfl) (Z133)
def G150 (c : Y65) : Sem [.one (.sl), .one (.int .i64), .one (.int .i64), .one (.int .i64), .one (.any)] := fun x K Kp w => c x.1 x.2.1 x.2.2.1 x.2.2.2.1 x.2.2.2.2.1 (fun  w' => K (.tuple ⟨[]⟩) w') w
def ann150 : Ann := { loops := [(1, [(10, .one (.int .i64))])], joins := [(4, [(40, .one (.bool))]), (5, [(11, .one (.int .i64))])] }
theorem Z150 : Tie Tryz.prog [] ann150 Tryz.f150 (G150 (F.slices_siftDownCmpFunc_int_ env)) := fun x K Kp w => by kernel_rfl
theorem fits150 : FitsOne Tryz.prog 150 (ent (G150 (F.slices_siftDownCmpFunc_int_ env))) := fits_of fits_nil mixed Tryz.func150 Tryz.call150 (by kernel_rfl) (by kernel_rfl) (by kernel_rfl) (Z150)
def G134 (c : Y66) : Sem [.one (.sl), .one (.int .i64), .one (.int .i64), .one (.any)] := fun x K Kp w => c x.1 x.2.1 x.2.2.1 x.2.2.2.1 (fun  w' => K (.tuple ⟨[]⟩) w') w
noncomputable def C134 : Entry := ent (G134 (F.slices_heapSortCmpFunc_int_ env))
def ann134 : Ann := { loops := [(4, [(11, .one (.int .i64))]), (8, [(12, .one (.int .i64))])], joins := [] }
theorem Z134 (c0 : Y65) : Tie Tryz.prog [(150, ent (G150 c0))] ann134 Tryz.f134 (G134 (T0.slices_heapSortCmpFunc_int_ env c0)) := fun x K Kp w => by kernel_rfl
theorem fits134 : FitsOne Tryz.prog 134 (ent (G134 (F.slices_heapSortCmpFunc_int_ env))) := fits_of (fits_cons fits150 fits_nil) mixed Tryz.func134 Tryz.call134 (by kernel_rfl) (by kernel_rfl) (by kernel_rfl) (Z134 _)
def G151 (c : Y2) : Sem [.one (.int .i64)] := fun x K Kp w => c x.1 (fun r1 w' => K (.int .u64 r1) w') w
theorem Z151 (c0 : Y2) : Tie Tryz.prog [(105, ent (G105 c0))] ann0 Tryz.f151 (G151 (T0.slices_nextPowerOfTwo env c0)) := fun x K Kp w => by kernel_rfl
theorem fits151 : FitsOne Tryz.prog 151 (ent (G151 (F.slices_nextPowerOfTwo env))) := fits_of (fits_cons fits105 fits_nil) mixed Tryz.func151 Tryz.call151 (by kernel_rfl) (by kernel_rfl) (by kernel_rfl) (Z151 _)
def G152 (c : Y35) : Sem [.one (.ptr)] := fun x K Kp w => c x.1 (fun r1 w' => K (.int .u64 r1) w') w
theorem Z152 : Tie Tryz.prog [] ann0 Tryz.f152 (G152 (F.slices_xorshift_Next env)) := fun x K Kp w => by kernel_rfl
theorem fits152 : FitsOne Tryz.prog 152 (ent (G152 (F.slices_xorshift_Next env))) := fits_of fits_nil mixed Tryz.func152 Tryz.call152 (by kernel_rfl) (by kernel_rfl) (by kernel_rfl) (Z152)
def G135 (c : Y66) : Sem [.one (.sl), .one (.int .i64), .one (.int .i64), .one (.any)] := fun x K Kp w => c x.1 x.2.1 x.2.2.1 x.2.2.2.1 (fun  w' => K (.tuple ⟨[]⟩) w') w
noncomputable def C135 : Entry := ent (G135 (F.slices_breakPatternsCmpFunc_int_ env))
def ann135 : Ann := { loops := [(5, [(11, .one (.int .i64))])], joins := [(10, [(12, .one (.int .i64))])] }
theorem Z135 (c0 : Y2) (c1 : Y35) : Tie Tryz.prog [(151, ent (G151 c0)), (152, ent (G152 c1))] ann135 Tryz.f135 (G135 (T0.slices_breakPatternsCmpFunc_int_ env c0 c1)) := fun x K Kp w => by kernel_rfl
theorem fits135 : FitsOne Tryz.prog 135 (ent (G135 (F.slices_breakPatternsCmpFunc_int_ env))) := fits_of (fits_cons fits151 (fits_cons fits152 fits_nil)) mixed Tryz.func135 Tryz.call135 (by kernel_rfl) (by kernel_rfl) (by kernel_rfl) (Z135 _ _)
def G156 (c : Y67) : Sem [.one (.sl), .one (.int .i64), .one (.int .i64), .one (.ptr), .one (.any)] := fun x K Kp w => c x.1 x.2.1 x.2.2.1 x.2.2.2.1 x.2.2.2.2.1 (fun r1 r2 w' => K (.tuple ⟨[.int .i64 r1, .int .i64 r2]⟩) w') w
theorem Z156 : Tie Tryz.prog [] ann0 Tryz.f156 (G156 (F.slices_order2CmpFunc_int_ env)) := fun x K Kp w => by kernel_rfl
theorem fits156 : FitsOne Tryz.prog 156 (ent (G156 (F.slices_order2CmpFunc_int_ env))) := fits_of fits_nil mixed Tryz.func156 Tryz.call156 (by kernel_rfl) (by kernel_rfl) (by kernel_rfl) (Z156)
def G154 (c : Y68) : Sem [.one (.sl), .one (.int .i64), .one (.int .i64), .one (.int .i64), .one (.ptr), .one (.any)] := fun x K Kp w => c x.1 x.2.1 x.2.2.1 x.2.2.2.1 x.2.2.2.2.1 x.2.2.2.2.2.1 (fun r1 w' => K (.int .i64 r1) w') w
theorem Z154 (c0 : Y67) : Tie Tryz.prog [(156, ent (G156 c0))] ann0 Tryz.f154 (G154 (T0.slices_medianCmpFunc_int_ env c0)) := fun x K Kp w => by kernel_rfl
theorem fits154 : FitsOne Tryz.prog 154 (ent (G154 (F.slices_medianCmpFunc_int_ env))) := fits_of (fits_cons fits156 fits_nil) mixed Tryz.func154 Tryz.call154 (by kernel_rfl) (by kernel_rfl) (by kernel_rfl) (Z154 _)
def G153 (c : Y69) : Sem [.one (.sl), .one (.int .i64), .one (.ptr), .one (.any)] := fun x K Kp w => c x.1 x.2.1 x.2.2.1 x.2.2.2.1 (fun r1 w' => K (.int .i64 r1) w') w
theorem Z153 (c0 : Y68) : Tie Tryz.prog [(154, ent (G154 c0))] ann0 Tryz.f153 (G153 (T0.slices_medianAdjacentCmpFunc_int_ env c0)) := fun x K Kp w => by kernel_rfl
theorem fits153 : FitsOne Tryz.prog 153 (ent (G153 (F.slices_medianAdjacentCmpFunc_int_ env))) := fits_of (fits_cons fits154 fits_nil) mixed Tryz.func153 Tryz.call153 (by kernel_rfl) (by kernel_rfl) (by kernel_rfl) (Z153 _)
def G136 (c : Y70) : Sem [.one (.sl), .one (.int .i64), .one (.int .i64), .one (.any)] := fun x K Kp w => c x.1 x.2.1 x.2.2.1 x.2.2.2.1 (fun r1 r2 w' => K (.tuple ⟨[.int .i64 r1, .int .i64 r2]⟩) w') w
noncomputable def C136 : Entry := ent (G136 (F.slices_choosePivotCmpFunc_int_ env))
def ann136 : Ann := { loops := [], joins := [(11, [(12, .one (.int .i64)), (13, .one (.int .i64)), (14, .one (.int .i64))]), (12, [(13, .one (.int .i64))])] }
theorem Z136 (c0 : Y69) (c1 : Y68) : Tie Tryz.prog [(153, ent (G153 c0)), (154, ent (G154 c1))] ann136 Tryz.f136 (G136 (T0.slices_choosePivotCmpFunc_int_ env c0 c1)) := fun x K Kp w => by kernel_rfl
theorem fits136 : FitsOne Tryz.prog 136 (ent (G136 (F.slices_choosePivotCmpFunc_int_ env))) := fits_of (fits_cons fits153 (fits_cons fits154 fits_nil)) mixed Tryz.func136 Tryz.call136 (by kernel_rfl) (by kernel_rfl) (by kernel_rfl) (Z136 _ _)
def G137 (c : Y66) : Sem [.one (.sl), .one (.int .i64), .one (.int .i64), .one (.any)] := fun x K Kp w => c x.1 x.2.1 x.2.2.1 x.2.2.2.1 (fun  w' => K (.tuple ⟨[]⟩) w') w
noncomputable def C137 : Entry := ent (G137 (F.slices_reverseRangeCmpFunc_int_ env))
def ann137 : Ann := { loops := [(2, [(8, .one (.int .i64)), (9, .one (.int .i64))])], joins := [] }
theorem Z137 : Tie Tryz.prog [] ann137 Tryz.f137 (G137 (F.slices_reverseRangeCmpFunc_int_ env)) := fun x K Kp w => by kernel_rfl
theorem fits137 : FitsOne Tryz.prog 137 (ent (G137 (F.slices_reverseRangeCmpFunc_int_ env))) := fits_of fits_nil mixed Tryz.func137 Tryz.call137 (by kernel_rfl) (by kernel_rfl) (by kernel_rfl) (Z137)
def G138 (c : Y76) : Sem [.one (.sl), .one (.int .i64), .one (.int .i64), .one (.any)] := fun x K Kp w => c x.1 x.2.1 x.2.2.1 x.2.2.2.1 (fun r1 w' => K (.bool r1) w') w
noncomputable def C138 : Entry := ent (G138 (F.slices_partialInsertionSortCmpFunc_int_ env))
def ann138 : Ann := { loops := [(3, [(9, .one (.int .i64)), (10, .one (.int .i64))]), (5, [(9, .one (.int .i64))]), (14, [(11, .one (.int .i64))]), (20, [(12, .one (.int .i64))])], joins := [(7, [(9, .one (.int .i64))]), (18, [])] }
theorem Z138 : Tie Tryz.prog [] ann138 Tryz.f138 (G138 (F.slices_partialInsertionSortCmpFunc_int_ env)) := fun x K Kp w => by kernel_rfl
theorem fits138 : FitsOne Tryz.prog 138 (ent (G138 (F.slices_partialInsertionSortCmpFunc_int_ env))) := fits_of fits_nil mixed Tryz.func138 Tryz.call138 (by kernel_rfl) (by kernel_rfl) (by kernel_rfl) (Z138)
def G139 (c : Y77) : Sem [.one (.sl), .one (.int .i64), .one (.int .i64), .one (.int .i64), .one (.any)] := fun x K Kp w => c x.1 x.2.1 x.2.2.1 x.2.2.2.1 x.2.2.2.2.1 (fun r1 w' => K (.int .i64 r1) w') w
noncomputable def C139 : Entry := ent (G139 (F.slices_partitionEqualCmpFunc_int_ env))
def ann139 : Ann := { loops := [(3, [(11, .one (.int .i64)), (12, .one (.int .i64))]), (5, [(12, .one (.int .i64))])], joins := [(5, [(11, .one (.int .i64))]), (7, [(12, .one (.int .i64))])] }
theorem Z139 : Tie Tryz.prog [] ann139 Tryz.f139 (G139 (F.slices_partitionEqualCmpFunc_int_ env)) := fun x K Kp w => by kernel_rfl
theorem fits139 : FitsOne Tryz.prog 139 (ent (G139 (F.slices_partitionEqualCmpFunc_int_ env))) := fits_of fits_nil mixed Tryz.func139 Tryz.call139 (by kernel_rfl) (by kernel_rfl) (by kernel_rfl) (Z139)
def G140 (c : Y78) : Sem [.one (.sl), .one (.int .i64), .one (.int .i64), .one (.int .i64), .one (.any)] := fun x K Kp w => c x.1 x.2.1 x.2.2.1 x.2.2.2.1 x.2.2.2.2.1 (fun r1 r2 w' => K (.tuple ⟨[.int .i64 r1, .bool r2]⟩) w') w
noncomputable def C140 : Entry := ent (G140 (F.slices_partitionCmpFunc_int_ env))
def ann140 : Ann := { loops := [(3, [(12, .one (.int .i64))]), (5, [(13, .one (.int .i64))]), (13, [(12, .one (.int .i64)), (13, .one (.int .i64))]), (15, [(13, .one (.int .i64))])], joins := [(5, [(12, .one (.int .i64))]), (7, [(13, .one (.int .i64))]), (15, [(12, .one (.int .i64))]), (17, [(13, .one (.int .i64))])] }
theorem Z140 : Tie Tryz.prog [] ann140 Tryz.f140 (G140 (F.slices_partitionCmpFunc_int_ env)) := fun x K Kp w => by kernel_rfl
theorem fits140 : FitsOne Tryz.prog 140 (ent (G140 (F.slices_partitionCmpFunc_int_ env))) := fits_of fits_nil mixed Tryz.func140 Tryz.call140 (by kernel_rfl) (by kernel_rfl) (by kernel_rfl) (Z140)
noncomputable def Cn104 (n : Nat) : Entry := fun args w K Kp => unArgs [.one (.sl), .one (.int .i64), .one (.int .i64), .one (.int .i64), .one (.any)] args.toList fun x => F.slices_pdqsortCmpFunc_int_ env n x.1 x.2.1 x.2.2.1 x.2.2.2.1 x.2.2.2.2.1 (fun  w' => K (.tuple ⟨[]⟩) w') w
noncomputable def C104 : Entry := fun args w K Kp => ∃ n, Cn104 n args w K Kp
noncomputable def body104 : Code := (Tryz.f104.body).getD .skip
def ann104 : Ann := { loops := [(2, [(1, .one (.int .i64)), (2, .one (.int .i64)), (3, .one (.int .i64)), (10, .one (.bool)), (11, .one (.bool))])], joins := [(10, [(3, .one (.int .i64))]), (15, [(13, .one (.int .i64)), (14, .one (.int .i64))]), (16, [(75, .one (.bool))]), (17, []), (18, [(97, .one (.bool))])] }
theorem tie104 (n : Nat) (x : ArgsV [.one (.sl), .one (.int .i64), .one (.int .i64), .one (.int .i64), .one (.any)]) (K Kp : Value -> World -> Prop) (w : World) : F.slices_pdqsortCmpFunc_int_ env (n + 1) x.1 x.2.1 x.2.2.1 x.2.2.2.1 x.2.2.2.2.1 (fun  w' => K (.tuple ⟨[]⟩) w') w =
 ev Tryz.prog (tabC [(133, C133), (134, C134), (135, C135), (136, C136), (137, C137), (138, C138), (139, C139), (140, C140), (104, Cn104 n)]) (ground Tryz.prog) ann104 body104 (finQ Tryz.prog Tryz.f104 K Kp) (initF (mkArgs [.one (.sl), .one (.int .i64), .one (.int .i64), .one (.int .i64), .one (.any)] x)) w := by kernel_rfl
theorem fitsN104 (n : Nat) : FitsOne Tryz.prog 104 (Cn104 n) := by
 induction n with
 | zero => intro args w K Kp h; obtain ⟨x, _, h⟩ := unArgs_elim h; exact h.elim
 | succ n ih => exact fits_of_tie (T := [(133, C133), (134, C134), (135, C135), (136, C136), (137, C137), (138, C138), (139, C139), (140, C140), (104, Cn104 n)]) (A := ann104) (fn := Tryz.f104) (c := body104) (fits_cons fits133 (fits_cons fits134 (fits_cons fits135 (fits_cons fits136 (fits_cons fits137 (fits_cons fits138 (fits_cons fits139 (fits_cons fits140 (fits_cons ih fits_nil))))))))) mixed Tryz.func104 Tryz.call104 (by kernel_rfl) (by kernel_rfl) (by kernel_rfl) (tie104 n)
theorem fits104 : FitsOne Tryz.prog 104 C104 := fits_some fitsN104
def G68 (c : Y71) : Sem [.one (.sl), .one (.any)] := fun x K Kp w => c x.1 x.2.1 (fun  w' => K (.tuple ⟨[]⟩) w') w
theorem Z68 (c0 : Y2) : Tie Tryz.prog [(105, ent (G105 c0)), (104, C104)] ann0 Tryz.f68 (G68 (T0.slices_SortFunc___int_int_ env c0)) := fun x K Kp w => by kernel_rfl
theorem fits68 : FitsOne Tryz.prog 68 (ent (G68 (F.slices_SortFunc___int_int_ env))) := fits_of (fits_cons fits105 (fits_cons fits104 fits_nil)) mixed Tryz.func68 Tryz.call68 (by kernel_rfl) (by kernel_rfl) (by kernel_rfl) (Z68 _)
def G34 (c : Y14) : Sem [.one (.ptr)] := fun x K Kp w => c x.1 (fun r1 w' => K (.slice r1.base r1.len r1.cap) w') w
def ann34 : Ann := { loops := [(3, [(3, .one (.sl))])], joins := [(4, [(11, .one (.bool))])] }
theorem Z34 (c0 : Y71) : Tie Tryz.prog [(68, ent (G68 c0))] ann34 Tryz.f34 (G34 (T0.mheap_Heap_Spans env c0)) := fun x K Kp w => by kernel_rfl
theorem fits34 : FitsOne Tryz.prog 34 (ent (G34 (F.mheap_Heap_Spans env))) := fits_of (fits_cons fits68 fits_nil) mixed Tryz.func34 Tryz.call34 (by kernel_rfl) (by kernel_rfl) (by kernel_rfl) (Z34 _)
def G8 (c : Y72) : Sem [.one (.sl), .one (.sl)] := fun x K Kp w => c x.1 x.2.1 (fun r1 w' => K (.bool r1) w') w
def ann8 : Ann := { loops := [(9, [(7, .one (.sl)), (8, .one (.sl)), (9, .one (.int .i64))]), (29, [(16, .one (.int .i64))])], joins := [(2, [(32, .one (.bool))]), (16, [(10, .one (.int .u64)), (11, .one (.int .i64))]), (19, [(78, .one (.bool))]), (23, [(96, .one (.bool))]), (24, [(8, .one (.sl))]), (27, [(122, .one (.bool))]), (33, [(146, .one (.bool))]), (35, [(19, .one (.bool))]), (37, [(176, .one (.bool))])] }
theorem Z8 (c0 : Y12) (c1 : Y10) (c2 : Y37) (c3 : Y42) (c4 : Y40) (c5 : Y36) (c6 : Y46) (c7 : Y50) (c8 : Y29) (c9 : Y17) (c10 : Y55) (c11 : Y10) (c12 : Y49) (c13 : Y14) (c14 : Y56) : Tie Tryz.prog [(11, ent (G11 c0)), (12, ent (G12 c1)), (13, ent (G13 c2)), (14, ent (G14 c3)), (15, ent (G15 c4)), (24, ent (G24 c5)), (17, ent (G17 c6)), (18, ent (G18 c7)), (19, ent (G19 c8)), (23, ent (G23 c9)), (20, fun args w K Kp => unArgs [.one (.ptr), .one (.int .i64), .one (.bool)] args.toList fun x => c10 x.1 x.2.1 x.2.2.1 (fun r1 r2 r3 w' => K (.tuple ⟨[.int .i64 r1, .bool r2, .int .i64 r3]⟩) w') w), (21, ent (G21 c11)), (22, ent (G22 c12)), (34, ent (G34 c13)), (10, ent (G10 c14))] ann8 Tryz.f8 (G8 (T0.mallowlaw18_SweepOrder env c0 c1 c2 c3 c4 c5 c6 c7 c8 c9 c10 c11 c12 c13 c14)) := fun x K Kp w => by kernel_rfl
theorem fits8 : FitsOne Tryz.prog 8 (ent (G8 (F.mallowlaw18_SweepOrder env))) := fits_of (fits_cons fits11 (fits_cons fits12 (fits_cons fits13 (fits_cons fits14 (fits_cons fits15 (fits_cons fits24 (fits_cons fits17 (fits_cons fits18 (fits_cons fits19 (fits_cons fits23 (fits_cons fits20 (fits_cons fits21 (fits_cons fits22 (fits_cons fits34 (fits_cons fits10 fits_nil))))))))))))))) mixed Tryz.func8 Tryz.call8 (by kernel_rfl) (by kernel_rfl) (by kernel_rfl) (Z8 _ _ _ _ _ _ _ _ _ _ _ _ _ _ _)
def G106 (c : Y0) : Sem [.one (.int .u64)] := fun x K Kp w => c x.1 (fun r1 w' => K (.bool r1) w') w
theorem Z106 : Tie Tryz.prog [] ann0 Tryz.f106 (G106 (F.cmp_isNaN_uint64_ env)) := fun x K Kp w => by kernel_rfl
theorem fits106 : FitsOne Tryz.prog 106 (ent (G106 (F.cmp_isNaN_uint64_ env))) := fits_of fits_nil mixed Tryz.func106 Tryz.call106 (by kernel_rfl) (by kernel_rfl) (by kernel_rfl) (Z106)
def G70 (c : Y1) : Sem [.one (.int .u64), .one (.int .u64)] := fun x K Kp w => c x.1 x.2.1 (fun r1 w' => K (.int .i64 r1) w') w
theorem Z70 (c0 : Y0) : Tie Tryz.prog [(106, ent (G106 c0))] ann0 Tryz.f70 (G70 (T0.cmp_Compare_uint64_ env c0)) := fun x K Kp w => by kernel_rfl
theorem fits70 : FitsOne Tryz.prog 70 (ent (G70 (F.cmp_Compare_uint64_ env))) := fits_of (fits_cons fits106 fits_nil) mixed Tryz.func70 Tryz.call70 (by kernel_rfl) (by kernel_rfl) (by kernel_rfl) (Z70 _)
def G69 (c : Y73) : Sem [.one (.int .i64), .one (.int .i64), .one (.ptr)] := fun x K Kp w => c x.1 x.2.1 x.2.2.1 (fun r1 w' => K (.int .i64 r1) w') w
theorem Z69 (c0 : Y36) (c1 : Y1) : Tie Tryz.prog [(24, ent (G24 c0)), (70, ent (G70 c1))] ann0 Tryz.f69 (G69 (T0.mheap_Heap_Spans_1 env c0 c1)) := fun x K Kp w => by kernel_rfl
theorem fits69 : FitsOne Tryz.prog 69 (ent (G69 (F.mheap_Heap_Spans_1 env))) := fits_of (fits_cons fits24 (fits_cons fits70 fits_nil)) mixed Tryz.func69 Tryz.call69 (by kernel_rfl) (by kernel_rfl) (by kernel_rfl) (Z69 _ _)
def G127 (c : Y74) : Sem [.one (.ptr), .one (.int .u64)] := fun x K Kp w => c x.1 x.2.1 (fun r1 w' => K (.pointer r1) w') w
def ann127 : Ann := { loops := [(7, [(25, .one (.int .i64))])], joins := [] }
theorem Z127 (c0 : Y17) (c1 : Y20) : Tie Tryz.prog [(100, ent (G100 c0)), (125, ent (G125 c1))] ann127 Tryz.f127 (G127 (T0.arena_Map_leaf env c0 c1)) := fun x K Kp w => by kernel_rfl
theorem fits127 : FitsOne Tryz.prog 127 (ent (G127 (F.arena_Map_leaf env))) := fits_of (fits_cons fits100 (fits_cons fits125 fits_nil)) mixed Tryz.func127 Tryz.call127 (by kernel_rfl) (by kernel_rfl) (by kernel_rfl) (Z127 _ _)
def G126 (c : Y75) : Sem [.one (.int .u64), .one (.int .u64), .one (.ptr), .one (.ptr)] := fun x K Kp w => c x.1 x.2.1 x.2.2.1 x.2.2.2.1 (fun  w' => K (.tuple ⟨[]⟩) w') w
def ann126 : Ann := { loops := [(1, [(6, .one (.int .u64))])], joins := [] }
theorem Z126 (c0 : Y74) : Tie Tryz.prog [(127, ent (G127 c0))] ann126 Tryz.f126 (G126 (T0.arena_Map_Set_1 env c0)) := fun x K Kp w => by kernel_rfl
theorem fits126 : FitsOne Tryz.prog 126 (ent (G126 (F.arena_Map_Set_1 env))) := fits_of (fits_cons fits127 fits_nil) mixed Tryz.func126 Tryz.call126 (by kernel_rfl) (by kernel_rfl) (by kernel_rfl) (Z126 _)
def G129 (c : Y79) : Sem [.one (.int .i64), .one (.ptr), .one (.ptr)] := fun x K Kp w => c x.1 x.2.1 x.2.2.1 (fun r1 w' => K (.bool r1) w') w
theorem Z129 : Tie Tryz.prog [] ann0 Tryz.f129 (G129 (F.sets_Sets_place_1 env)) := fun x K Kp w => by kernel_rfl
theorem fits129 : FitsOne Tryz.prog 129 (ent (G129 (F.sets_Sets_place_1 env))) := fits_of fits_nil mixed Tryz.func129 Tryz.call129 (by kernel_rfl) (by kernel_rfl) (by kernel_rfl) (Z129)
def G155 (c : Y79) : Sem [.one (.int .i64), .one (.ptr), .one (.ptr)] := fun x K Kp w => c x.1 x.2.1 x.2.2.1 (fun r1 w' => K (.bool r1) w') w
theorem Z155 : Tie Tryz.prog [] ann0 Tryz.f155 (G155 (F.stretch_Set_at_1 env)) := fun x K Kp w => by kernel_rfl
theorem fits155 : FitsOne Tryz.prog 155 (ent (G155 (F.stretch_Set_at_1 env))) := fits_of fits_nil mixed Tryz.func155 Tryz.call155 (by kernel_rfl) (by kernel_rfl) (by kernel_rfl) (Z155)
end Go.Sh

set_option linter.all false
namespace Go.Sh
theorem at1_mono {E : Env} {i : Int} {p1 p2 : Option Addr} {w : World} {K K' : Bool -> World -> Prop} (hk : ∀ b w', K b w' -> K' b w') (h : F.stretch_Set_at_1 E i p1 p2 K w) : F.stretch_Set_at_1 E i p1 p2 K' w := by
 unfold F.stretch_Set_at_1 at h ⊢
 obtain ⟨q1, rfl, x2, h2, h⟩ := NC_elim h
 obtain ⟨q3, rfl, x4, h4, h⟩ := NC_elim h
 obtain ⟨q5, h5, hi, x6, h6, h⟩ := NC_elim h
 obtain ⟨q7, rfl, x8, h8, h⟩ := NC_elim h
 refine ⟨some q3, h2, x4, h4, ?_⟩
 rw [h5]
 exact ⟨hi, x6, h6, x8, h8, hk _ _ h⟩
theorem ground_mono {P : Program} (g : FuncId) (args : Array Value) (w : World) (K K' : Value -> World -> Prop) (hk : ∀ v w', K v w' -> K' v w') (h : ground P g args w K noP) : ground P g args w K' noP :=
 ⟨h.1, h.2.mono fun e w' hE => let ⟨v, hv, h⟩ := hE.val; .inl ⟨v, hv, hk v w' h⟩⟩
end Go.Sh
