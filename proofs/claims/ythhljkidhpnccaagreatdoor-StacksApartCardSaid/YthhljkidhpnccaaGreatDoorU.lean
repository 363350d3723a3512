/- Each shallow form is what the code of its function comes to, piece 2. No further condition. -/
import Derived.Test.YthhljkidhpnccaaGreatDoorT
import Derived.Test.YthhljkidhpnccaaGreatDoorProg
import Derived.KernelRfl
import Derived.Test.YthhljkidhpnccaaGreatDoorS
import Derived.Test.YthhljkidhpnccaaGreatDoorA
import Derived.Calls
set_option linter.all false
set_option maxRecDepth 100000
set_option maxHeartbeats 4000000
namespace Go.Sh
open Go.Proofs
def G49 (c : Y35) : Sem [.one (.ptr), .one (.int .u64)] := fun x K Kp w => c x.1 x.2.1 (fun r1 w' => K (.bool r1) w') w
theorem Z49 (c0 : Y10) : Tie Tryz.prog [(72, ent (G72 c0))] ann0 Tryz.f49 (G49 (T0.stretch_Set_Has env c0)) := fun x K Kp w => by kernel_rfl
theorem fits49 : FitsOne Tryz.prog 49 (ent (G49 (F.stretch_Set_Has env))) := fits_of (fits_cons fits72 fits_nil) mixed Tryz.func49 Tryz.call49 (by kernel_rfl) (by kernel_rfl) (by kernel_rfl) (Z49 _)
def G22 (c : Y38) : Sem [.one (.ptr), .one (.int .u64)] := fun x K Kp w => c x.1 x.2.1 (fun r1 r2 w' => K (.tuple ⟨[.int .u64 r1, .int .u64 r2]⟩) w') Kp w
noncomputable def C22 : Entry := ent (G22 (F.vmem_Mem_at env))
theorem Z22 (c0 : Y35) : Tie Tryz.prog [(49, ent (G49 c0))] ann0 Tryz.f22 (G22 (T0.vmem_Mem_at env c0)) := fun x K Kp w => by kernel_rfl
theorem fits22 : FitsOne Tryz.prog 22 (ent (G22 (F.vmem_Mem_at env))) := fits_of (fits_cons fits49 fits_nil) mixed Tryz.func22 Tryz.call22 (by kernel_rfl) (by kernel_rfl) (by kernel_rfl) (Z22 _)
def G23 (c : Y39) : Sem [.one (.ptr), .one (.int .u64)] := fun x K Kp w => c x.1 x.2.1 (fun r1 w' => K (.pointer r1) w') w
noncomputable def C23 : Entry := ent (G23 (F.vmem_Mem_stored env))
def ann23 : Ann := { loops := [(5, [(16, .one (.int .i64))])], joins := [] }
theorem Z23 : Tie Tryz.prog [] ann23 Tryz.f23 (G23 (F.vmem_Mem_stored env)) := fun x K Kp w => by kernel_rfl
theorem fits23 : FitsOne Tryz.prog 23 (ent (G23 (F.vmem_Mem_stored env))) := fits_of fits_nil mixed Tryz.func23 Tryz.call23 (by kernel_rfl) (by kernel_rfl) (by kernel_rfl) (Z23)
noncomputable def D21 : EntryD := fun args pv w K => unArgs [.one (.ptr)] args.toList fun x => F.vmem_caught env x.1 (pv.getD .nilIface) (fun w' => K pv.isSome w') w
noncomputable def body21 : Code := (Tryz.f21.body).getD .skip
def ann21 : Ann := { loops := [], joins := [] }
noncomputable def rest21 : Code := ((recOf body21).map (·.2)).getD .skip
theorem tie21 (x : ArgsV [.one (.ptr)]) (v : Value) (K : World -> Prop) (w : World) : F.vmem_caught env x.1 v K w =
 ev Tryz.prog (tabC []) (ground Tryz.prog) ann21 rest21 (finQ Tryz.prog Tryz.f21 (fun _ w' => K w') noP) ((initF (mkArgs [.one (.ptr)] x)).put 5 v) w := by kernel_rfl
theorem fitsD21 : FitsDOne Tryz.prog 21 D21 :=
 fitsD_rec (T := []) (A := ann21) (fn := Tryz.f21) (c := body21) (y := rest21) (d := 5) (l := [.one (.ptr)]) (F := fun (x : ArgsV [.one (.ptr)]) v K w => F.vmem_caught env x.1 v K w) fits_nil mixed Tryz.func21 Tryz.call21 (by kernel_rfl) (by kernel_rfl) (by kernel_rfl) (by kernel_rfl) (by kernel_rfl) tie21
noncomputable def C8 : Entry := fun args w K Kp => unArgs [.one (.ptr), .one (.int .u64), .one (.int .u64)] args.toList fun x => F.vmem_Mem_Store env x.1 x.2.1 x.2.2.1 (fun r1 w' => K (.int .i64 r1) w') w
noncomputable def body8 : Code := (Tryz.f8.body).getD .skip
def ann8 : Ann := { loops := [], joins := [] }
theorem tieZ8 (c_vmem_Mem_at : ∀ (a0 : (Option Addr)) (a1 : Int) (K : Int -> Int -> World -> Prop) (Kp : Value -> World -> Prop) (w : World), Prop) (c_vmem_Mem_stored : ∀ (a0 : (Option Addr)) (a1 : Int) (K : (Option Addr) -> World -> Prop) (w : World), Prop) (x : ArgsV [.one (.ptr), .one (.int .u64), .one (.int .u64)]) (K : Value -> World -> Prop) (w : World) : T0.vmem_Mem_Store env c_vmem_Mem_at c_vmem_Mem_stored x.1 x.2.1 x.2.2.1 (fun r1 w' => K (.int .i64 r1) w') w =
 evD Tryz.prog (tabC [(22, fun args w K Kp => unArgs [.one (.ptr), .one (.int .u64)] args.toList fun x => c_vmem_Mem_at x.1 x.2.1 (fun r1 r2 w' => K (.tuple ⟨[.int .u64 r1, .int .u64 r2]⟩) w') Kp w), (23, fun args w K Kp => unArgs [.one (.ptr), .one (.int .u64)] args.toList fun x => c_vmem_Mem_stored x.1 x.2.1 (fun r1 w' => K (.pointer r1) w') w)]) (ground Tryz.prog) ann8 (finQ Tryz.prog Tryz.f8 K noP) (finD Tryz.prog Tryz.f8 (tabD [(21, D21)]) K noP) body8 (initF (mkArgs [.one (.ptr), .one (.int .u64), .one (.int .u64)] x)) w := by kernel_rfl
theorem tie8 (x : ArgsV [.one (.ptr), .one (.int .u64), .one (.int .u64)]) (K : Value -> World -> Prop) (w : World) : F.vmem_Mem_Store env x.1 x.2.1 x.2.2.1 (fun r1 w' => K (.int .i64 r1) w') w =
 evD Tryz.prog (tabC [(22, C22), (23, C23)]) (ground Tryz.prog) ann8 (finQ Tryz.prog Tryz.f8 K noP) (finD Tryz.prog Tryz.f8 (tabD [(21, D21)]) K noP) body8 (initF (mkArgs [.one (.ptr), .one (.int .u64), .one (.int .u64)] x)) w := tieZ8 (F.vmem_Mem_at env) (F.vmem_Mem_stored env) x K w
theorem fits8 : FitsOne Tryz.prog 8 C8 :=
 fits_of_tieD (T := [(22, C22), (23, C23)]) (TD := [(21, D21)]) (A := ann8) (fn := Tryz.f8) (c := body8) (fits_cons fits22 (fits_cons fits23 fits_nil)) (fitsD_cons fitsD21 fitsD_nil) mixed Tryz.func8 Tryz.call8 (by kernel_rfl) (by kernel_rfl) (by kernel_rfl) tie8
def G73 (c : Y10) : Sem [.one (.ptr), .one (.int .u64)] := fun x K Kp w => c x.1 x.2.1 (fun r1 w' => K (.int .i64 r1) w') w
def ann73 : Ann := { loops := [(2, [(12, .one (.int .i64))])], joins := [(5, [(25, .one (.bool))])] }
theorem Z73 : Tie Tryz.prog [] ann73 Tryz.f73 (G73 (F.arena_Map_whole env)) := fun x K Kp w => by kernel_rfl
theorem fits73 : FitsOne Tryz.prog 73 (ent (G73 (F.arena_Map_whole env))) := fits_of fits_nil mixed Tryz.func73 Tryz.call73 (by kernel_rfl) (by kernel_rfl) (by kernel_rfl) (Z73)
def G50 (c : Y10) : Sem [.one (.ptr), .one (.int .u64)] := fun x K Kp w => c x.1 x.2.1 (fun r1 w' => K (.int .i64 r1) w') w
theorem Z50 (c0 : Y10) : Tie Tryz.prog [(73, ent (G73 c0))] ann0 Tryz.f50 (G50 (T0.arena_Map_At env c0)) := fun x K Kp w => by kernel_rfl
theorem fits50 : FitsOne Tryz.prog 50 (ent (G50 (F.arena_Map_At env))) := fits_of (fits_cons fits73 fits_nil) mixed Tryz.func50 Tryz.call50 (by kernel_rfl) (by kernel_rfl) (by kernel_rfl) (Z50 _)
def G24 (c : Y10) : Sem [.one (.ptr), .one (.int .u64)] := fun x K Kp w => c x.1 x.2.1 (fun r1 w' => K (.int .i64 r1) w') w
theorem Z24 (c0 : Y10) : Tie Tryz.prog [(50, ent (G50 c0))] ann0 Tryz.f24 (G24 (T0.mheap_Heap_Of env c0)) := fun x K Kp w => by kernel_rfl
theorem fits24 : FitsOne Tryz.prog 24 (ent (G24 (F.mheap_Heap_Of env))) := fits_of (fits_cons fits50 fits_nil) mixed Tryz.func24 Tryz.call24 (by kernel_rfl) (by kernel_rfl) (by kernel_rfl) (Z24 _)
def G52 (c : Y40) : Sem [.one (.sl), .one (.int .i64)] := fun x K Kp w => c x.1 x.2.1 (fun r1 w' => K (.bool r1) w') w
theorem Z52 : Tie Tryz.prog [] ann0 Tryz.f52 (G52 (F._span_row_get env)) := fun x K Kp w => by kernel_rfl
theorem fits52 : FitsOne Tryz.prog 52 (ent (G52 (F._span_row_get env))) := fits_of fits_nil mixed Tryz.func52 Tryz.call52 (by kernel_rfl) (by kernel_rfl) (by kernel_rfl) (Z52)
def G53 (c : Y41) : Sem [.one (.sl), .one (.int .i64)] := fun x K Kp w => c x.1 x.2.1 (fun  w' => K (.tuple ⟨[]⟩) w') w
theorem Z53 : Tie Tryz.prog [] ann0 Tryz.f53 (G53 (F._span_row_clear env)) := fun x K Kp w => by kernel_rfl
theorem fits53 : FitsOne Tryz.prog 53 (ent (G53 (F._span_row_clear env))) := fits_of fits_nil mixed Tryz.func53 Tryz.call53 (by kernel_rfl) (by kernel_rfl) (by kernel_rfl) (Z53)
def G26 (c : Y10) : Sem [.one (.ptr), .one (.int .i64)] := fun x K Kp w => c x.1 x.2.1 (fun r1 w' => K (.int .i64 r1) w') w
theorem Z26 (c0 : Y35) (c1 : Y40) (c2 : Y41) : Tie Tryz.prog [(51, ent (G51 c0)), (52, ent (G52 c1)), (53, ent (G53 c2))] ann0 Tryz.f26 (G26 (T0.span_Span_Give env c0 c1 c2)) := fun x K Kp w => by kernel_rfl
theorem fits26 : FitsOne Tryz.prog 26 (ent (G26 (F.span_Span_Give env))) := fits_of (fits_cons fits51 (fits_cons fits52 (fits_cons fits53 fits_nil))) mixed Tryz.func26 Tryz.call26 (by kernel_rfl) (by kernel_rfl) (by kernel_rfl) (Z26 _ _ _)
def G54 (c : Y29) : Sem [.one (.ptr)] := fun x K Kp w => c x.1 (fun r1 w' => K (.int .i64 r1) w') w
def ann54 : Ann := { loops := [], joins := [(2, [(16, .one (.bool))])] }
theorem Z54 : Tie Tryz.prog [] ann54 Tryz.f54 (G54 (F.span_Span_Die env)) := fun x K Kp w => by kernel_rfl
theorem fits54 : FitsOne Tryz.prog 54 (ent (G54 (F.span_Span_Die env))) := fits_of fits_nil mixed Tryz.func54 Tryz.call54 (by kernel_rfl) (by kernel_rfl) (by kernel_rfl) (Z54)
def G79 (c : Y35) : Sem [.one (.ptr), .one (.int .i64)] := fun x K Kp w => c x.1 x.2.1 (fun r1 w' => K (.bool r1) w') w
theorem Z79 : Tie Tryz.prog [] ann0 Tryz.f79 (G79 (F.fix_Fix_Live env)) := fun x K Kp w => by kernel_rfl
theorem fits79 : FitsOne Tryz.prog 79 (ent (G79 (F.fix_Fix_Live env))) := fits_of fits_nil mixed Tryz.func79 Tryz.call79 (by kernel_rfl) (by kernel_rfl) (by kernel_rfl) (Z79)
def G57 (c : Y10) : Sem [.one (.ptr), .one (.int .i64)] := fun x K Kp w => c x.1 x.2.1 (fun r1 w' => K (.int .i64 r1) w') w
theorem Z57 (c0 : Y35) : Tie Tryz.prog [(79, ent (G79 c0))] ann0 Tryz.f57 (G57 (T0.fix_Fix_Give env c0)) := fun x K Kp w => by kernel_rfl
theorem fits57 : FitsOne Tryz.prog 57 (ent (G57 (F.fix_Fix_Give env))) := fits_of (fits_cons fits79 fits_nil) mixed Tryz.func57 Tryz.call57 (by kernel_rfl) (by kernel_rfl) (by kernel_rfl) (Z57 _)
def G27 (c : Y10) : Sem [.one (.ptr), .one (.int .i64)] := fun x K Kp w => c x.1 x.2.1 (fun r1 w' => K (.int .i64 r1) w') w
theorem Z27 (c0 : Y29) (c1 : Y30) (c2 : Y28) (c3 : Y11) (c4 : Y10) : Tie Tryz.prog [(54, ent (G54 c0)), (33, ent (G33 c1)), (55, ent (G55 c2)), (56, ent (G56 c3)), (57, ent (G57 c4))] ann0 Tryz.f27 (G27 (T0.mheap_Heap_Free env c0 c1 c2 c3 c4)) := fun x K Kp w => by kernel_rfl
theorem fits27 : FitsOne Tryz.prog 27 (ent (G27 (F.mheap_Heap_Free env))) := fits_of (fits_cons fits54 (fits_cons fits33 (fits_cons fits55 (fits_cons fits56 (fits_cons fits57 fits_nil))))) mixed Tryz.func27 Tryz.call27 (by kernel_rfl) (by kernel_rfl) (by kernel_rfl) (Z27 _ _ _ _ _)
def G80 (c : Y42) : Sem [.one (.int .u32), .one (.int .u32)] := fun x K Kp w => c x.1 x.2.1 (fun r1 w' => K (.int .u32 r1) w') w
theorem Z80 : Tie Tryz.prog [] ann0 Tryz.f80 (G80 (F.num_Quot env)) := fun x K Kp w => by kernel_rfl
theorem fits80 : FitsOne Tryz.prog 80 (ent (G80 (F.num_Quot env))) := fits_of fits_nil mixed Tryz.func80 Tryz.call80 (by kernel_rfl) (by kernel_rfl) (by kernel_rfl) (Z80)
def G58 (c : Y36) : Sem [.one (.ptr), .one (.int .u64)] := fun x K Kp w => c x.1 x.2.1 (fun r1 r2 w' => K (.tuple ⟨[.int .i64 r1, .int .i64 r2]⟩) w') w
def ann58 : Ann := { loops := [], joins := [(2, [(36, .one (.bool))])] }
theorem Z58 (c0 : Y42) : Tie Tryz.prog [(80, ent (G80 c0))] ann58 Tryz.f58 (G58 (T0.span_Span_Index env c0)) := fun x K Kp w => by kernel_rfl
theorem fits58 : FitsOne Tryz.prog 58 (ent (G58 (F.span_Span_Index env))) := fits_of (fits_cons fits80 fits_nil) mixed Tryz.func58 Tryz.call58 (by kernel_rfl) (by kernel_rfl) (by kernel_rfl) (Z58 _)
def G28 (c : Y13) : Sem [.one (.ptr), .one (.int .i64), .one (.int .u64)] := fun x K Kp w => c x.1 x.2.1 x.2.2.1 (fun  w' => K (.tuple ⟨[]⟩) w') w
theorem Z28 (c0 : Y10) (c1 : Y36) (c2 : Y10) (c3 : Y30) (c4 : Y10) : Tie Tryz.prog [(24, ent (G24 c0)), (58, ent (G58 c1)), (26, ent (G26 c2)), (33, ent (G33 c3)), (27, ent (G27 c4))] ann0 Tryz.f28 (G28 (T0.stack_Stacks_give env c0 c1 c2 c3 c4)) := fun x K Kp w => by kernel_rfl
theorem fits28 : FitsOne Tryz.prog 28 (ent (G28 (F.stack_Stacks_give env))) := fits_of (fits_cons fits24 (fits_cons fits58 (fits_cons fits26 (fits_cons fits33 (fits_cons fits27 fits_nil))))) mixed Tryz.func28 Tryz.call28 (by kernel_rfl) (by kernel_rfl) (by kernel_rfl) (Z28 _ _ _ _ _)
def G9 (c : Y14) : Sem [.one (.ptr), .one (.int .i64), .one (.int .u64)] := fun x K Kp w => c x.1 x.2.1 x.2.2.1 (fun r1 r2 w' => K (.tuple ⟨[.int .u64 r1, .int .i64 r2]⟩) w') w
def ann9 : Ann := { loops := [(17, [])], joins := [(13, []), (19, [])] }
theorem Z9 (c0 : Y19) (c1 : Y6) (c2 : Y10) (c3 : Y37) (c4 : Y10) (c5 : Y10) (c6 : Y29) (c7 : Y13) : Tie Tryz.prog [(17, ent (G17 c0)), (18, ent (G18 c1)), (24, ent (G24 c2)), (25, ent (G25 c3)), (26, ent (G26 c4)), (27, ent (G27 c5)), (29, ent (G29 c6)), (28, ent (G28 c7))] ann9 Tryz.f9 (G9 (T0.stack_Stacks_Free env c0 c1 c2 c3 c4 c5 c6 c7)) := fun x K Kp w => by kernel_rfl
theorem fits9 : FitsOne Tryz.prog 9 (ent (G9 (F.stack_Stacks_Free env))) := fits_of (fits_cons fits17 (fits_cons fits18 (fits_cons fits24 (fits_cons fits25 (fits_cons fits26 (fits_cons fits27 (fits_cons fits29 (fits_cons fits28 fits_nil)))))))) mixed Tryz.func9 Tryz.call9 (by kernel_rfl) (by kernel_rfl) (by kernel_rfl) (Z9 _ _ _ _ _ _ _ _)
def G10 (c : Y33) : Sem [.one (.ptr), .one (.int .i64)] := fun x K Kp w => c x.1 x.2.1 (fun  w' => K (.tuple ⟨[]⟩) w') w
def ann10 : Ann := { loops := [(2, [(9, .one (.int .i64))]), (5, [])], joins := [] }
theorem Z10 (c0 : Y19) (c1 : Y29) (c2 : Y13) : Tie Tryz.prog [(17, ent (G17 c0)), (29, ent (G29 c1)), (28, ent (G28 c2))] ann10 Tryz.f10 (G10 (T0.stack_Stacks_Flush env c0 c1 c2)) := fun x K Kp w => by kernel_rfl
theorem fits10 : FitsOne Tryz.prog 10 (ent (G10 (F.stack_Stacks_Flush env))) := fits_of (fits_cons fits17 (fits_cons fits29 (fits_cons fits28 fits_nil))) mixed Tryz.func10 Tryz.call10 (by kernel_rfl) (by kernel_rfl) (by kernel_rfl) (Z10 _ _ _)
def G59 (c : Y29) : Sem [.one (.ptr)] := fun x K Kp w => c x.1 (fun r1 w' => K (.int .u64 r1) w') w
theorem Z59 : Tie Tryz.prog [] ann0 Tryz.f59 (G59 (F.stretch_Set_Sum env)) := fun x K Kp w => by kernel_rfl
theorem fits59 : FitsOne Tryz.prog 59 (ent (G59 (F.stretch_Set_Sum env))) := fits_of fits_nil mixed Tryz.func59 Tryz.call59 (by kernel_rfl) (by kernel_rfl) (by kernel_rfl) (Z59)
def G30 (c : Y29) : Sem [.one (.ptr)] := fun x K Kp w => c x.1 (fun r1 w' => K (.int .u64 r1) w') w
theorem Z30 (c0 : Y29) : Tie Tryz.prog [(59, ent (G59 c0))] ann0 Tryz.f30 (G30 (T0.radix_Tree_Released env c0)) := fun x K Kp w => by kernel_rfl
theorem fits30 : FitsOne Tryz.prog 30 (ent (G30 (F.radix_Tree_Released env))) := fits_of (fits_cons fits59 fits_nil) mixed Tryz.func30 Tryz.call30 (by kernel_rfl) (by kernel_rfl) (by kernel_rfl) (Z30 _)
def G31 (c : Y43) : Sem [.one (.ptr)] := fun x K Kp w => c x.1 (fun r1 r2 r3 w' => K (.tuple ⟨[.int .u64 r1, .int .u64 r2, .int .u64 r3]⟩) w') w
theorem Z31 (c0 : Y15) : Tie Tryz.prog [(60, ent (G60 c0))] ann0 Tryz.f31 (G31 (T0.pcache_Cache_Tell env c0)) := fun x K Kp w => by kernel_rfl
theorem fits31 : FitsOne Tryz.prog 31 (ent (G31 (F.pcache_Cache_Tell env))) := fits_of (fits_cons fits60 fits_nil) mixed Tryz.func31 Tryz.call31 (by kernel_rfl) (by kernel_rfl) (by kernel_rfl) (Z31 _)
def G32 (c : Y29) : Sem [.one (.ptr)] := fun x K Kp w => c x.1 (fun r1 w' => K (.int .u64 r1) w') w
theorem Z32 (c0 : Y29) : Tie Tryz.prog [(59, ent (G59 c0))] ann0 Tryz.f32 (G32 (T0.arena_Map_Count env c0)) := fun x K Kp w => by kernel_rfl
theorem fits32 : FitsOne Tryz.prog 32 (ent (G32 (F.arena_Map_Count env))) := fits_of (fits_cons fits59 fits_nil) mixed Tryz.func32 Tryz.call32 (by kernel_rfl) (by kernel_rfl) (by kernel_rfl) (Z32 _)
def G11 (c : Y43) : Sem [.one (.ptr)] := fun x K Kp w => c x.1 (fun r1 r2 r3 w' => K (.tuple ⟨[.int .u64 r1, .int .u64 r2, .int .u64 r3]⟩) w') w
def ann11 : Ann := { loops := [(3, [(5, .one (.int .u64)), (20, .one (.int .i64))]), (6, [(5, .one (.int .u64)), (10, .one (.int .u64))])], joins := [] }
theorem Z11 (c0 : Y29) (c1 : Y43) (c2 : Y29) : Tie Tryz.prog [(30, ent (G30 c0)), (31, ent (G31 c1)), (32, ent (G32 c2))] ann11 Tryz.f11 (G11 (T0.mheap_Heap_Pages env c0 c1 c2)) := fun x K Kp w => by kernel_rfl
theorem fits11 : FitsOne Tryz.prog 11 (ent (G11 (F.mheap_Heap_Pages env))) := fits_of (fits_cons fits30 (fits_cons fits31 (fits_cons fits32 fits_nil))) mixed Tryz.func11 Tryz.call11 (by kernel_rfl) (by kernel_rfl) (by kernel_rfl) (Z11 _ _ _)
def G89 (c : Y6) : Sem [.one (.int .u32)] := fun x K Kp w => c x.1 (fun r1 w' => K (.int .i64 r1) w') w
def ann89 : Ann := { loops := [], joins := [(4, [(0, .one (.int .u32)), (2, .one (.int .i64))]), (7, [(0, .one (.int .u32)), (2, .one (.int .i64))])] }
theorem Z89 : Tie Tryz.prog [] ann89 Tryz.f89 (G89 (F.math_bits_Len32 env)) := fun x K Kp w => by kernel_rfl
theorem fits89 : FitsOne Tryz.prog 89 (ent (G89 (F.math_bits_Len32 env))) := fits_of fits_nil mixed Tryz.func89 Tryz.call89 (by kernel_rfl) (by kernel_rfl) (by kernel_rfl) (Z89)
def G90 (c : Y6) : Sem [.one (.int .u64)] := fun x K Kp w => c x.1 (fun r1 w' => K (.int .i64 r1) w') w
def ann90 : Ann := { loops := [], joins := [(4, [(0, .one (.int .u64)), (2, .one (.int .i64))]), (7, [(0, .one (.int .u64)), (2, .one (.int .i64))]), (10, [(0, .one (.int .u64)), (2, .one (.int .i64))])] }
theorem Z90 : Tie Tryz.prog [] ann90 Tryz.f90 (G90 (F.math_bits_Len64 env)) := fun x K Kp w => by kernel_rfl
theorem fits90 : FitsOne Tryz.prog 90 (ent (G90 (F.math_bits_Len64 env))) := fits_of fits_nil mixed Tryz.func90 Tryz.call90 (by kernel_rfl) (by kernel_rfl) (by kernel_rfl) (Z90)
def G62 (c : Y6) : Sem [.one (.int .u64)] := fun x K Kp w => c x.1 (fun r1 w' => K (.int .i64 r1) w') w
theorem Z62 (c0 : Y6) : Tie Tryz.prog [(89, ent (G89 (F.math_bits_Len32 env))), (90, ent (G90 c0))] ann0 Tryz.f62 (G62 (T0.math_bits_Len env c0)) := fun x K Kp w => by kernel_rfl
theorem fits62 : FitsOne Tryz.prog 62 (ent (G62 (F.math_bits_Len env))) := fits_of (fits_cons fits89 (fits_cons fits90 fits_nil)) mixed Tryz.func62 Tryz.call62 (by kernel_rfl) (by kernel_rfl) (by kernel_rfl) (Z62 _)
def G81 (c : Y45) : Sem [.one (.sl), .one (.int .i64), .one (.int .i64), .one (.any)] := fun x K Kp w => c x.1 x.2.1 x.2.2.1 x.2.2.2.1 (fun  w' => K (.tuple ⟨[]⟩) w') w
noncomputable def C81 : Entry := ent (G81 (F.slices_insertionSortCmpFunc_int_ env))
def ann81 : Ann := { loops := [(1, [(8, .one (.int .i64))]), (4, [(9, .one (.int .i64))])], joins := [] }
theorem Z81 : Tie Tryz.prog [] ann81 Tryz.f81 (G81 (F.slices_insertionSortCmpFunc_int_ env)) := fun x K Kp w => by kernel_rfl
theorem fits81 : FitsOne Tryz.prog 81 (ent (G81 (F.slices_insertionSortCmpFunc_int_ env))) := fits_of fits_nil mixed Tryz.func81 Tryz.call81 (by kernel_rfl) (by kernel_rfl) (by kernel_rfl) (Z81)
def G102 (c : Y44) : Sem [.one (.sl), .one (.int .i64), .one (.int .i64), .one (.int .i64), .one (.any)] := fun x K Kp w => c x.1 x.2.1 x.2.2.1 x.2.2.2.1 x.2.2.2.2.1 (fun  w' => K (.tuple ⟨[]⟩) w') w
def ann102 : Ann := { loops := [(1, [(10, .one (.int .i64))])], joins := [(4, [(40, .one (.bool))]), (5, [(11, .one (.int .i64))])] }
theorem Z102 : Tie Tryz.prog [] ann102 Tryz.f102 (G102 (F.slices_siftDownCmpFunc_int_ env)) := fun x K Kp w => by kernel_rfl
theorem fits102 : FitsOne Tryz.prog 102 (ent (G102 (F.slices_siftDownCmpFunc_int_ env))) := fits_of fits_nil mixed Tryz.func102 Tryz.call102 (by kernel_rfl) (by kernel_rfl) (by kernel_rfl) (Z102)
def G82 (c : Y45) : Sem [.one (.sl), .one (.int .i64), .one (.int .i64), .one (.any)] := fun x K Kp w => c x.1 x.2.1 x.2.2.1 x.2.2.2.1 (fun  w' => K (.tuple ⟨[]⟩) w') w
noncomputable def C82 : Entry := ent (G82 (F.slices_heapSortCmpFunc_int_ env))
def ann82 : Ann := { loops := [(4, [(11, .one (.int .i64))]), (8, [(12, .one (.int .i64))])], joins := [] }
theorem Z82 (c0 : Y44) : Tie Tryz.prog [(102, ent (G102 c0))] ann82 Tryz.f82 (G82 (T0.slices_heapSortCmpFunc_int_ env c0)) := fun x K Kp w => by kernel_rfl
theorem fits82 : FitsOne Tryz.prog 82 (ent (G82 (F.slices_heapSortCmpFunc_int_ env))) := fits_of (fits_cons fits102 fits_nil) mixed Tryz.func82 Tryz.call82 (by kernel_rfl) (by kernel_rfl) (by kernel_rfl) (Z82 _)
def G103 (c : Y6) : Sem [.one (.int .i64)] := fun x K Kp w => c x.1 (fun r1 w' => K (.int .u64 r1) w') w
theorem Z103 (c0 : Y6) : Tie Tryz.prog [(62, ent (G62 c0))] ann0 Tryz.f103 (G103 (T0.slices_nextPowerOfTwo env c0)) := fun x K Kp w => by kernel_rfl
theorem fits103 : FitsOne Tryz.prog 103 (ent (G103 (F.slices_nextPowerOfTwo env))) := fits_of (fits_cons fits62 fits_nil) mixed Tryz.func103 Tryz.call103 (by kernel_rfl) (by kernel_rfl) (by kernel_rfl) (Z103 _)
def G104 (c : Y29) : Sem [.one (.ptr)] := fun x K Kp w => c x.1 (fun r1 w' => K (.int .u64 r1) w') w
theorem Z104 : Tie Tryz.prog [] ann0 Tryz.f104 (G104 (F.slices_xorshift_Next env)) := fun x K Kp w => by kernel_rfl
theorem fits104 : FitsOne Tryz.prog 104 (ent (G104 (F.slices_xorshift_Next env))) := fits_of fits_nil mixed Tryz.func104 Tryz.call104 (by kernel_rfl) (by kernel_rfl) (by kernel_rfl) (Z104)
def G83 (c : Y45) : Sem [.one (.sl), .one (.int .i64), .one (.int .i64), .one (.any)] := fun x K Kp w => c x.1 x.2.1 x.2.2.1 x.2.2.2.1 (fun  w' => K (.tuple ⟨[]⟩) w') w
noncomputable def C83 : Entry := ent (G83 (F.slices_breakPatternsCmpFunc_int_ env))
def ann83 : Ann := { loops := [(5, [(11, .one (.int .i64))])], joins := [(10, [(12, .one (.int .i64))])] }
theorem Z83 (c0 : Y6) (c1 : Y29) : Tie Tryz.prog [(103, ent (G103 c0)), (104, ent (G104 c1))] ann83 Tryz.f83 (G83 (T0.slices_breakPatternsCmpFunc_int_ env c0 c1)) := fun x K Kp w => by kernel_rfl
theorem fits83 : FitsOne Tryz.prog 83 (ent (G83 (F.slices_breakPatternsCmpFunc_int_ env))) := fits_of (fits_cons fits103 (fits_cons fits104 fits_nil)) mixed Tryz.func83 Tryz.call83 (by kernel_rfl) (by kernel_rfl) (by kernel_rfl) (Z83 _ _)
def G122 (c : Y46) : Sem [.one (.sl), .one (.int .i64), .one (.int .i64), .one (.ptr), .one (.any)] := fun x K Kp w => c x.1 x.2.1 x.2.2.1 x.2.2.2.1 x.2.2.2.2.1 (fun r1 r2 w' => K (.tuple ⟨[.int .i64 r1, .int .i64 r2]⟩) w') w
theorem Z122 : Tie Tryz.prog [] ann0 Tryz.f122 (G122 (F.slices_order2CmpFunc_int_ env)) := fun x K Kp w => by kernel_rfl
theorem fits122 : FitsOne Tryz.prog 122 (ent (G122 (F.slices_order2CmpFunc_int_ env))) := fits_of fits_nil mixed Tryz.func122 Tryz.call122 (by kernel_rfl) (by kernel_rfl) (by kernel_rfl) (Z122)
def G106 (c : Y47) : Sem [.one (.sl), .one (.int .i64), .one (.int .i64), .one (.int .i64), .one (.ptr), .one (.any)] := fun x K Kp w => c x.1 x.2.1 x.2.2.1 x.2.2.2.1 x.2.2.2.2.1 x.2.2.2.2.2.1 (fun r1 w' => K (.int .i64 r1) w') w
theorem Z106 (c0 : Y46) : Tie Tryz.prog [(122, ent (G122 c0))] ann0 Tryz.f106 (G106 (T0.slices_medianCmpFunc_int_ env c0)) := fun x K Kp w => by kernel_rfl
theorem fits106 : FitsOne Tryz.prog 106 (ent (G106 (F.slices_medianCmpFunc_int_ env))) := fits_of (fits_cons fits122 fits_nil) mixed Tryz.func106 Tryz.call106 (by kernel_rfl) (by kernel_rfl) (by kernel_rfl) (Z106 _)
def G105 (c : Y48) : Sem [.one (.sl), .one (.int .i64), .one (.ptr), .one (.any)] := fun x K Kp w => c x.1 x.2.1 x.2.2.1 x.2.2.2.1 (fun r1 w' => K (.int .i64 r1) w') w
theorem Z105 (c0 : Y47) : Tie Tryz.prog [(106, ent (G106 c0))] ann0 Tryz.f105 (G105 (T0.slices_medianAdjacentCmpFunc_int_ env c0)) := fun x K Kp w => by kernel_rfl
theorem fits105 : FitsOne Tryz.prog 105 (ent (G105 (F.slices_medianAdjacentCmpFunc_int_ env))) := fits_of (fits_cons fits106 fits_nil) mixed Tryz.func105 Tryz.call105 (by kernel_rfl) (by kernel_rfl) (by kernel_rfl) (Z105 _)
def G84 (c : Y49) : Sem [.one (.sl), .one (.int .i64), .one (.int .i64), .one (.any)] := fun x K Kp w => c x.1 x.2.1 x.2.2.1 x.2.2.2.1 (fun r1 r2 w' => K (.tuple ⟨[.int .i64 r1, .int .i64 r2]⟩) w') w
noncomputable def C84 : Entry := ent (G84 (F.slices_choosePivotCmpFunc_int_ env))
def ann84 : Ann := { loops := [], joins := [(11, [(12, .one (.int .i64)), (13, .one (.int .i64)), (14, .one (.int .i64))]), (12, [(13, .one (.int .i64))])] }
theorem Z84 (c0 : Y48) (c1 : Y47) : Tie Tryz.prog [(105, ent (G105 c0)), (106, ent (G106 c1))] ann84 Tryz.f84 (G84 (T0.slices_choosePivotCmpFunc_int_ env c0 c1)) := fun x K Kp w => by kernel_rfl
theorem fits84 : FitsOne Tryz.prog 84 (ent (G84 (F.slices_choosePivotCmpFunc_int_ env))) := fits_of (fits_cons fits105 (fits_cons fits106 fits_nil)) mixed Tryz.func84 Tryz.call84 (by kernel_rfl) (by kernel_rfl) (by kernel_rfl) (Z84 _ _)
def G85 (c : Y45) : Sem [.one (.sl), .one (.int .i64), .one (.int .i64), .one (.any)] := fun x K Kp w => c x.1 x.2.1 x.2.2.1 x.2.2.2.1 (fun  w' => K (.tuple ⟨[]⟩) w') w
noncomputable def C85 : Entry := ent (G85 (F.slices_reverseRangeCmpFunc_int_ env))
def ann85 : Ann := { loops := [(2, [(8, .one (.int .i64)), (9, .one (.int .i64))])], joins := [] }
theorem Z85 : Tie Tryz.prog [] ann85 Tryz.f85 (G85 (F.slices_reverseRangeCmpFunc_int_ env)) := fun x K Kp w => by kernel_rfl
theorem fits85 : FitsOne Tryz.prog 85 (ent (G85 (F.slices_reverseRangeCmpFunc_int_ env))) := fits_of fits_nil mixed Tryz.func85 Tryz.call85 (by kernel_rfl) (by kernel_rfl) (by kernel_rfl) (Z85)
def G86 (c : Y56) : Sem [.one (.sl), .one (.int .i64), .one (.int .i64), .one (.any)] := fun x K Kp w => c x.1 x.2.1 x.2.2.1 x.2.2.2.1 (fun r1 w' => K (.bool r1) w') w
noncomputable def C86 : Entry := ent (G86 (F.slices_partialInsertionSortCmpFunc_int_ env))
def ann86 : Ann := { loops := [(3, [(9, .one (.int .i64)), (10, .one (.int .i64))]), (5, [(9, .one (.int .i64))]), (14, [(11, .one (.int .i64))]), (20, [(12, .one (.int .i64))])], joins := [(7, [(9, .one (.int .i64))]), (18, [])] }
theorem Z86 : Tie Tryz.prog [] ann86 Tryz.f86 (G86 (F.slices_partialInsertionSortCmpFunc_int_ env)) := fun x K Kp w => by kernel_rfl
theorem fits86 : FitsOne Tryz.prog 86 (ent (G86 (F.slices_partialInsertionSortCmpFunc_int_ env))) := fits_of fits_nil mixed Tryz.func86 Tryz.call86 (by kernel_rfl) (by kernel_rfl) (by kernel_rfl) (Z86)
def G87 (c : Y57) : Sem [.one (.sl), .one (.int .i64), .one (.int .i64), .one (.int .i64), .one (.any)] := fun x K Kp w => c x.1 x.2.1 x.2.2.1 x.2.2.2.1 x.2.2.2.2.1 (fun r1 w' => K (.int .i64 r1) w') w
noncomputable def C87 : Entry := ent (G87 (F.slices_partitionEqualCmpFunc_int_ env))
def ann87 : Ann := { loops := [(3, [(11, .one (.int .i64)), (12, .one (.int .i64))]), (5, [(12, .one (.int .i64))])], joins := [(5, [(11, .one (.int .i64))]), (7, [(12, .one (.int .i64))])] }
theorem Z87 : Tie Tryz.prog [] ann87 Tryz.f87 (G87 (F.slices_partitionEqualCmpFunc_int_ env)) := fun x K Kp w => by kernel_rfl
theorem fits87 : FitsOne Tryz.prog 87 (ent (G87 (F.slices_partitionEqualCmpFunc_int_ env))) := fits_of fits_nil mixed Tryz.func87 Tryz.call87 (by kernel_rfl) (by kernel_rfl) (by kernel_rfl) (Z87)
def G88 (c : Y58) : Sem [.one (.sl), .one (.int .i64), .one (.int .i64), .one (.int .i64), .one (.any)] := fun x K Kp w => c x.1 x.2.1 x.2.2.1 x.2.2.2.1 x.2.2.2.2.1 (fun r1 r2 w' => K (.tuple ⟨[.int .i64 r1, .bool r2]⟩) w') w
noncomputable def C88 : Entry := ent (G88 (F.slices_partitionCmpFunc_int_ env))
def ann88 : Ann := { loops := [(3, [(12, .one (.int .i64))]), (5, [(13, .one (.int .i64))]), (13, [(12, .one (.int .i64)), (13, .one (.int .i64))]), (15, [(13, .one (.int .i64))])], joins := [(5, [(12, .one (.int .i64))]), (7, [(13, .one (.int .i64))]), (15, [(12, .one (.int .i64))]), (17, [(13, .one (.int .i64))])] }
theorem Z88 : Tie Tryz.prog [] ann88 Tryz.f88 (G88 (F.slices_partitionCmpFunc_int_ env)) := fun x K Kp w => by kernel_rfl
theorem fits88 : FitsOne Tryz.prog 88 (ent (G88 (F.slices_partitionCmpFunc_int_ env))) := fits_of fits_nil mixed Tryz.func88 Tryz.call88 (by kernel_rfl) (by kernel_rfl) (by kernel_rfl) (Z88)
noncomputable def Cn61 (n : Nat) : Entry := fun args w K Kp => unArgs [.one (.sl), .one (.int .i64), .one (.int .i64), .one (.int .i64), .one (.any)] args.toList fun x => F.slices_pdqsortCmpFunc_int_ env n x.1 x.2.1 x.2.2.1 x.2.2.2.1 x.2.2.2.2.1 (fun  w' => K (.tuple ⟨[]⟩) w') w
noncomputable def C61 : Entry := fun args w K Kp => ∃ n, Cn61 n args w K Kp
noncomputable def body61 : Code := (Tryz.f61.body).getD .skip
def ann61 : Ann := { loops := [(2, [(1, .one (.int .i64)), (2, .one (.int .i64)), (3, .one (.int .i64)), (10, .one (.bool)), (11, .one (.bool))])], joins := [(10, [(3, .one (.int .i64))]), (15, [(13, .one (.int .i64)), (14, .one (.int .i64))]), (16, [(75, .one (.bool))]), (17, []), (18, [(97, .one (.bool))])] }
theorem tie61 (n : Nat) (x : ArgsV [.one (.sl), .one (.int .i64), .one (.int .i64), .one (.int .i64), .one (.any)]) (K Kp : Value -> World -> Prop) (w : World) : F.slices_pdqsortCmpFunc_int_ env (n + 1) x.1 x.2.1 x.2.2.1 x.2.2.2.1 x.2.2.2.2.1 (fun  w' => K (.tuple ⟨[]⟩) w') w =
 ev Tryz.prog (tabC [(81, C81), (82, C82), (83, C83), (84, C84), (85, C85), (86, C86), (87, C87), (88, C88), (61, Cn61 n)]) (ground Tryz.prog) ann61 body61 (finQ Tryz.prog Tryz.f61 K Kp) (initF (mkArgs [.one (.sl), .one (.int .i64), .one (.int .i64), .one (.int .i64), .one (.any)] x)) w := by kernel_rfl
theorem fitsN61 (n : Nat) : FitsOne Tryz.prog 61 (Cn61 n) := by
 induction n with
 | zero => intro args w K Kp h; obtain ⟨x, _, h⟩ := unArgs_elim h; exact h.elim
 | succ n ih => exact fits_of_tie (T := [(81, C81), (82, C82), (83, C83), (84, C84), (85, C85), (86, C86), (87, C87), (88, C88), (61, Cn61 n)]) (A := ann61) (fn := Tryz.f61) (c := body61) (fits_cons fits81 (fits_cons fits82 (fits_cons fits83 (fits_cons fits84 (fits_cons fits85 (fits_cons fits86 (fits_cons fits87 (fits_cons fits88 (fits_cons ih fits_nil))))))))) mixed Tryz.func61 Tryz.call61 (by kernel_rfl) (by kernel_rfl) (by kernel_rfl) (tie61 n)
theorem fits61 : FitsOne Tryz.prog 61 C61 := fits_some fitsN61
def G34 (c : Y50) : Sem [.one (.sl), .one (.any)] := fun x K Kp w => c x.1 x.2.1 (fun  w' => K (.tuple ⟨[]⟩) w') w
theorem Z34 (c0 : Y6) : Tie Tryz.prog [(62, ent (G62 c0)), (61, C61)] ann0 Tryz.f34 (G34 (T0.slices_SortFunc___int_int_ env c0)) := fun x K Kp w => by kernel_rfl
theorem fits34 : FitsOne Tryz.prog 34 (ent (G34 (F.slices_SortFunc___int_int_ env))) := fits_of (fits_cons fits62 (fits_cons fits61 fits_nil)) mixed Tryz.func34 Tryz.call34 (by kernel_rfl) (by kernel_rfl) (by kernel_rfl) (Z34 _)
def G13 (c : Y7) : Sem [.one (.ptr)] := fun x K Kp w => c x.1 (fun r1 w' => K (.slice r1.base r1.len r1.cap) w') w
def ann13 : Ann := { loops := [(3, [(3, .one (.sl))])], joins := [(4, [(11, .one (.bool))])] }
theorem Z13 (c0 : Y50) : Tie Tryz.prog [(34, ent (G34 c0))] ann13 Tryz.f13 (G13 (T0.mheap_Heap_Spans env c0)) := fun x K Kp w => by kernel_rfl
theorem fits13 : FitsOne Tryz.prog 13 (ent (G13 (F.mheap_Heap_Spans env))) := fits_of (fits_cons fits34 fits_nil) mixed Tryz.func13 Tryz.call13 (by kernel_rfl) (by kernel_rfl) (by kernel_rfl) (Z13 _)
def G12 (c : Y29) : Sem [.one (.ptr)] := fun x K Kp w => c x.1 (fun r1 w' => K (.int .u64 r1) w') w
def ann12 : Ann := { loops := [(3, [(3, .one (.int .u64)), (15, .one (.int .i64))])], joins := [] }
theorem Z12 (c0 : Y7) (c1 : Y37) (c2 : Y30) : Tie Tryz.prog [(13, ent (G13 c0)), (25, ent (G25 c1)), (33, ent (G33 c2))] ann12 Tryz.f12 (G12 (T0.stack_Stacks_Inuse env c0 c1 c2)) := fun x K Kp w => by kernel_rfl
theorem fits12 : FitsOne Tryz.prog 12 (ent (G12 (F.stack_Stacks_Inuse env))) := fits_of (fits_cons fits13 (fits_cons fits25 (fits_cons fits33 fits_nil))) mixed Tryz.func12 Tryz.call12 (by kernel_rfl) (by kernel_rfl) (by kernel_rfl) (Z12 _ _ _)
def G37 (c : Y51) : Sem [.one (.ptr), .one (.int .i64)] := fun x K Kp w => c x.1 x.2.1 (fun r1 w' => K (.slice r1.base r1.len r1.cap) w') w
def ann37 : Ann := { loops := [(4, [(5, .one (.sl)), (16, .one (.int .i64))])], joins := [] }
theorem Z37 (c0 : Y19) : Tie Tryz.prog [(17, ent (G17 c0))] ann37 Tryz.f37 (G37 (T0.stack_Stacks_Cached env c0)) := fun x K Kp w => by kernel_rfl
theorem fits37 : FitsOne Tryz.prog 37 (ent (G37 (F.stack_Stacks_Cached env))) := fits_of (fits_cons fits17 fits_nil) mixed Tryz.func37 Tryz.call37 (by kernel_rfl) (by kernel_rfl) (by kernel_rfl) (Z37 _)
def G14 (c : Y52) : Sem [] := fun x K Kp w => c  (fun r1 w' => K (.bool r1) w') w
theorem Z14 (c0 : Y1) (c1 : Y5) (c2 : Y14) (c3 : Y14) (c4 : Y51) (c5 : Y29) : Tie Tryz.prog [(4, ent (G4 c0)), (5, ent (G5 c1)), (6, ent (G6 c2)), (9, ent (G9 c3)), (37, ent (G37 c4)), (12, ent (G12 c5))] ann0 Tryz.f14 (G14 (T0.mallowlaw21_awake env c0 c1 c2 c3 c4 c5)) := fun x K Kp w => by kernel_rfl
theorem fits14 : FitsOne Tryz.prog 14 (ent (G14 (F.mallowlaw21_awake env))) := fits_of (fits_cons fits4 (fits_cons fits5 (fits_cons fits6 (fits_cons fits9 (fits_cons fits37 (fits_cons fits12 fits_nil)))))) mixed Tryz.func14 Tryz.call14 (by kernel_rfl) (by kernel_rfl) (by kernel_rfl) (Z14 _ _ _ _ _ _)
def G3 (c : Y53) : Sem [.one (.sl), .one (.sl), .one (.sl)] := fun x K Kp w => c x.1 x.2.1 x.2.2.1 (fun r1 w' => K (.bool r1) w') w
def ann3 : Ann := { loops := [(11, [(9, .one (.sl)), (10, .one (.sl)), (11, .one (.int .i64))]), (21, [(16, .one (.int .i64))]), (37, [(20, .one (.int .i64))]), (44, [(23, .one (.int .i64))])], joins := [(2, [(39, .one (.bool))]), (16, [(12, .one (.int .i64))]), (19, [(99, .one (.bool))]), (24, [(133, .one (.bool))]), (28, [(171, .one (.bool))]), (31, [(195, .one (.bool))])] }
theorem Z3 (c0 : Y1) (c1 : Y5) (c2 : Y14) (c3 : Y5) (c4 : Y11) (c5 : Y14) (c6 : Y33) (c7 : Y43) (c8 : Y29) (c9 : Y7) (c10 : Y52) : Tie Tryz.prog [(4, ent (G4 c0)), (5, ent (G5 c1)), (6, ent (G6 c2)), (7, ent (G7 c3)), (8, fun args w K Kp => unArgs [.one (.ptr), .one (.int .u64), .one (.int .u64)] args.toList fun x => c4 x.1 x.2.1 x.2.2.1 (fun r1 w' => K (.int .i64 r1) w') w), (9, ent (G9 c5)), (10, ent (G10 c6)), (11, ent (G11 c7)), (12, ent (G12 c8)), (13, ent (G13 c9)), (14, ent (G14 c10))] ann3 Tryz.f3 (G3 (T0.mallowlaw21_StacksApart env c0 c1 c2 c3 c4 c5 c6 c7 c8 c9 c10)) := fun x K Kp w => by kernel_rfl
theorem fits3 : FitsOne Tryz.prog 3 (ent (G3 (F.mallowlaw21_StacksApart env))) := fits_of (fits_cons fits4 (fits_cons fits5 (fits_cons fits6 (fits_cons fits7 (fits_cons fits8 (fits_cons fits9 (fits_cons fits10 (fits_cons fits11 (fits_cons fits12 (fits_cons fits13 (fits_cons fits14 fits_nil))))))))))) mixed Tryz.func3 Tryz.call3 (by kernel_rfl) (by kernel_rfl) (by kernel_rfl) (Z3 _ _ _ _ _ _ _ _ _ _ _)
def G63 (c : Y19) : Sem [.one (.int .u64)] := fun x K Kp w => c x.1 (fun r1 w' => K (.bool r1) w') w
theorem Z63 : Tie Tryz.prog [] ann0 Tryz.f63 (G63 (F.cmp_isNaN_uint64_ env)) := fun x K Kp w => by kernel_rfl
theorem fits63 : FitsOne Tryz.prog 63 (ent (G63 (F.cmp_isNaN_uint64_ env))) := fits_of fits_nil mixed Tryz.func63 Tryz.call63 (by kernel_rfl) (by kernel_rfl) (by kernel_rfl) (Z63)
def G36 (c : Y42) : Sem [.one (.int .u64), .one (.int .u64)] := fun x K Kp w => c x.1 x.2.1 (fun r1 w' => K (.int .i64 r1) w') w
theorem Z36 (c0 : Y19) : Tie Tryz.prog [(63, ent (G63 c0))] ann0 Tryz.f36 (G36 (T0.cmp_Compare_uint64_ env c0)) := fun x K Kp w => by kernel_rfl
theorem fits36 : FitsOne Tryz.prog 36 (ent (G36 (F.cmp_Compare_uint64_ env))) := fits_of (fits_cons fits63 fits_nil) mixed Tryz.func36 Tryz.call36 (by kernel_rfl) (by kernel_rfl) (by kernel_rfl) (Z36 _)
def G35 (c : Y54) : Sem [.one (.int .i64), .one (.int .i64), .one (.ptr)] := fun x K Kp w => c x.1 x.2.1 x.2.2.1 (fun r1 w' => K (.int .i64 r1) w') w
theorem Z35 (c0 : Y30) (c1 : Y42) : Tie Tryz.prog [(33, ent (G33 c0)), (36, ent (G36 c1))] ann0 Tryz.f35 (G35 (T0.mheap_Heap_Spans_1 env c0 c1)) := fun x K Kp w => by kernel_rfl
theorem fits35 : FitsOne Tryz.prog 35 (ent (G35 (F.mheap_Heap_Spans_1 env))) := fits_of (fits_cons fits33 (fits_cons fits36 fits_nil)) mixed Tryz.func35 Tryz.call35 (by kernel_rfl) (by kernel_rfl) (by kernel_rfl) (Z35 _ _)
def G77 (c : Y39) : Sem [.one (.ptr), .one (.int .u64)] := fun x K Kp w => c x.1 x.2.1 (fun r1 w' => K (.pointer r1) w') w
def ann77 : Ann := { loops := [(7, [(25, .one (.int .i64))])], joins := [] }
theorem Z77 (c0 : Y10) (c1 : Y13) : Tie Tryz.prog [(73, ent (G73 c0)), (75, ent (G75 c1))] ann77 Tryz.f77 (G77 (T0.arena_Map_leaf env c0 c1)) := fun x K Kp w => by kernel_rfl
theorem fits77 : FitsOne Tryz.prog 77 (ent (G77 (F.arena_Map_leaf env))) := fits_of (fits_cons fits73 (fits_cons fits75 fits_nil)) mixed Tryz.func77 Tryz.call77 (by kernel_rfl) (by kernel_rfl) (by kernel_rfl) (Z77 _ _)
def G76 (c : Y55) : Sem [.one (.int .u64), .one (.int .u64), .one (.ptr), .one (.ptr)] := fun x K Kp w => c x.1 x.2.1 x.2.2.1 x.2.2.2.1 (fun  w' => K (.tuple ⟨[]⟩) w') w
def ann76 : Ann := { loops := [(1, [(6, .one (.int .u64))])], joins := [] }
theorem Z76 (c0 : Y39) : Tie Tryz.prog [(77, ent (G77 c0))] ann76 Tryz.f76 (G76 (T0.arena_Map_Set_1 env c0)) := fun x K Kp w => by kernel_rfl
theorem fits76 : FitsOne Tryz.prog 76 (ent (G76 (F.arena_Map_Set_1 env))) := fits_of (fits_cons fits77 fits_nil) mixed Tryz.func76 Tryz.call76 (by kernel_rfl) (by kernel_rfl) (by kernel_rfl) (Z76 _)
def G99 (c : Y59) : Sem [.one (.int .i64), .one (.ptr), .one (.ptr)] := fun x K Kp w => c x.1 x.2.1 x.2.2.1 (fun r1 w' => K (.bool r1) w') w
theorem Z99 : Tie Tryz.prog [] ann0 Tryz.f99 (G99 (F.stretch_Set_at_1 env)) := fun x K Kp w => by kernel_rfl
theorem fits99 : FitsOne Tryz.prog 99 (ent (G99 (F.stretch_Set_at_1 env))) := fits_of fits_nil mixed Tryz.func99 Tryz.call99 (by kernel_rfl) (by kernel_rfl) (by kernel_rfl) (Z99)
end Go.Sh

set_option linter.all false
namespace Go.Sh
theorem at1_mono {E : Env} {i : Int} {p1 p2 : Option Addr} {w : World} {K K' : Bool -> World -> Prop} (hk : ∀ b w', K b w' -> K' b w') (h : F.stretch_Set_at_1 E i p1 p2 K w) : F.stretch_Set_at_1 E i p1 p2 K' w := by
  unfold F.stretch_Set_at_1 at h ⊢
  obtain ⟨q1, rfl, x2, h2, h⟩ := NC_elim h
  obtain ⟨q3, rfl, x4, h4, h⟩ := NC_elim h
  obtain ⟨q5, h5, hi, x6, h6, h⟩ := NC_elim h
  obtain ⟨q7, rfl, x8, h8, h⟩ := NC_elim h
  refine ⟨some q3, h2, x4, h4, ?_⟩
  rw [h5]
  exact ⟨hi, x6, h6, x8, h8, hk _ _ h⟩
theorem ground_mono {P : Program} (g : FuncId) (args : Array Value) (w : World) (K K' : Value -> World -> Prop) (hk : ∀ v w', K v w' -> K' v w') (h : ground P g args w K noP) : ground P g args w K' noP :=
  ⟨h.1, h.2.mono fun e w' hE => let ⟨v, hv, h⟩ := hE.val; .inl ⟨v, hv, hk v w' h⟩⟩
end Go.Sh
