/- Each shallow form is what the code of its function comes to, piece 1. No further condition. -/
import Derived.Test.YtdnkgjeggfhfiaaGreatDoorF
import Derived.Test.YtdnkgjeggfhfiaaGreatDoorProg
import Derived.KernelRfl
set_option linter.all false
set_option maxRecDepth 100000
set_option maxHeartbeats 4000000
namespace Go.Sh
open Go.Proofs
theorem mixed : Tryz.prog.follows .mixedOrders = true := by kernel_rfl
noncomputable def env : Env := { call := ground Tryz.prog, t_api_Class := 26, t_uint64 := 37, t_bool := 4, t_api_Answers := 84, t_vmem_Mem := 151, t_map_uint64_api_Sum := 224, t_radix_Tree := 182, t_arena_Map := 179, t_fix_Fix := 192, t_pcache_Cache := 184, t_mheap_Heap := 101, t_sets_Sets := 121, t_special_Specials := 132, t_sweep_Sweeper := 89, t_span_Span := 104, t_stretch_One := 200, t__stretch_Set := 215, t__mheap_Heap := 34, t_api_Errno := 32, t_fix_record := 208, t__fix_record := 190, t_api_Info := 56, t_arena_wide := 210, t__arena_Map := 95, t_int := 3, t_special_record := 130, t_sets_kind := 123, t____sets_item := 124, t_sets_item := 169, t__sets_item := 167, t_api_Special := 80, t_sweep_zombie := 113, t_slices_xorshift := 230, t__512_int := 229, f_stretch_Set_at_1 := 155, f_arena_Map_Set_1 := 126, f_sets_Sets_place_1 := 129, f_mheap_Heap_Spans_1 := 69, g_math_bits_deBruijn64tab := 0 }
def ann0 : Ann := { loops := [], joins := [] }
abbrev Sem (l : List VT) := ArgsV l -> (Value -> World -> Prop) -> (Value -> World -> Prop) -> World -> Prop
def ent {l : List VT} (F : Sem l) : Entry := fun args w K Kp => unArgs l args.toList fun x => F x K Kp w
def Tie (P : Program) (T : List (Nat × Entry)) (A : Ann) (fn : Func) {l : List VT} (F : Sem l) : Prop :=
 ∀ x K Kp w, F x K Kp w = ev P (tabC T) (ground P) A (fn.body.getD .skip) (finQ P fn K Kp) (initF (mkArgs l x)) w
theorem fits_of {P : Program} {T : List (Nat × Entry)} {A : Ann} {f : FuncId} {fn : Func} {l : List VT} {F : Sem l}
 (hT : ∀ p ∈ T, FitsAny P p.1 p.2) (hm : P.follows .mixedOrders = true) (hf : P.funcs[f]? = some fn) (hcall : ∀ args w, (callFunc f args).run P w = .ok (.enter f args) w)
 (hb : fn.body = some (fn.body.getD .skip)) (hsz : Nat.ble l.length fn.ntmps = true) (hW : withinB fn.ntmps (written (fn.body.getD .skip)) = true) (htie : Tie P T A fn F) : FitsOne P f (ent F) :=
 fits_of_tie hT hm hf hcall hb hsz hW htie
def G71 (c : Y0) : Sem [.one (.int .u64)] := fun x K Kp w => c x.1 (fun r1 w' => K (.bool r1) w') w
theorem Z71 : Tie Tryz.prog [] ann0 Tryz.f71 (G71 (F.num_Pow env)) := fun x K Kp w => by kernel_rfl
theorem fits71 : FitsOne Tryz.prog 71 (ent (G71 (F.num_Pow env))) := fits_of fits_nil mixed Tryz.func71 Tryz.call71 (by kernel_rfl) (by kernel_rfl) (by kernel_rfl) (Z71)
def G72 (c : Y1) : Sem [.one (.int .i64), .one (.int .i64)] := fun x K Kp w => c x.1 x.2.1 (fun r1 w' => K (.int .i64 r1) w') w
theorem Z72 (c0 : Y0) : Tie Tryz.prog [(71, ent (G71 c0))] ann0 Tryz.f72 (G72 (T0.class_step env c0)) := fun x K Kp w => by kernel_rfl
theorem fits72 : FitsOne Tryz.prog 72 (ent (G72 (F.class_step env))) := fits_of (fits_cons fits71 fits_nil) mixed Tryz.func72 Tryz.call72 (by kernel_rfl) (by kernel_rfl) (by kernel_rfl) (Z72 _)
def G73 (c : Y1) : Sem [.one (.int .i64), .one (.int .i64)] := fun x K Kp w => c x.1 x.2.1 (fun r1 w' => K (.int .i64 r1) w') w
def ann73 : Ann := { loops := [(2, [(5, .one (.int .i64))])], joins := [] }
theorem Z73 : Tie Tryz.prog [] ann73 Tryz.f73 (G73 (F.class_bytes env)) := fun x K Kp w => by kernel_rfl
theorem fits73 : FitsOne Tryz.prog 73 (ent (G73 (F.class_bytes env))) := fits_of fits_nil mixed Tryz.func73 Tryz.call73 (by kernel_rfl) (by kernel_rfl) (by kernel_rfl) (Z73)
def G74 (c : Y2) : Sem [.one (.int .u32)] := fun x K Kp w => c x.1 (fun r1 w' => K (.int .u32 r1) w') w
theorem Z74 : Tie Tryz.prog [] ann0 Tryz.f74 (G74 (F.num_Magic env)) := fun x K Kp w => by kernel_rfl
theorem fits74 : FitsOne Tryz.prog 74 (ent (G74 (F.num_Magic env))) := fits_of fits_nil mixed Tryz.func74 Tryz.call74 (by kernel_rfl) (by kernel_rfl) (by kernel_rfl) (Z74)
def G35 (c : Y3) : Sem [.one (.int .i64), .one (.int .i64)] := fun x K Kp w => c x.1 x.2.1 (fun r1 r2 w' => K (.tuple ⟨[.slice r1.base r1.len r1.cap, .int .i64 r2]⟩) w') w
def ann35 : Ann := { loops := [(6, [(6, .one (.sl)), (7, .one (.int .i64)), (8, .one (.int .i64))]), (15, [(107, .one (.int .i64))])], joins := [(2, [(42, .one (.bool))]), (12, [(91, .one (.bool))]), (22, [])] }
theorem Z35 (c0 : Y0) (c1 : Y1) (c2 : Y1) (c3 : Y2) : Tie Tryz.prog [(71, ent (G71 c0)), (72, ent (G72 c1)), (73, ent (G73 c2)), (74, ent (G74 c3))] ann35 Tryz.f35 (G35 (T0.class_Make env c0 c1 c2 c3)) := fun x K Kp w => by kernel_rfl
theorem fits35 : FitsOne Tryz.prog 35 (ent (G35 (F.class_Make env))) := fits_of (fits_cons fits71 (fits_cons fits72 (fits_cons fits73 (fits_cons fits74 fits_nil)))) mixed Tryz.func35 Tryz.call35 (by kernel_rfl) (by kernel_rfl) (by kernel_rfl) (Z35 _ _ _ _)
def G9 (c : Y4) : Sem [] := fun x K Kp w => c  (fun r1 w' => K (.slice r1.base r1.len r1.cap) w') w
theorem Z9 (c0 : Y3) : Tie Tryz.prog [(35, ent (G35 c0))] ann0 Tryz.f9 (G9 (T0.class_Table env c0)) := fun x K Kp w => by kernel_rfl
theorem fits9 : FitsOne Tryz.prog 9 (ent (G9 (F.class_Table env))) := fits_of (fits_cons fits35 fits_nil) mixed Tryz.func9 Tryz.call9 (by kernel_rfl) (by kernel_rfl) (by kernel_rfl) (Z9 _)
def G75 (c : Y5) : Sem [.one (.sl)] := fun x K Kp w => c x.1 (fun r1 w' => K (.slice r1.base r1.len r1.cap) w') w
theorem Z75 : Tie Tryz.prog [] ann0 Tryz.f75 (G75 (F.slices_Clone___uint64_uint64_ env)) := fun x K Kp w => by kernel_rfl
theorem fits75 : FitsOne Tryz.prog 75 (ent (G75 (F.slices_Clone___uint64_uint64_ env))) := fits_of fits_nil mixed Tryz.func75 Tryz.call75 (by kernel_rfl) (by kernel_rfl) (by kernel_rfl) (Z75)
def G76 (c : Y5) : Sem [.one (.sl)] := fun x K Kp w => c x.1 (fun r1 w' => K (.slice r1.base r1.len r1.cap) w') w
theorem Z76 : Tie Tryz.prog [] ann0 Tryz.f76 (G76 (F.slices_Clone___bool_bool_ env)) := fun x K Kp w => by kernel_rfl
theorem fits76 : FitsOne Tryz.prog 76 (ent (G76 (F.slices_Clone___bool_bool_ env))) := fits_of fits_nil mixed Tryz.func76 Tryz.call76 (by kernel_rfl) (by kernel_rfl) (by kernel_rfl) (Z76)
def G36 (c : Y6) : Sem [.agg [.sl, .sl, .sl]] := fun x K Kp w => c x.1.1 x.1.2.1 x.1.2.2.1 (fun r1 w' => K (.pointer r1) w') w
theorem Z36 (c0 : Y5) (c1 : Y5) : Tie Tryz.prog [(75, ent (G75 c0)), (76, ent (G76 c1))] ann0 Tryz.f36 (G36 (T0.vmem_New env c0 c1)) := fun x K Kp w => by kernel_rfl
theorem fits36 : FitsOne Tryz.prog 36 (ent (G36 (F.vmem_New env))) := fits_of (fits_cons fits75 (fits_cons fits76 fits_nil)) mixed Tryz.func36 Tryz.call36 (by kernel_rfl) (by kernel_rfl) (by kernel_rfl) (Z36 _ _)
def G107 (c : Y7) : Sem [.one (.ptr)] := fun x K Kp w => c x.1 (fun  w' => K (.tuple ⟨[]⟩) w') w
def ann107 : Ann := { loops := [(2, [(5, .one (.int .i64))])], joins := [] }
theorem Z107 : Tie Tryz.prog [] ann107 Tryz.f107 (G107 (F.radix_Tree_changed env)) := fun x K Kp w => by kernel_rfl
theorem fits107 : FitsOne Tryz.prog 107 (ent (G107 (F.radix_Tree_changed env))) := fits_of fits_nil mixed Tryz.func107 Tryz.call107 (by kernel_rfl) (by kernel_rfl) (by kernel_rfl) (Z107)
def G77 (c : Y8) : Sem [] := fun x K Kp w => c  (fun r1 w' => K (.pointer r1) w') w
theorem Z77 (c0 : Y7) : Tie Tryz.prog [(107, ent (G107 c0))] ann0 Tryz.f77 (G77 (T0.radix_New env c0)) := fun x K Kp w => by kernel_rfl
theorem fits77 : FitsOne Tryz.prog 77 (ent (G77 (F.radix_New env))) := fits_of (fits_cons fits107 fits_nil) mixed Tryz.func77 Tryz.call77 (by kernel_rfl) (by kernel_rfl) (by kernel_rfl) (Z77 _)
def G78 (c : Y8) : Sem [] := fun x K Kp w => c  (fun r1 w' => K (.pointer r1) w') w
theorem Z78 : Tie Tryz.prog [] ann0 Tryz.f78 (G78 (F.arena_New env)) := fun x K Kp w => by kernel_rfl
theorem fits78 : FitsOne Tryz.prog 78 (ent (G78 (F.arena_New env))) := fits_of fits_nil mixed Tryz.func78 Tryz.call78 (by kernel_rfl) (by kernel_rfl) (by kernel_rfl) (Z78)
def G79 (c : Y9) : Sem [.one (.int .i64)] := fun x K Kp w => c x.1 (fun r1 r2 w' => K (.tuple ⟨[.pointer r1, .int .i64 r2]⟩) w') w
def ann79 : Ann := { loops := [], joins := [(2, [(9, .one (.bool))])] }
theorem Z79 : Tie Tryz.prog [] ann79 Tryz.f79 (G79 (F.fix_New env)) := fun x K Kp w => by kernel_rfl
theorem fits79 : FitsOne Tryz.prog 79 (ent (G79 (F.fix_New env))) := fits_of fits_nil mixed Tryz.func79 Tryz.call79 (by kernel_rfl) (by kernel_rfl) (by kernel_rfl) (Z79)
def G80 (c : Y8) : Sem [] := fun x K Kp w => c  (fun r1 w' => K (.pointer r1) w') w
theorem Z80 : Tie Tryz.prog [] ann0 Tryz.f80 (G80 (F.pcache_New env)) := fun x K Kp w => by kernel_rfl
theorem fits80 : FitsOne Tryz.prog 80 (ent (G80 (F.pcache_New env))) := fits_of fits_nil mixed Tryz.func80 Tryz.call80 (by kernel_rfl) (by kernel_rfl) (by kernel_rfl) (Z80)
def G37 (c : Y10) : Sem [.one (.ptr)] := fun x K Kp w => c x.1 (fun r1 w' => K (.pointer r1) w') w
def ann37 : Ann := { loops := [(4, [(18, .one (.int .i64))])], joins := [] }
theorem Z37 (c0 : Y8) (c1 : Y8) (c2 : Y9) (c3 : Y8) : Tie Tryz.prog [(77, ent (G77 c0)), (78, ent (G78 c1)), (79, ent (G79 c2)), (80, ent (G80 c3))] ann37 Tryz.f37 (G37 (T0.mheap_New env c0 c1 c2 c3)) := fun x K Kp w => by kernel_rfl
theorem fits37 : FitsOne Tryz.prog 37 (ent (G37 (F.mheap_New env))) := fits_of (fits_cons fits77 (fits_cons fits78 (fits_cons fits79 (fits_cons fits80 fits_nil)))) mixed Tryz.func37 Tryz.call37 (by kernel_rfl) (by kernel_rfl) (by kernel_rfl) (Z37 _ _ _ _)
def G38 (c : Y8) : Sem [] := fun x K Kp w => c  (fun r1 w' => K (.pointer r1) w') w
theorem Z38 : Tie Tryz.prog [] ann0 Tryz.f38 (G38 (F.sets_New env)) := fun x K Kp w => by kernel_rfl
theorem fits38 : FitsOne Tryz.prog 38 (ent (G38 (F.sets_New env))) := fits_of fits_nil mixed Tryz.func38 Tryz.call38 (by kernel_rfl) (by kernel_rfl) (by kernel_rfl) (Z38)
def G39 (c : Y8) : Sem [] := fun x K Kp w => c  (fun r1 w' => K (.pointer r1) w') w
theorem Z39 : Tie Tryz.prog [] ann0 Tryz.f39 (G39 (F.special_New env)) := fun x K Kp w => by kernel_rfl
theorem fits39 : FitsOne Tryz.prog 39 (ent (G39 (F.special_New env))) := fits_of fits_nil mixed Tryz.func39 Tryz.call39 (by kernel_rfl) (by kernel_rfl) (by kernel_rfl) (Z39)
def G40 (c : Y11) : Sem [.one (.ptr), .one (.ptr), .one (.ptr)] := fun x K Kp w => c x.1 x.2.1 x.2.2.1 (fun r1 w' => K (.pointer r1) w') w
theorem Z40 : Tie Tryz.prog [] ann0 Tryz.f40 (G40 (F.sweep_New env)) := fun x K Kp w => by kernel_rfl
theorem fits40 : FitsOne Tryz.prog 40 (ent (G40 (F.sweep_New env))) := fits_of fits_nil mixed Tryz.func40 Tryz.call40 (by kernel_rfl) (by kernel_rfl) (by kernel_rfl) (Z40)
def G12 (c : Y10) : Sem [.one (.ptr)] := fun x K Kp w => c x.1 (fun r1 w' => K (.pointer r1) w') w
theorem Z12 : Tie Tryz.prog [] ann0 Tryz.f12 (G12 (F.sweep_Sweeper_Heap env)) := fun x K Kp w => by kernel_rfl
theorem fits12 : FitsOne Tryz.prog 12 (ent (G12 (F.sweep_Sweeper_Heap env))) := fits_of fits_nil mixed Tryz.func12 Tryz.call12 (by kernel_rfl) (by kernel_rfl) (by kernel_rfl) (Z12)
def G21 (c : Y10) : Sem [.one (.ptr)] := fun x K Kp w => c x.1 (fun r1 w' => K (.pointer r1) w') w
theorem Z21 : Tie Tryz.prog [] ann0 Tryz.f21 (G21 (F.sweep_Sweeper_Sets env)) := fun x K Kp w => by kernel_rfl
theorem fits21 : FitsOne Tryz.prog 21 (ent (G21 (F.sweep_Sweeper_Sets env))) := fits_of fits_nil mixed Tryz.func21 Tryz.call21 (by kernel_rfl) (by kernel_rfl) (by kernel_rfl) (Z21)
def G11 (c : Y12) : Sem [] := fun x K Kp w => c  (fun r1 r2 w' => K (.tuple ⟨[.pointer r1, .pointer r2]⟩) w') w
def ann11 : Ann := { loops := [], joins := [(6, [(24, .one (.bool))]), (9, [(42, .one (.bool))])] }
theorem Z11 (c0 : Y6) (c1 : Y10) (c2 : Y8) (c3 : Y8) (c4 : Y11) (c5 : Y10) (c6 : Y10) : Tie Tryz.prog [(36, ent (G36 c0)), (37, ent (G37 c1)), (38, ent (G38 c2)), (39, ent (G39 c3)), (40, ent (G40 c4)), (12, ent (G12 c5)), (21, ent (G21 c6))] ann11 Tryz.f11 (G11 (T0.mallowlaw18_fresh env c0 c1 c2 c3 c4 c5 c6)) := fun x K Kp w => by kernel_rfl
theorem fits11 : FitsOne Tryz.prog 11 (ent (G11 (F.mallowlaw18_fresh env))) := fits_of (fits_cons fits36 (fits_cons fits37 (fits_cons fits38 (fits_cons fits39 (fits_cons fits40 (fits_cons fits12 (fits_cons fits21 fits_nil))))))) mixed Tryz.func11 Tryz.call11 (by kernel_rfl) (by kernel_rfl) (by kernel_rfl) (Z11 _ _ _ _ _ _ _)
def G41 (c : Y13) : Sem [.one (.int .u64), .one (.int .u64), .one (.int .i64), .one (.bool)] := fun x K Kp w => c x.1 x.2.1 x.2.2.1 x.2.2.2.1 (fun r1 r2 w' => K (.tuple ⟨[.pointer r1, .int .i64 r2]⟩) w') w
def ann41 : Ann := { loops := [], joins := [(3, [(56, .one (.bool))])] }
theorem Z41 (c0 : Y4) : Tie Tryz.prog [(9, ent (G9 c0))] ann41 Tryz.f41 (G41 (T0.span_New env c0)) := fun x K Kp w => by kernel_rfl
theorem fits41 : FitsOne Tryz.prog 41 (ent (G41 (F.span_New env))) := fits_of (fits_cons fits9 fits_nil) mixed Tryz.func41 Tryz.call41 (by kernel_rfl) (by kernel_rfl) (by kernel_rfl) (Z41 _)
def G108 (c : Y0) : Sem [.one (.int .i64)] := fun x K Kp w => c x.1 (fun r1 w' => K (.bool r1) w') w
theorem Z108 : Tie Tryz.prog [] ann0 Tryz.f108 (G108 (F.mheap_is env)) := fun x K Kp w => by kernel_rfl
theorem fits108 : FitsOne Tryz.prog 108 (ent (G108 (F.mheap_is env))) := fits_of fits_nil mixed Tryz.func108 Tryz.call108 (by kernel_rfl) (by kernel_rfl) (by kernel_rfl) (Z108)
def G102 (c : Y22) : Sem [.one (.ptr)] := fun x K Kp w => c x.1 (fun r1 w' => K (.bool r1) w') w
theorem Z102 : Tie Tryz.prog [] ann0 Tryz.f102 (G102 (F.pcache_Cache_Empty env)) := fun x K Kp w => by kernel_rfl
theorem fits102 : FitsOne Tryz.prog 102 (ent (G102 (F.pcache_Cache_Empty env))) := fits_of fits_nil mixed Tryz.func102 Tryz.call102 (by kernel_rfl) (by kernel_rfl) (by kernel_rfl) (Z102)
def G147 (c : Y14) : Sem [.one (.ptr)] := fun x K Kp w => c x.1 (fun r1 w' => K (.slice r1.base r1.len r1.cap) w') w
theorem Z147 : Tie Tryz.prog [] ann0 Tryz.f147 (G147 (F.stretch_Set_All env)) := fun x K Kp w => by kernel_rfl
theorem fits147 : FitsOne Tryz.prog 147 (ent (G147 (F.stretch_Set_All env))) := fits_of fits_nil mixed Tryz.func147 Tryz.call147 (by kernel_rfl) (by kernel_rfl) (by kernel_rfl) (Z147)
def G114 (c : Y15) : Sem [.one (.ptr), .one (.int .u64)] := fun x K Kp w => c x.1 x.2.1 (fun r1 r2 w' => K (.tuple ⟨[.int .u64 r1, .bool r2]⟩) w') w
def ann114 : Ann := { loops := [(4, [(15, .one (.int .i64))])], joins := [] }
theorem Z114 (c0 : Y14) : Tie Tryz.prog [(147, ent (G147 c0))] ann114 Tryz.f114 (G114 (T0.radix_Tree_Find env c0)) := fun x K Kp w => by kernel_rfl
theorem fits114 : FitsOne Tryz.prog 114 (ent (G114 (F.radix_Tree_Find env))) := fits_of (fits_cons fits147 fits_nil) mixed Tryz.func114 Tryz.call114 (by kernel_rfl) (by kernel_rfl) (by kernel_rfl) (Z114 _)
def G128 (c : Y16) : Sem [.one (.int .i64), .one (.any)] := fun x K Kp w => c x.1 x.2.1 (fun r1 w' => K (.int .i64 r1) w') w
def ann128 : Ann := { loops := [(2, [(5, .one (.int .i64)), (6, .one (.int .i64))])], joins := [] }
theorem Z128 : Tie Tryz.prog [] ann128 Tryz.f128 (G128 (F.sort_Search env)) := fun x K Kp w => by kernel_rfl
theorem fits128 : FitsOne Tryz.prog 128 (ent (G128 (F.sort_Search env))) := fits_of fits_nil mixed Tryz.func128 Tryz.call128 (by kernel_rfl) (by kernel_rfl) (by kernel_rfl) (Z128)
def G149 (c : Y17) : Sem [.one (.ptr), .one (.int .u64)] := fun x K Kp w => c x.1 x.2.1 (fun r1 w' => K (.int .i64 r1) w') w
theorem Z149 (c0 : Y16) : Tie Tryz.prog [(128, ent (G128 c0))] ann0 Tryz.f149 (G149 (T0.stretch_Set_at env c0)) := fun x K Kp w => by kernel_rfl
theorem fits149 : FitsOne Tryz.prog 149 (ent (G149 (F.stretch_Set_at env))) := fits_of (fits_cons fits128 fits_nil) mixed Tryz.func149 Tryz.call149 (by kernel_rfl) (by kernel_rfl) (by kernel_rfl) (Z149 _)
def G119 (c : Y18) : Sem [.one (.ptr), .one (.int .u64), .one (.int .u64)] := fun x K Kp w => c x.1 x.2.1 x.2.2.1 (fun r1 w' => K (.int .u64 r1) w') w
def ann119 : Ann := { loops := [(3, [(7, .one (.int .u64)), (8, .one (.int .i64))])], joins := [] }
theorem Z119 (c0 : Y17) : Tie Tryz.prog [(149, ent (G149 c0))] ann119 Tryz.f119 (G119 (T0.stretch_Set_Count env c0)) := fun x K Kp w => by kernel_rfl
theorem fits119 : FitsOne Tryz.prog 119 (ent (G119 (F.stretch_Set_Count env))) := fits_of (fits_cons fits149 fits_nil) mixed Tryz.func119 Tryz.call119 (by kernel_rfl) (by kernel_rfl) (by kernel_rfl) (Z119 _)
def G148 (c : Y19) : Sem [.one (.ptr), .one (.int .u64), .one (.int .u64), .one (.bool), .one (.int .i64)] := fun x K Kp w => c x.1 x.2.1 x.2.2.1 x.2.2.2.1 x.2.2.2.2.1 (fun r1 w' => K (.int .i64 r1) w') w
def ann148 : Ann := { loops := [], joins := [(4, [(11, .one (.int .u64))]), (5, [(14, .one (.bool))])] }
theorem Z148 (c0 : Y18) : Tie Tryz.prog [(119, ent (G119 c0))] ann148 Tryz.f148 (G148 (T0.radix_Tree_looked env c0)) := fun x K Kp w => by kernel_rfl
theorem fits148 : FitsOne Tryz.prog 148 (ent (G148 (F.radix_Tree_looked env))) := fits_of (fits_cons fits119 fits_nil) mixed Tryz.func148 Tryz.call148 (by kernel_rfl) (by kernel_rfl) (by kernel_rfl) (Z148 _)
def G123 (c : Y20) : Sem [.one (.ptr), .one (.int .u64), .one (.int .u64)] := fun x K Kp w => c x.1 x.2.1 x.2.2.1 (fun  w' => K (.tuple ⟨[]⟩) w') w
def ann123 : Ann := { loops := [(5, [(7, .one (.int .i64)), (8, .one (.sl))])], joins := [(10, [(8, .one (.sl))]), (12, [(7, .one (.int .i64)), (8, .one (.sl))])] }
theorem Z123 (c0 : Y18) (c1 : Y17) : Tie Tryz.prog [(119, ent (G119 c0)), (149, ent (G149 c1))] ann123 Tryz.f123 (G123 (T0.stretch_Set_Cut env c0 c1)) := fun x K Kp w => by kernel_rfl
theorem fits123 : FitsOne Tryz.prog 123 (ent (G123 (F.stretch_Set_Cut env))) := fits_of (fits_cons fits119 (fits_cons fits149 fits_nil)) mixed Tryz.func123 Tryz.call123 (by kernel_rfl) (by kernel_rfl) (by kernel_rfl) (Z123 _ _)
def G115 (c : Y21) : Sem [.one (.ptr), .one (.int .u64), .one (.int .u64)] := fun x K Kp w => c x.1 x.2.1 x.2.2.1 (fun r1 r2 w' => K (.tuple ⟨[.int .u64 r1, .int .i64 r2]⟩) w') w
theorem Z115 (c0 : Y19) (c1 : Y18) (c2 : Y20) (c3 : Y7) : Tie Tryz.prog [(148, ent (G148 c0)), (119, ent (G119 c1)), (123, ent (G123 c2)), (107, ent (G107 c3))] ann0 Tryz.f115 (G115 (T0.radix_Tree_Take env c0 c1 c2 c3)) := fun x K Kp w => by kernel_rfl
theorem fits115 : FitsOne Tryz.prog 115 (ent (G115 (F.radix_Tree_Take env))) := fits_of (fits_cons fits148 (fits_cons fits119 (fits_cons fits123 (fits_cons fits107 fits_nil)))) mixed Tryz.func115 Tryz.call115 (by kernel_rfl) (by kernel_rfl) (by kernel_rfl) (Z115 _ _ _ _)
def G109 (c : Y23) : Sem [.one (.ptr), .one (.ptr)] := fun x K Kp w => c x.1 x.2.1 (fun r1 w' => K (.int .i64 r1) w') w
def ann109 : Ann := { loops := [(8, [(28, .one (.int .u64))])], joins := [] }
theorem Z109 (c0 : Y15) (c1 : Y22) (c2 : Y21) : Tie Tryz.prog [(114, ent (G114 c0)), (102, ent (G102 c1)), (115, ent (G115 c2))] ann109 Tryz.f109 (G109 (T0.pcache_Cache_Fill env c0 c1 c2)) := fun x K Kp w => by kernel_rfl
theorem fits109 : FitsOne Tryz.prog 109 (ent (G109 (F.pcache_Cache_Fill env))) := fits_of (fits_cons fits114 (fits_cons fits102 (fits_cons fits115 fits_nil))) mixed Tryz.func109 Tryz.call109 (by kernel_rfl) (by kernel_rfl) (by kernel_rfl) (Z109 _ _ _)
def G89 (c : Y2) : Sem [.one (.int .u64)] := fun x K Kp w => c x.1 (fun r1 w' => K (.int .i64 r1) w') w
theorem Z89 : Tie Tryz.prog [] ann0 Tryz.f89 (G89 (F.math_bits_TrailingZeros64 env)) := fun x K Kp w => by kernel_rfl
theorem fits89 : FitsOne Tryz.prog 89 (ent (G89 (F.math_bits_TrailingZeros64 env))) := fits_of fits_nil mixed Tryz.func89 Tryz.call89 (by kernel_rfl) (by kernel_rfl) (by kernel_rfl) (Z89)
def G143 (c : Y24) : Sem [.one (.int .u64), .one (.int .i64)] := fun x K Kp w => c x.1 x.2.1 (fun r1 r2 w' => K (.tuple ⟨[.int .i64 r1, .bool r2]⟩) w') w
def ann143 : Ann := { loops := [(2, [(0, .one (.int .u64)), (1, .one (.int .i64)), (6, .one (.int .i64))])], joins := [] }
theorem Z143 (c0 : Y2) : Tie Tryz.prog [(89, ent (G89 c0))] ann143 Tryz.f143 (G143 (T0.pcache_find env c0)) := fun x K Kp w => by kernel_rfl
theorem fits143 : FitsOne Tryz.prog 143 (ent (G143 (F.pcache_find env))) := fits_of (fits_cons fits89 fits_nil) mixed Tryz.func143 Tryz.call143 (by kernel_rfl) (by kernel_rfl) (by kernel_rfl) (Z143 _)
def G144 (c : Y2) : Sem [.one (.int .u64)] := fun x K Kp w => c x.1 (fun r1 w' => K (.int .i64 r1) w') w
theorem Z144 : Tie Tryz.prog [] ann0 Tryz.f144 (G144 (F.math_bits_OnesCount64 env)) := fun x K Kp w => by kernel_rfl
theorem fits144 : FitsOne Tryz.prog 144 (ent (G144 (F.math_bits_OnesCount64 env))) := fits_of fits_nil mixed Tryz.func144 Tryz.call144 (by kernel_rfl) (by kernel_rfl) (by kernel_rfl) (Z144)
def G110 (c : Y25) : Sem [.one (.ptr), .one (.int .i64)] := fun x K Kp w => c x.1 x.2.1 (fun r1 r2 r3 w' => K (.tuple ⟨[.int .u64 r1, .int .i64 r2, .int .i64 r3]⟩) w') w
def ann110 : Ann := { loops := [], joins := [(2, [(16, .one (.bool))])] }
theorem Z110 (c0 : Y24) (c1 : Y2) : Tie Tryz.prog [(143, ent (G143 c0)), (144, ent (G144 c1))] ann110 Tryz.f110 (G110 (T0.pcache_Cache_Alloc env c0 c1)) := fun x K Kp w => by kernel_rfl
theorem fits110 : FitsOne Tryz.prog 110 (ent (G110 (F.pcache_Cache_Alloc env))) := fits_of (fits_cons fits143 (fits_cons fits144 fits_nil)) mixed Tryz.func110 Tryz.call110 (by kernel_rfl) (by kernel_rfl) (by kernel_rfl) (Z110 _ _)
def G83 (c : Y25) : Sem [.one (.ptr), .one (.int .u64)] := fun x K Kp w => c x.1 x.2.1 (fun r1 r2 r3 w' => K (.tuple ⟨[.int .u64 r1, .int .u64 r2, .int .i64 r3]⟩) w') w
noncomputable def C83 : Entry := ent (G83 (F.radix_Tree_Alloc env))
theorem Z83 (c0 : Y15) (c1 : Y21) : Tie Tryz.prog [(114, ent (G114 c0)), (115, ent (G115 c1))] ann0 Tryz.f83 (G83 (T0.radix_Tree_Alloc env c0 c1)) := fun x K Kp w => by kernel_rfl
theorem fits83 : FitsOne Tryz.prog 83 (ent (G83 (F.radix_Tree_Alloc env))) := fits_of (fits_cons fits114 (fits_cons fits115 fits_nil)) mixed Tryz.func83 Tryz.call83 (by kernel_rfl) (by kernel_rfl) (by kernel_rfl) (Z83 _ _)
def G81 (c : Y26) : Sem [.one (.ptr), .one (.int .i64), .one (.int .u64)] := fun x K Kp w => c x.1 x.2.1 x.2.2.1 (fun r1 r2 w' => K (.tuple ⟨[.int .u64 r1, .bool r2]⟩) w') w
noncomputable def C81 : Entry := ent (G81 (F.mheap_Heap_got env))
def ann81 : Ann := { loops := [], joins := [(2, [(20, .one (.bool))]), (5, []), (8, [])] }
theorem Z81 (c0 : Y0) (c1 : Y22) (c2 : Y23) (c3 : Y25) (c4 : Y25) : Tie Tryz.prog [(108, ent (G108 c0)), (102, ent (G102 c1)), (109, ent (G109 c2)), (110, ent (G110 c3)), (83, ent (G83 c4))] ann81 Tryz.f81 (G81 (T0.mheap_Heap_got env c0 c1 c2 c3 c4)) := fun x K Kp w => by kernel_rfl
theorem fits81 : FitsOne Tryz.prog 81 (ent (G81 (F.mheap_Heap_got env))) := fits_of (fits_cons fits108 (fits_cons fits102 (fits_cons fits109 (fits_cons fits110 (fits_cons fits83 fits_nil))))) mixed Tryz.func81 Tryz.call81 (by kernel_rfl) (by kernel_rfl) (by kernel_rfl) (Z81 _ _ _ _ _)
def G120 (c : Y28) : Sem [.one (.ptr)] := fun x K Kp w => c x.1 (fun r1 r2 w' => K (.tuple ⟨[.bool r1, .bool r2]⟩) w') w
theorem Z120 : Tie Tryz.prog [] ann0 Tryz.f120 (G120 (F.vmem_used_bool_ env)) := fun x K Kp w => by kernel_rfl
theorem fits120 : FitsOne Tryz.prog 120 (ent (G120 (F.vmem_used_bool_ env))) := fits_of fits_nil mixed Tryz.func120 Tryz.call120 (by kernel_rfl) (by kernel_rfl) (by kernel_rfl) (Z120)
def G122 (c : Y29) : Sem [.one (.ptr)] := fun x K Kp w => c x.1 (fun r1 r2 w' => K (.tuple ⟨[.int .u64 r1, .bool r2]⟩) w') w
theorem Z122 : Tie Tryz.prog [] ann0 Tryz.f122 (G122 (F.vmem_used_uint64_ env)) := fun x K Kp w => by kernel_rfl
theorem fits122 : FitsOne Tryz.prog 122 (ent (G122 (F.vmem_used_uint64_ env))) := fits_of fits_nil mixed Tryz.func122 Tryz.call122 (by kernel_rfl) (by kernel_rfl) (by kernel_rfl) (Z122)
def G145 (c : Y27) : Sem [.one (.ptr), .one (.int .u64), .one (.int .u64)] := fun x K Kp w => c x.1 x.2.1 x.2.2.1 (fun r1 w' => K (.bool r1) w') w
theorem Z145 (c0 : Y18) : Tie Tryz.prog [(119, ent (G119 c0))] ann0 Tryz.f145 (G145 (T0.vmem_Mem_fits env c0)) := fun x K Kp w => by kernel_rfl
theorem fits145 : FitsOne Tryz.prog 145 (ent (G145 (F.vmem_Mem_fits env))) := fits_of (fits_cons fits119 fits_nil) mixed Tryz.func145 Tryz.call145 (by kernel_rfl) (by kernel_rfl) (by kernel_rfl) (Z145 _)
def G146 (c : Y26) : Sem [.one (.ptr), .one (.int .u64), .one (.int .u64)] := fun x K Kp w => c x.1 x.2.1 x.2.2.1 (fun r1 r2 w' => K (.tuple ⟨[.int .u64 r1, .bool r2]⟩) w') w
def ann146 : Ann := { loops := [(5, [(8, .one (.int .u64)), (24, .one (.int .i64))])], joins := [(9, []), (11, [(8, .one (.int .u64))])] }
theorem Z146 (c0 : Y14) (c1 : Y27) : Tie Tryz.prog [(147, ent (G147 c0)), (145, ent (G145 c1))] ann146 Tryz.f146 (G146 (T0.vmem_Mem_place env c0 c1)) := fun x K Kp w => by kernel_rfl
theorem fits146 : FitsOne Tryz.prog 146 (ent (G146 (F.vmem_Mem_place env))) := fits_of (fits_cons fits147 (fits_cons fits145 fits_nil)) mixed Tryz.func146 Tryz.call146 (by kernel_rfl) (by kernel_rfl) (by kernel_rfl) (Z146 _ _)
def G124 (c : Y20) : Sem [.one (.ptr), .one (.int .u64), .one (.int .u64)] := fun x K Kp w => c x.1 x.2.1 x.2.2.1 (fun  w' => K (.tuple ⟨[]⟩) w') w
def ann124 : Ann := { loops := [], joins := [(7, [(51, .one (.bool))]), (9, [(8, .one (.int .i64))]), (10, [(77, .one (.bool))]), (12, [(6, .one (.int .i64))])] }
theorem Z124 (c0 : Y20) (c1 : Y17) : Tie Tryz.prog [(123, ent (G123 c0)), (149, ent (G149 c1))] ann124 Tryz.f124 (G124 (T0.stretch_Set_Add env c0 c1)) := fun x K Kp w => by kernel_rfl
theorem fits124 : FitsOne Tryz.prog 124 (ent (G124 (F.stretch_Set_Add env))) := fits_of (fits_cons fits123 (fits_cons fits149 fits_nil)) mixed Tryz.func124 Tryz.call124 (by kernel_rfl) (by kernel_rfl) (by kernel_rfl) (Z124 _ _)
def G111 (c : Y21) : Sem [.one (.ptr), .one (.int .u64), .one (.int .u64)] := fun x K Kp w => c x.1 x.2.1 x.2.2.1 (fun r1 r2 w' => K (.tuple ⟨[.int .u64 r1, .int .i64 r2]⟩) w') w
def ann111 : Ann := { loops := [(9, [(10, .one (.int .u64)), (11, .one (.bool)), (52, .one (.int .i64))])], joins := [(2, [(24, .one (.bool))]), (8, [(11, .one (.bool))])] }
theorem Z111 (c0 : Y28) (c1 : Y29) (c2 : Y27) (c3 : Y26) (c4 : Y20) : Tie Tryz.prog [(120, ent (G120 c0)), (122, ent (G122 c1)), (145, ent (G145 c2)), (146, ent (G146 c3)), (124, ent (G124 c4))] ann111 Tryz.f111 (G111 (T0.vmem_Mem_Reserve env c0 c1 c2 c3 c4)) := fun x K Kp w => by kernel_rfl
theorem fits111 : FitsOne Tryz.prog 111 (ent (G111 (F.vmem_Mem_Reserve env))) := fits_of (fits_cons fits120 (fits_cons fits122 (fits_cons fits145 (fits_cons fits146 (fits_cons fits124 fits_nil))))) mixed Tryz.func111 Tryz.call111 (by kernel_rfl) (by kernel_rfl) (by kernel_rfl) (Z111 _ _ _ _ _)
def G112 (c : Y18) : Sem [.one (.ptr), .one (.int .u64), .one (.int .u64)] := fun x K Kp w => c x.1 x.2.1 x.2.2.1 (fun r1 w' => K (.int .i64 r1) w') w
def ann112 : Ann := { loops := [], joins := [(2, [(24, .one (.bool))])] }
theorem Z112 (c0 : Y18) (c1 : Y20) (c2 : Y7) : Tie Tryz.prog [(119, ent (G119 c0)), (124, ent (G124 c1)), (107, ent (G107 c2))] ann112 Tryz.f112 (G112 (T0.radix_Tree_Grow env c0 c1 c2)) := fun x K Kp w => by kernel_rfl
theorem fits112 : FitsOne Tryz.prog 112 (ent (G112 (F.radix_Tree_Grow env))) := fits_of (fits_cons fits119 (fits_cons fits124 (fits_cons fits107 fits_nil))) mixed Tryz.func112 Tryz.call112 (by kernel_rfl) (by kernel_rfl) (by kernel_rfl) (Z112 _ _ _)
def G113 (c : Y20) : Sem [.one (.ptr), .one (.int .u64), .one (.int .u64)] := fun x K Kp w => c x.1 x.2.1 x.2.2.1 (fun  w' => K (.tuple ⟨[]⟩) w') w
theorem Z113 (c0 : Y20) : Tie Tryz.prog [(124, ent (G124 c0))] ann0 Tryz.f113 (G113 (T0.arena_Map_Many env c0)) := fun x K Kp w => by kernel_rfl
theorem fits113 : FitsOne Tryz.prog 113 (ent (G113 (F.arena_Map_Many env))) := fits_of (fits_cons fits124 fits_nil) mixed Tryz.func113 Tryz.call113 (by kernel_rfl) (by kernel_rfl) (by kernel_rfl) (Z113 _)
def G82 (c : Y17) : Sem [.one (.ptr), .one (.int .u64)] := fun x K Kp w => c x.1 x.2.1 (fun r1 w' => K (.int .i64 r1) w') w
noncomputable def C82 : Entry := ent (G82 (F.mheap_Heap_grow env))
theorem Z82 (c0 : Y21) (c1 : Y18) (c2 : Y20) : Tie Tryz.prog [(111, ent (G111 c0)), (112, ent (G112 c1)), (113, ent (G113 c2))] ann0 Tryz.f82 (G82 (T0.mheap_Heap_grow env c0 c1 c2)) := fun x K Kp w => by kernel_rfl
theorem fits82 : FitsOne Tryz.prog 82 (ent (G82 (F.mheap_Heap_grow env))) := fits_of (fits_cons fits111 (fits_cons fits112 (fits_cons fits113 fits_nil))) mixed Tryz.func82 Tryz.call82 (by kernel_rfl) (by kernel_rfl) (by kernel_rfl) (Z82 _ _ _)
def G118 (c : Y31) : Sem [.one (.int .u64), .one (.int .u64)] := fun x K Kp w => c x.1 x.2.1 (fun r1 w' => K (.bool r1) w') w
theorem Z118 : Tie Tryz.prog [] ann0 Tryz.f118 (G118 (F.vmem_right env)) := fun x K Kp w => by kernel_rfl
theorem fits118 : FitsOne Tryz.prog 118 (ent (G118 (F.vmem_right env))) := fits_of fits_nil mixed Tryz.func118 Tryz.call118 (by kernel_rfl) (by kernel_rfl) (by kernel_rfl) (Z118)
def G121 (c : Y30) : Sem [.one (.ptr), .one (.int .u64), .one (.int .u64)] := fun x K Kp w => c x.1 x.2.1 x.2.2.1 (fun r1 w' => K (.slice r1.base r1.len r1.cap) w') w
def ann121 : Ann := { loops := [(3, [(7, .one (.sl)), (8, .one (.int .i64))])], joins := [] }
theorem Z121 (c0 : Y17) : Tie Tryz.prog [(149, ent (G149 c0))] ann121 Tryz.f121 (G121 (T0.stretch_Set_Within env c0)) := fun x K Kp w => by kernel_rfl
theorem fits121 : FitsOne Tryz.prog 121 (ent (G121 (F.stretch_Set_Within env))) := fits_of (fits_cons fits149 fits_nil) mixed Tryz.func121 Tryz.call121 (by kernel_rfl) (by kernel_rfl) (by kernel_rfl) (Z121 _)
def G86 (c : Y18) : Sem [.one (.ptr), .one (.int .u64), .one (.int .u64)] := fun x K Kp w => c x.1 x.2.1 x.2.2.1 (fun r1 w' => K (.int .i64 r1) w') w
noncomputable def C86 : Entry := ent (G86 (F.vmem_Mem_Commit env))
def ann86 : Ann := { loops := [(12, [(56, .one (.int .i64))]), (15, [(12, .one (.int .u64))])], joins := [(22, [])] }
theorem Z86 (c0 : Y31) (c1 : Y18) (c2 : Y28) (c3 : Y30) (c4 : Y29) (c5 : Y20) (c6 : Y20) : Tie Tryz.prog [(118, ent (G118 c0)), (119, ent (G119 c1)), (120, ent (G120 c2)), (121, ent (G121 c3)), (122, ent (G122 c4)), (123, ent (G123 c5)), (124, ent (G124 c6))] ann86 Tryz.f86 (G86 (T0.vmem_Mem_Commit env c0 c1 c2 c3 c4 c5 c6)) := fun x K Kp w => by kernel_rfl
theorem fits86 : FitsOne Tryz.prog 86 (ent (G86 (F.vmem_Mem_Commit env))) := fits_of (fits_cons fits118 (fits_cons fits119 (fits_cons fits120 (fits_cons fits121 (fits_cons fits122 (fits_cons fits123 (fits_cons fits124 fits_nil))))))) mixed Tryz.func86 Tryz.call86 (by kernel_rfl) (by kernel_rfl) (by kernel_rfl) (Z86 _ _ _ _ _ _ _)
def G116 (c : Y30) : Sem [.one (.ptr), .one (.int .u64), .one (.int .u64)] := fun x K Kp w => c x.1 x.2.1 x.2.2.1 (fun r1 w' => K (.slice r1.base r1.len r1.cap) w') w
theorem Z116 (c0 : Y30) : Tie Tryz.prog [(121, ent (G121 c0))] ann0 Tryz.f116 (G116 (T0.vmem_Mem_Ready env c0)) := fun x K Kp w => by kernel_rfl
theorem fits116 : FitsOne Tryz.prog 116 (ent (G116 (F.vmem_Mem_Ready env))) := fits_of (fits_cons fits121 fits_nil) mixed Tryz.func116 Tryz.call116 (by kernel_rfl) (by kernel_rfl) (by kernel_rfl) (Z116 _)
def G131 (c : Y32) : Sem [.one (.ptr), .one (.int .u64), .one (.int .u64), .one (.ptr)] := fun x K Kp w => c x.1 x.2.1 x.2.2.1 x.2.2.2.1 (fun r1 w' => K (.int .i64 r1) w') w
theorem Z131 (c0 : Y19) (c1 : Y20) (c2 : Y7) : Tie Tryz.prog [(148, ent (G148 c0)), (124, ent (G124 c1)), (107, ent (G107 c2))] ann0 Tryz.f131 (G131 (T0.radix_Tree_freed env c0 c1 c2)) := fun x K Kp w => by kernel_rfl
theorem fits131 : FitsOne Tryz.prog 131 (ent (G131 (F.radix_Tree_freed env))) := fits_of (fits_cons fits148 (fits_cons fits124 (fits_cons fits107 fits_nil))) mixed Tryz.func131 Tryz.call131 (by kernel_rfl) (by kernel_rfl) (by kernel_rfl) (Z131 _ _ _)
def G117 (c : Y18) : Sem [.one (.ptr), .one (.int .u64), .one (.int .u64)] := fun x K Kp w => c x.1 x.2.1 x.2.2.1 (fun r1 w' => K (.int .i64 r1) w') w
theorem Z117 (c0 : Y32) : Tie Tryz.prog [(131, ent (G131 c0))] ann0 Tryz.f117 (G117 (T0.radix_Tree_Back env c0)) := fun x K Kp w => by kernel_rfl
theorem fits117 : FitsOne Tryz.prog 117 (ent (G117 (F.radix_Tree_Back env))) := fits_of (fits_cons fits131 fits_nil) mixed Tryz.func117 Tryz.call117 (by kernel_rfl) (by kernel_rfl) (by kernel_rfl) (Z117 _)
def G98 (c : Y18) : Sem [.one (.ptr), .one (.int .u64), .one (.int .u64)] := fun x K Kp w => c x.1 x.2.1 x.2.2.1 (fun r1 w' => K (.int .i64 r1) w') w
theorem Z98 (c0 : Y32) : Tie Tryz.prog [(131, ent (G131 c0))] ann0 Tryz.f98 (G98 (T0.radix_Tree_Give env c0)) := fun x K Kp w => by kernel_rfl
theorem fits98 : FitsOne Tryz.prog 98 (ent (G98 (F.radix_Tree_Give env))) := fits_of (fits_cons fits131 fits_nil) mixed Tryz.func98 Tryz.call98 (by kernel_rfl) (by kernel_rfl) (by kernel_rfl) (Z98 _)
def G85 (c : Y20) : Sem [.one (.ptr), .one (.int .u64), .one (.int .u64)] := fun x K Kp w => c x.1 x.2.1 x.2.2.1 (fun  w' => K (.tuple ⟨[]⟩) w') w
noncomputable def C85 : Entry := ent (G85 (F.mheap_Heap_back env))
def ann85 : Ann := { loops := [(2, [(6, .one (.int .u64)), (20, .one (.int .i64))])], joins := [] }
theorem Z85 (c0 : Y30) (c1 : Y18) (c2 : Y18) : Tie Tryz.prog [(116, ent (G116 c0)), (117, ent (G117 c1)), (98, ent (G98 c2))] ann85 Tryz.f85 (G85 (T0.mheap_Heap_back env c0 c1 c2)) := fun x K Kp w => by kernel_rfl
theorem fits85 : FitsOne Tryz.prog 85 (ent (G85 (F.mheap_Heap_back env))) := fits_of (fits_cons fits116 (fits_cons fits117 (fits_cons fits98 fits_nil))) mixed Tryz.func85 Tryz.call85 (by kernel_rfl) (by kernel_rfl) (by kernel_rfl) (Z85 _ _ _)
noncomputable def body84 : Code := (Tryz.f84.body).getD .skip
def ann84 : Ann := { loops := [], joins := [] }
theorem tieZ84 (c_mheap_Heap_back : ∀ (a0 : (Option Addr)) (a1 : Int) (a2 : Int) (K : World -> Prop) (w : World), Prop) (x : ArgsV [.one (.ptr), .one (.ptr), .one (.ptr), .one (.ptr)]) (K Kp : Value -> World -> Prop) (w : World) : T0.mheap_Heap_find_1 env c_mheap_Heap_back x.1 x.2.1 x.2.2.1 x.2.2.2.1 (fun  w' => K (.tuple ⟨[]⟩) w') w =
 ev Tryz.prog (tabC [(85, fun args w K Kp => unArgs [.one (.ptr), .one (.int .u64), .one (.int .u64)] args.toList fun x => c_mheap_Heap_back x.1 x.2.1 x.2.2.1 (fun  w' => K (.tuple ⟨[]⟩) w') w)]) (ground Tryz.prog) ann84 body84 (finQ Tryz.prog Tryz.f84 K Kp) (initF (mkArgs [.one (.ptr), .one (.ptr), .one (.ptr), .one (.ptr)] x)) w := by kernel_rfl
theorem tie84 (x : ArgsV [.one (.ptr), .one (.ptr), .one (.ptr), .one (.ptr)]) (K Kp : Value -> World -> Prop) (w : World) : F.mheap_Heap_find_1 env x.1 x.2.1 x.2.2.1 x.2.2.2.1 (fun  w' => K (.tuple ⟨[]⟩) w') w =
 ev Tryz.prog (tabC [(85, C85)]) (ground Tryz.prog) ann84 body84 (finQ Tryz.prog Tryz.f84 K Kp) (initF (mkArgs [.one (.ptr), .one (.ptr), .one (.ptr), .one (.ptr)] x)) w := tieZ84 (F.mheap_Heap_back env) x K Kp w
noncomputable def D84 : EntryD := fun args pv w K => unArgs [.one (.ptr), .one (.ptr), .one (.ptr), .one (.ptr)] args.toList fun x => F.mheap_Heap_find_1 env x.1 x.2.1 x.2.2.1 x.2.2.2.1 (fun w' => K false w') w
theorem fitsD84 : FitsDOne Tryz.prog 84 D84 :=
 fitsD_plain (T := [(85, C85)]) (A := ann84) (fn := Tryz.f84) (c := body84) (l := [.one (.ptr), .one (.ptr), .one (.ptr), .one (.ptr)]) (F := fun (x : ArgsV [.one (.ptr), .one (.ptr), .one (.ptr), .one (.ptr)]) K w => F.mheap_Heap_find_1 env x.1 x.2.1 x.2.2.1 x.2.2.2.1 K w) (fits_cons fits85 fits_nil) mixed Tryz.func84 Tryz.call84 (by kernel_rfl) (by kernel_rfl) (by kernel_rfl) (fun x K w => tie84 x (fun _ w' => K w') noP w)
noncomputable def C42 : Entry := fun args w K Kp => unArgs [.one (.ptr), .one (.int .i64), .one (.int .u64)] args.toList fun x => F.mheap_Heap_find env x.1 x.2.1 x.2.2.1 (fun r1 r2 w' => K (.tuple ⟨[.int .u64 r1, .int .i64 r2]⟩) w') w
noncomputable def body42 : Code := (Tryz.f42.body).getD .skip
def ann42 : Ann := { loops := [], joins := [(7, [(6, .one (.int .u64))])] }
theorem tieZ42 (c_mheap_Heap_got : ∀ (a0 : (Option Addr)) (a1 : Int) (a2 : Int) (K : Int -> Bool -> World -> Prop) (w : World), Prop) (c_mheap_Heap_grow : ∀ (a0 : (Option Addr)) (a1 : Int) (K : Int -> World -> Prop) (w : World), Prop) (c_radix_Tree_Alloc : ∀ (a0 : (Option Addr)) (a1 : Int) (K : Int -> Int -> Int -> World -> Prop) (w : World), Prop) (c_vmem_Mem_Commit : ∀ (a0 : (Option Addr)) (a1 : Int) (a2 : Int) (K : Int -> World -> Prop) (w : World), Prop) (x : ArgsV [.one (.ptr), .one (.int .i64), .one (.int .u64)]) (K : Value -> World -> Prop) (w : World) : T0.mheap_Heap_find env c_mheap_Heap_got c_mheap_Heap_grow c_radix_Tree_Alloc c_vmem_Mem_Commit x.1 x.2.1 x.2.2.1 (fun r1 r2 w' => K (.tuple ⟨[.int .u64 r1, .int .i64 r2]⟩) w') w =
 evD Tryz.prog (tabC [(81, fun args w K Kp => unArgs [.one (.ptr), .one (.int .i64), .one (.int .u64)] args.toList fun x => c_mheap_Heap_got x.1 x.2.1 x.2.2.1 (fun r1 r2 w' => K (.tuple ⟨[.int .u64 r1, .bool r2]⟩) w') w), (82, fun args w K Kp => unArgs [.one (.ptr), .one (.int .u64)] args.toList fun x => c_mheap_Heap_grow x.1 x.2.1 (fun r1 w' => K (.int .i64 r1) w') w), (83, fun args w K Kp => unArgs [.one (.ptr), .one (.int .u64)] args.toList fun x => c_radix_Tree_Alloc x.1 x.2.1 (fun r1 r2 r3 w' => K (.tuple ⟨[.int .u64 r1, .int .u64 r2, .int .i64 r3]⟩) w') w), (86, fun args w K Kp => unArgs [.one (.ptr), .one (.int .u64), .one (.int .u64)] args.toList fun x => c_vmem_Mem_Commit x.1 x.2.1 x.2.2.1 (fun r1 w' => K (.int .i64 r1) w') w)]) (ground Tryz.prog) ann42 (finQ Tryz.prog Tryz.f42 K noP) (finD Tryz.prog Tryz.f42 (tabD [(84, D84)]) K noP) body42 (initF (mkArgs [.one (.ptr), .one (.int .i64), .one (.int .u64)] x)) w := by kernel_rfl
theorem tie42 (x : ArgsV [.one (.ptr), .one (.int .i64), .one (.int .u64)]) (K : Value -> World -> Prop) (w : World) : F.mheap_Heap_find env x.1 x.2.1 x.2.2.1 (fun r1 r2 w' => K (.tuple ⟨[.int .u64 r1, .int .i64 r2]⟩) w') w =
 evD Tryz.prog (tabC [(81, C81), (82, C82), (83, C83), (86, C86)]) (ground Tryz.prog) ann42 (finQ Tryz.prog Tryz.f42 K noP) (finD Tryz.prog Tryz.f42 (tabD [(84, D84)]) K noP) body42 (initF (mkArgs [.one (.ptr), .one (.int .i64), .one (.int .u64)] x)) w := tieZ42 (F.mheap_Heap_got env) (F.mheap_Heap_grow env) (F.radix_Tree_Alloc env) (F.vmem_Mem_Commit env) x K w
theorem fits42 : FitsOne Tryz.prog 42 C42 :=
 fits_of_tieD (T := [(81, C81), (82, C82), (83, C83), (86, C86)]) (TD := [(84, D84)]) (A := ann42) (fn := Tryz.f42) (c := body42) (fits_cons fits81 (fits_cons fits82 (fits_cons fits83 (fits_cons fits86 fits_nil)))) (fitsD_cons fitsD84 fitsD_nil) mixed Tryz.func42 Tryz.call42 (by kernel_rfl) (by kernel_rfl) (by kernel_rfl) tie42
def G87 (c : Y35) : Sem [.one (.ptr)] := fun x K Kp w => c x.1 (fun r1 w' => K (.int .i64 r1) w') w
def ann87 : Ann := { loops := [], joins := [(6, [(3, .one (.ptr))])] }
theorem Z87 : Tie Tryz.prog [] ann87 Tryz.f87 (G87 (F.fix_Fix_Take env)) := fun x K Kp w => by kernel_rfl
theorem fits87 : FitsOne Tryz.prog 87 (ent (G87 (F.fix_Fix_Take env))) := fits_of fits_nil mixed Tryz.func87 Tryz.call87 (by kernel_rfl) (by kernel_rfl) (by kernel_rfl) (Z87)
def G24 (c : Y36) : Sem [.one (.ptr)] := fun x K Kp w => c x.1 (fun r1 r2 r3 r4 r5 r6 r7 r8 r9 r10 w' => K (.agg ⟨[.int .u64 r1, .int .i64 r2, .int .i64 r3, .int .i64 r4, .bool r5, .int .i64 r6, .int .i64 r7, .int .i64 r8, .bool r9, .bool r10]⟩) w') w
noncomputable def C24 : Entry := ent (G24 (F.span_Span_Info env))
theorem Z24 : Tie Tryz.prog [] ann0 Tryz.f24 (G24 (F.span_Span_Info env)) := fun x K Kp w => by kernel_rfl
theorem fits24 : FitsOne Tryz.prog 24 (ent (G24 (F.span_Span_Info env))) := fits_of fits_nil mixed Tryz.func24 Tryz.call24 (by kernel_rfl) (by kernel_rfl) (by kernel_rfl) (Z24)
def G125 (c : Y20) : Sem [.one (.ptr), .one (.int .u64), .one (.int .u64)] := fun x K Kp w => c x.1 x.2.1 x.2.2.1 (fun  w' => K (.tuple ⟨[]⟩) w') w
def ann125 : Ann := { loops := [(2, [(6, .one (.sl)), (16, .one (.int .i64))]), (14, []), (19, [(10, .one (.int .u64))])], joins := [(5, [(29, .one (.bool))]), (8, [(6, .one (.sl))]), (15, [(81, .one (.bool))]), (17, [(91, .one (.bool))])] }
theorem Z125 : Tie Tryz.prog [] ann125 Tryz.f125 (G125 (F.arena_Map_cut env)) := fun x K Kp w => by kernel_rfl
theorem fits125 : FitsOne Tryz.prog 125 (ent (G125 (F.arena_Map_cut env))) := fits_of fits_nil mixed Tryz.func125 Tryz.call125 (by kernel_rfl) (by kernel_rfl) (by kernel_rfl) (Z125)
def G88 (c : Y34) : Sem [.one (.ptr), .one (.int .u64), .one (.int .u64), .one (.int .i64)] := fun x K Kp w => c x.1 x.2.1 x.2.2.1 x.2.2.2.1 (fun r1 w' => K (.int .i64 r1) w') w
def ann88 : Ann := { loops := [], joins := [(2, [(20, .one (.bool))]), (4, [(28, .one (.bool))]), (14, [])] }
theorem Z88 (c0 : Y18) (c1 : Y20) : Tie Tryz.prog [(119, ent (G119 c0)), (125, ent (G125 c1))] ann88 Tryz.f88 (G88 (T0.arena_Map_Set env c0 c1)) := fun x K Kp w => by kernel_rfl
theorem fits88 : FitsOne Tryz.prog 88 (ent (G88 (F.arena_Map_Set env))) := fits_of (fits_cons fits119 (fits_cons fits125 fits_nil)) mixed Tryz.func88 Tryz.call88 (by kernel_rfl) (by kernel_rfl) (by kernel_rfl) (Z88 _ _)
def G43 (c : Y23) : Sem [.one (.ptr), .one (.ptr)] := fun x K Kp w => c x.1 x.2.1 (fun r1 w' => K (.int .i64 r1) w') w
theorem Z43 (c0 : Y35) (c1 : Y36) (c2 : Y34) : Tie Tryz.prog [(87, ent (G87 c0)), (24, ent (G24 c1)), (88, ent (G88 c2))] ann0 Tryz.f43 (G43 (T0.mheap_Heap_keep env c0 c1 c2)) := fun x K Kp w => by kernel_rfl
theorem fits43 : FitsOne Tryz.prog 43 (ent (G43 (F.mheap_Heap_keep env))) := fits_of (fits_cons fits87 (fits_cons fits24 (fits_cons fits88 fits_nil))) mixed Tryz.func43 Tryz.call43 (by kernel_rfl) (by kernel_rfl) (by kernel_rfl) (Z43 _ _ _)
def G13 (c : Y37) : Sem [.one (.ptr), .one (.int .i64), .one (.int .u64), .one (.int .i64), .one (.bool)] := fun x K Kp w => c x.1 x.2.1 x.2.2.1 x.2.2.2.1 x.2.2.2.2.1 (fun r1 r2 w' => K (.tuple ⟨[.int .i64 r1, .int .i64 r2]⟩) w') w
theorem Z13 (c0 : Y13) (c1 : Y21) (c2 : Y23) : Tie Tryz.prog [(41, ent (G41 c0)), (42, fun args w K Kp => unArgs [.one (.ptr), .one (.int .i64), .one (.int .u64)] args.toList fun x => c1 x.1 x.2.1 x.2.2.1 (fun r1 r2 w' => K (.tuple ⟨[.int .u64 r1, .int .i64 r2]⟩) w') w), (43, ent (G43 c2))] ann0 Tryz.f13 (G13 (T0.mheap_Heap_Alloc env c0 c1 c2)) := fun x K Kp w => by kernel_rfl
theorem fits13 : FitsOne Tryz.prog 13 (ent (G13 (F.mheap_Heap_Alloc env))) := fits_of (fits_cons fits41 (fits_cons fits42 (fits_cons fits43 fits_nil))) mixed Tryz.func13 Tryz.call13 (by kernel_rfl) (by kernel_rfl) (by kernel_rfl) (Z13 _ _ _)
def G14 (c : Y42) : Sem [.one (.ptr), .one (.int .i64)] := fun x K Kp w => c x.1 x.2.1 (fun r1 r2 w' => K (.tuple ⟨[.pointer r1, .int .i64 r2]⟩) w') w
theorem Z14 : Tie Tryz.prog [] ann0 Tryz.f14 (G14 (F.mheap_Heap_Span env)) := fun x K Kp w => by kernel_rfl
theorem fits14 : FitsOne Tryz.prog 14 (ent (G14 (F.mheap_Heap_Span env))) := fits_of fits_nil mixed Tryz.func14 Tryz.call14 (by kernel_rfl) (by kernel_rfl) (by kernel_rfl) (Z14)
def G44 (c : Y38) : Sem [.one (.sl), .one (.int .i64)] := fun x K Kp w => c x.1 x.2.1 (fun r1 w' => K (.int .i64 r1) w') w
def ann44 : Ann := { loops := [(2, [(5, .one (.int .i64))])], joins := [(7, [(6, .one (.int .u64))])] }
theorem Z44 (c0 : Y2) : Tie Tryz.prog [(89, ent (G89 c0))] ann44 Tryz.f44 (G44 (T0._span_row_free env c0)) := fun x K Kp w => by kernel_rfl
theorem fits44 : FitsOne Tryz.prog 44 (ent (G44 (F._span_row_free env))) := fits_of (fits_cons fits89 fits_nil) mixed Tryz.func44 Tryz.call44 (by kernel_rfl) (by kernel_rfl) (by kernel_rfl) (Z44 _)
def G45 (c : Y39) : Sem [.one (.ptr), .one (.int .i64)] := fun x K Kp w => c x.1 x.2.1 (fun  w' => K (.tuple ⟨[]⟩) w') w
def ann45 : Ann := { loops := [(0, [])], joins := [] }
theorem Z45 : Tie Tryz.prog [] ann45 Tryz.f45 (G45 (F.span_row_set env)) := fun x K Kp w => by kernel_rfl
theorem fits45 : FitsOne Tryz.prog 45 (ent (G45 (F.span_row_set env))) := fits_of fits_nil mixed Tryz.func45 Tryz.call45 (by kernel_rfl) (by kernel_rfl) (by kernel_rfl) (Z45)
def G15 (c : Y40) : Sem [.one (.ptr)] := fun x K Kp w => c x.1 (fun r1 r2 w' => K (.tuple ⟨[.int .i64 r1, .int .i64 r2]⟩) w') w
theorem Z15 (c0 : Y38) (c1 : Y39) : Tie Tryz.prog [(44, ent (G44 c0)), (45, ent (G45 c1))] ann0 Tryz.f15 (G15 (T0.span_Span_Next env c0 c1)) := fun x K Kp w => by kernel_rfl
theorem fits15 : FitsOne Tryz.prog 15 (ent (G15 (F.span_Span_Next env))) := fits_of (fits_cons fits44 (fits_cons fits45 fits_nil)) mixed Tryz.func15 Tryz.call15 (by kernel_rfl) (by kernel_rfl) (by kernel_rfl) (Z15 _ _)
def G59 (c : Y41) : Sem [.one (.ptr), .one (.int .u64), .one (.int .i64)] := fun x K Kp w => c x.1 x.2.1 x.2.2.1 (fun r1 w' => K (.pointer r1) w') w
def ann59 : Ann := { loops := [(2, [(7, .one (.ptr))])], joins := [(3, [])] }
theorem Z59 : Tie Tryz.prog [] ann59 Tryz.f59 (G59 (F.special_Specials_at env)) := fun x K Kp w => by kernel_rfl
theorem fits59 : FitsOne Tryz.prog 59 (ent (G59 (F.special_Specials_at env))) := fits_of fits_nil mixed Tryz.func59 Tryz.call59 (by kernel_rfl) (by kernel_rfl) (by kernel_rfl) (Z59)
def G60 (c : Y27) : Sem [.one (.ptr), .one (.int .u64), .one (.int .i64)] := fun x K Kp w => c x.1 x.2.1 x.2.2.1 (fun r1 w' => K (.bool r1) w') w
theorem Z60 : Tie Tryz.prog [] ann0 Tryz.f60 (G60 (F.special_is env)) := fun x K Kp w => by kernel_rfl
theorem fits60 : FitsOne Tryz.prog 60 (ent (G60 (F.special_is env))) := fits_of fits_nil mixed Tryz.func60 Tryz.call60 (by kernel_rfl) (by kernel_rfl) (by kernel_rfl) (Z60)
def G25 (c : Y34) : Sem [.one (.ptr), .one (.int .u64), .one (.int .i64), .one (.int .u64)] := fun x K Kp w => c x.1 x.2.1 x.2.2.1 x.2.2.2.1 (fun r1 w' => K (.int .i64 r1) w') w
def ann25 : Ann := { loops := [], joins := [(2, [(15, .one (.bool))])] }
theorem Z25 (c0 : Y41) (c1 : Y27) : Tie Tryz.prog [(59, ent (G59 c0)), (60, ent (G60 c1))] ann25 Tryz.f25 (G25 (T0.special_Specials_Add env c0 c1)) := fun x K Kp w => by kernel_rfl
theorem fits25 : FitsOne Tryz.prog 25 (ent (G25 (F.special_Specials_Add env))) := fits_of (fits_cons fits59 (fits_cons fits60 fits_nil)) mixed Tryz.func25 Tryz.call25 (by kernel_rfl) (by kernel_rfl) (by kernel_rfl) (Z25 _ _)
def G47 (c : Y43) : Sem [.one (.ptr), .one (.int .i64)] := fun x K Kp w => c x.1 x.2.1 (fun r1 r2 r3 r4 r5 r6 r7 r8 r9 r10 r11 r12 w' => K (.tuple ⟨[.pointer r1, .agg ⟨[.int .u64 r2, .int .i64 r3, .int .i64 r4, .int .i64 r5, .bool r6, .int .i64 r7, .int .i64 r8, .int .i64 r9, .bool r10, .bool r11]⟩, .int .i64 r12]⟩) w') w
noncomputable def C47 : Entry := ent (G47 (F.sweep_Sweeper_use env))
theorem Z47 (c0 : Y42) (c1 : Y36) : Tie Tryz.prog [(14, ent (G14 c0)), (24, ent (G24 c1))] ann0 Tryz.f47 (G47 (T0.sweep_Sweeper_use env c0 c1)) := fun x K Kp w => by kernel_rfl
theorem fits47 : FitsOne Tryz.prog 47 (ent (G47 (F.sweep_Sweeper_use env))) := fits_of (fits_cons fits14 (fits_cons fits24 fits_nil)) mixed Tryz.func47 Tryz.call47 (by kernel_rfl) (by kernel_rfl) (by kernel_rfl) (Z47 _ _)
def G90 (c : Y44) : Sem [.one (.ptr), .agg [.int .i64, .bool, .bool, .bool], .one (.int .u64)] := fun x K Kp w => c x.1 x.2.1.1 x.2.1.2.1 x.2.1.2.2.1 x.2.1.2.2.2.1 x.2.2.1 (fun r1 w' => K (.int .i64 r1) w') w
theorem Z90 (c0 : Y16) : Tie Tryz.prog [(128, ent (G128 c0))] ann0 Tryz.f90 (G90 (T0.sets_Sets_place env c0)) := fun x K Kp w => by kernel_rfl
theorem fits90 : FitsOne Tryz.prog 90 (ent (G90 (F.sets_Sets_place env))) := fits_of (fits_cons fits128 fits_nil) mixed Tryz.func90 Tryz.call90 (by kernel_rfl) (by kernel_rfl) (by kernel_rfl) (Z90 _)
end Go.Sh
