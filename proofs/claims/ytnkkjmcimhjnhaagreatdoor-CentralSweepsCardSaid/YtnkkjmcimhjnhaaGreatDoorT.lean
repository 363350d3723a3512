/- Each shallow form is what the code of its function comes to, piece 1. No further condition. -/
import Derived.Test.YtnkkjmcimhjnhaaGreatDoorF
import Derived.Test.YtnkkjmcimhjnhaaGreatDoorProg
import Derived.KernelRfl
set_option linter.all false
set_option maxRecDepth 100000
set_option maxHeartbeats 4000000
namespace Go.Sh
open Go.Proofs
theorem mixed : Tryz.prog.follows .mixedOrders = true := by kernel_rfl
noncomputable def env : Env := { call := ground Tryz.prog, t_api_Class := 57, t_uint64 := 43, t_bool := 4, t_api_Answers := 31, t_vmem_Mem := 150, t_map_uint64_api_Sum := 210, t_radix_Tree := 172, t_arena_Map := 178, t_fix_Fix := 188, t_pcache_Cache := 174, t_mheap_Heap := 102, t_sets_Sets := 135, t_special_Specials := 158, t_sweep_Sweeper := 87, t_central_Central := 84, t_central_way := 90, t_api_Info := 45, t_sets_kind := 137, t____sets_item := 138, t_sets_item := 169, t__sets_item := 167, t_arena_wide := 221, t_cache_Cache := 119, t__cache_Cache := 59, t_int := 3, t_slices_xorshift := 229, t__mheap_Heap := 32, t_central_want := 93, t_api_Special := 227, t_sweep_zombie := 198, t__stretch_Set := 195, t__arena_Map := 96, t_stretch_One := 241, t_api_Errno := 37, t_span_Span := 105, t_fix_record := 249, t__fix_record := 186, t__512_int := 264, f_central_Central_swept := 39, f_central_Central_partial := 40, f_central_Central_full := 41, f_central_Central_fresh := 42, f_sets_Sets_place_1 := 129, f_cache_Cache_Alloc_1 := 59, f_mheap_Heap_Spans_1 := 67, f_stretch_Set_at_1 := 179, f_arena_Map_Set_1 := 163, g_math_bits_deBruijn64tab := 0, t_special_record := 0 }
def ann0 : Ann := { loops := [], joins := [] }
abbrev Sem (l : List VT) := ArgsV l -> (Value -> World -> Prop) -> (Value -> World -> Prop) -> World -> Prop
def ent {l : List VT} (F : Sem l) : Entry := fun args w K Kp => unArgs l args.toList fun x => F x K Kp w
def Tie (P : Program) (T : List (Nat × Entry)) (A : Ann) (fn : Func) {l : List VT} (F : Sem l) : Prop :=
 ∀ x K Kp w, F x K Kp w = ev P (tabC T) (ground P) A (fn.body.getD .skip) (finQ P fn K Kp) (initF (mkArgs l x)) w
theorem fits_of {P : Program} {T : List (Nat × Entry)} {A : Ann} {f : FuncId} {fn : Func} {l : List VT} {F : Sem l}
 (hT : ∀ p ∈ T, FitsAny P p.1 p.2) (hm : P.follows .mixedOrders = true) (hf : P.funcs[f]? = some fn) (hcall : ∀ args w, (callFunc f args).run P w = .ok (.enter f args) w)
 (hb : fn.body = some (fn.body.getD .skip)) (hsz : Nat.ble l.length fn.ntmps = true) (hW : withinB fn.ntmps (written (fn.body.getD .skip)) = true) (htie : Tie P T A fn F) : FitsOne P f (ent F) :=
 fits_of_tie hT hm hf hcall hb hsz hW htie
def G69 (c : Y0) : Sem [.one (.int .u64)] := fun x K Kp w => c x.1 (fun r1 w' => K (.bool r1) w') w
theorem Z69 : Tie Tryz.prog [] ann0 Tryz.f69 (G69 (F.num_Pow env)) := fun x K Kp w => by kernel_rfl
theorem fits69 : FitsOne Tryz.prog 69 (ent (G69 (F.num_Pow env))) := fits_of fits_nil mixed Tryz.func69 Tryz.call69 (by kernel_rfl) (by kernel_rfl) (by kernel_rfl) (Z69)
def G70 (c : Y1) : Sem [.one (.int .i64), .one (.int .i64)] := fun x K Kp w => c x.1 x.2.1 (fun r1 w' => K (.int .i64 r1) w') w
theorem Z70 (c0 : Y0) : Tie Tryz.prog [(69, ent (G69 c0))] ann0 Tryz.f70 (G70 (T0.class_step env c0)) := fun x K Kp w => by kernel_rfl
theorem fits70 : FitsOne Tryz.prog 70 (ent (G70 (F.class_step env))) := fits_of (fits_cons fits69 fits_nil) mixed Tryz.func70 Tryz.call70 (by kernel_rfl) (by kernel_rfl) (by kernel_rfl) (Z70 _)
def G71 (c : Y1) : Sem [.one (.int .i64), .one (.int .i64)] := fun x K Kp w => c x.1 x.2.1 (fun r1 w' => K (.int .i64 r1) w') w
def ann71 : Ann := { loops := [(2, [(5, .one (.int .i64))])], joins := [] }
theorem Z71 : Tie Tryz.prog [] ann71 Tryz.f71 (G71 (F.class_bytes env)) := fun x K Kp w => by kernel_rfl
theorem fits71 : FitsOne Tryz.prog 71 (ent (G71 (F.class_bytes env))) := fits_of fits_nil mixed Tryz.func71 Tryz.call71 (by kernel_rfl) (by kernel_rfl) (by kernel_rfl) (Z71)
def G72 (c : Y2) : Sem [.one (.int .u32)] := fun x K Kp w => c x.1 (fun r1 w' => K (.int .u32 r1) w') w
theorem Z72 : Tie Tryz.prog [] ann0 Tryz.f72 (G72 (F.num_Magic env)) := fun x K Kp w => by kernel_rfl
theorem fits72 : FitsOne Tryz.prog 72 (ent (G72 (F.num_Magic env))) := fits_of fits_nil mixed Tryz.func72 Tryz.call72 (by kernel_rfl) (by kernel_rfl) (by kernel_rfl) (Z72)
def G32 (c : Y3) : Sem [.one (.int .i64), .one (.int .i64)] := fun x K Kp w => c x.1 x.2.1 (fun r1 r2 w' => K (.tuple ⟨[.slice r1.base r1.len r1.cap, .int .i64 r2]⟩) w') w
def ann32 : Ann := { loops := [(6, [(6, .one (.sl)), (7, .one (.int .i64)), (8, .one (.int .i64))]), (15, [(107, .one (.int .i64))])], joins := [(2, [(42, .one (.bool))]), (12, [(91, .one (.bool))]), (22, [])] }
theorem Z32 (c0 : Y0) (c1 : Y1) (c2 : Y1) (c3 : Y2) : Tie Tryz.prog [(69, ent (G69 c0)), (70, ent (G70 c1)), (71, ent (G71 c2)), (72, ent (G72 c3))] ann32 Tryz.f32 (G32 (T0.class_Make env c0 c1 c2 c3)) := fun x K Kp w => by kernel_rfl
theorem fits32 : FitsOne Tryz.prog 32 (ent (G32 (F.class_Make env))) := fits_of (fits_cons fits69 (fits_cons fits70 (fits_cons fits71 (fits_cons fits72 fits_nil)))) mixed Tryz.func32 Tryz.call32 (by kernel_rfl) (by kernel_rfl) (by kernel_rfl) (Z32 _ _ _ _)
def G9 (c : Y4) : Sem [] := fun x K Kp w => c  (fun r1 w' => K (.slice r1.base r1.len r1.cap) w') w
theorem Z9 (c0 : Y3) : Tie Tryz.prog [(32, ent (G32 c0))] ann0 Tryz.f9 (G9 (T0.class_Table env c0)) := fun x K Kp w => by kernel_rfl
theorem fits9 : FitsOne Tryz.prog 9 (ent (G9 (F.class_Table env))) := fits_of (fits_cons fits32 fits_nil) mixed Tryz.func9 Tryz.call9 (by kernel_rfl) (by kernel_rfl) (by kernel_rfl) (Z9 _)
def G73 (c : Y5) : Sem [.one (.sl)] := fun x K Kp w => c x.1 (fun r1 w' => K (.slice r1.base r1.len r1.cap) w') w
theorem Z73 : Tie Tryz.prog [] ann0 Tryz.f73 (G73 (F.slices_Clone___uint64_uint64_ env)) := fun x K Kp w => by kernel_rfl
theorem fits73 : FitsOne Tryz.prog 73 (ent (G73 (F.slices_Clone___uint64_uint64_ env))) := fits_of fits_nil mixed Tryz.func73 Tryz.call73 (by kernel_rfl) (by kernel_rfl) (by kernel_rfl) (Z73)
def G74 (c : Y5) : Sem [.one (.sl)] := fun x K Kp w => c x.1 (fun r1 w' => K (.slice r1.base r1.len r1.cap) w') w
theorem Z74 : Tie Tryz.prog [] ann0 Tryz.f74 (G74 (F.slices_Clone___bool_bool_ env)) := fun x K Kp w => by kernel_rfl
theorem fits74 : FitsOne Tryz.prog 74 (ent (G74 (F.slices_Clone___bool_bool_ env))) := fits_of fits_nil mixed Tryz.func74 Tryz.call74 (by kernel_rfl) (by kernel_rfl) (by kernel_rfl) (Z74)
def G33 (c : Y6) : Sem [.agg [.sl, .sl, .sl]] := fun x K Kp w => c x.1.1 x.1.2.1 x.1.2.2.1 (fun r1 w' => K (.pointer r1) w') w
theorem Z33 (c0 : Y5) (c1 : Y5) : Tie Tryz.prog [(73, ent (G73 c0)), (74, ent (G74 c1))] ann0 Tryz.f33 (G33 (T0.vmem_New env c0 c1)) := fun x K Kp w => by kernel_rfl
theorem fits33 : FitsOne Tryz.prog 33 (ent (G33 (F.vmem_New env))) := fits_of (fits_cons fits73 (fits_cons fits74 fits_nil)) mixed Tryz.func33 Tryz.call33 (by kernel_rfl) (by kernel_rfl) (by kernel_rfl) (Z33 _ _)
def G96 (c : Y7) : Sem [.one (.ptr)] := fun x K Kp w => c x.1 (fun  w' => K (.tuple ⟨[]⟩) w') w
def ann96 : Ann := { loops := [(2, [(5, .one (.int .i64))])], joins := [] }
theorem Z96 : Tie Tryz.prog [] ann96 Tryz.f96 (G96 (F.radix_Tree_changed env)) := fun x K Kp w => by kernel_rfl
theorem fits96 : FitsOne Tryz.prog 96 (ent (G96 (F.radix_Tree_changed env))) := fits_of fits_nil mixed Tryz.func96 Tryz.call96 (by kernel_rfl) (by kernel_rfl) (by kernel_rfl) (Z96)
def G75 (c : Y8) : Sem [] := fun x K Kp w => c  (fun r1 w' => K (.pointer r1) w') w
theorem Z75 (c0 : Y7) : Tie Tryz.prog [(96, ent (G96 c0))] ann0 Tryz.f75 (G75 (T0.radix_New env c0)) := fun x K Kp w => by kernel_rfl
theorem fits75 : FitsOne Tryz.prog 75 (ent (G75 (F.radix_New env))) := fits_of (fits_cons fits96 fits_nil) mixed Tryz.func75 Tryz.call75 (by kernel_rfl) (by kernel_rfl) (by kernel_rfl) (Z75 _)
def G76 (c : Y8) : Sem [] := fun x K Kp w => c  (fun r1 w' => K (.pointer r1) w') w
theorem Z76 : Tie Tryz.prog [] ann0 Tryz.f76 (G76 (F.arena_New env)) := fun x K Kp w => by kernel_rfl
theorem fits76 : FitsOne Tryz.prog 76 (ent (G76 (F.arena_New env))) := fits_of fits_nil mixed Tryz.func76 Tryz.call76 (by kernel_rfl) (by kernel_rfl) (by kernel_rfl) (Z76)
def G77 (c : Y9) : Sem [.one (.int .i64)] := fun x K Kp w => c x.1 (fun r1 r2 w' => K (.tuple ⟨[.pointer r1, .int .i64 r2]⟩) w') w
def ann77 : Ann := { loops := [], joins := [(2, [(9, .one (.bool))])] }
theorem Z77 : Tie Tryz.prog [] ann77 Tryz.f77 (G77 (F.fix_New env)) := fun x K Kp w => by kernel_rfl
theorem fits77 : FitsOne Tryz.prog 77 (ent (G77 (F.fix_New env))) := fits_of fits_nil mixed Tryz.func77 Tryz.call77 (by kernel_rfl) (by kernel_rfl) (by kernel_rfl) (Z77)
def G78 (c : Y8) : Sem [] := fun x K Kp w => c  (fun r1 w' => K (.pointer r1) w') w
theorem Z78 : Tie Tryz.prog [] ann0 Tryz.f78 (G78 (F.pcache_New env)) := fun x K Kp w => by kernel_rfl
theorem fits78 : FitsOne Tryz.prog 78 (ent (G78 (F.pcache_New env))) := fits_of fits_nil mixed Tryz.func78 Tryz.call78 (by kernel_rfl) (by kernel_rfl) (by kernel_rfl) (Z78)
def G34 (c : Y10) : Sem [.one (.ptr)] := fun x K Kp w => c x.1 (fun r1 w' => K (.pointer r1) w') w
def ann34 : Ann := { loops := [(4, [(18, .one (.int .i64))])], joins := [] }
theorem Z34 (c0 : Y8) (c1 : Y8) (c2 : Y9) (c3 : Y8) : Tie Tryz.prog [(75, ent (G75 c0)), (76, ent (G76 c1)), (77, ent (G77 c2)), (78, ent (G78 c3))] ann34 Tryz.f34 (G34 (T0.mheap_New env c0 c1 c2 c3)) := fun x K Kp w => by kernel_rfl
theorem fits34 : FitsOne Tryz.prog 34 (ent (G34 (F.mheap_New env))) := fits_of (fits_cons fits75 (fits_cons fits76 (fits_cons fits77 (fits_cons fits78 fits_nil)))) mixed Tryz.func34 Tryz.call34 (by kernel_rfl) (by kernel_rfl) (by kernel_rfl) (Z34 _ _ _ _)
def G35 (c : Y8) : Sem [] := fun x K Kp w => c  (fun r1 w' => K (.pointer r1) w') w
theorem Z35 : Tie Tryz.prog [] ann0 Tryz.f35 (G35 (F.sets_New env)) := fun x K Kp w => by kernel_rfl
theorem fits35 : FitsOne Tryz.prog 35 (ent (G35 (F.sets_New env))) := fits_of fits_nil mixed Tryz.func35 Tryz.call35 (by kernel_rfl) (by kernel_rfl) (by kernel_rfl) (Z35)
def G36 (c : Y8) : Sem [] := fun x K Kp w => c  (fun r1 w' => K (.pointer r1) w') w
theorem Z36 : Tie Tryz.prog [] ann0 Tryz.f36 (G36 (F.special_New env)) := fun x K Kp w => by kernel_rfl
theorem fits36 : FitsOne Tryz.prog 36 (ent (G36 (F.special_New env))) := fits_of fits_nil mixed Tryz.func36 Tryz.call36 (by kernel_rfl) (by kernel_rfl) (by kernel_rfl) (Z36)
def G37 (c : Y11) : Sem [.one (.ptr), .one (.ptr), .one (.ptr)] := fun x K Kp w => c x.1 x.2.1 x.2.2.1 (fun r1 w' => K (.pointer r1) w') w
theorem Z37 : Tie Tryz.prog [] ann0 Tryz.f37 (G37 (F.sweep_New env)) := fun x K Kp w => by kernel_rfl
theorem fits37 : FitsOne Tryz.prog 37 (ent (G37 (F.sweep_New env))) := fits_of fits_nil mixed Tryz.func37 Tryz.call37 (by kernel_rfl) (by kernel_rfl) (by kernel_rfl) (Z37)
def G38 (c : Y10) : Sem [.one (.ptr)] := fun x K Kp w => c x.1 (fun r1 w' => K (.pointer r1) w') w
theorem Z38 : Tie Tryz.prog [] ann0 Tryz.f38 (G38 (F.central_New env)) := fun x K Kp w => by kernel_rfl
theorem fits38 : FitsOne Tryz.prog 38 (ent (G38 (F.central_New env))) := fits_of fits_nil mixed Tryz.func38 Tryz.call38 (by kernel_rfl) (by kernel_rfl) (by kernel_rfl) (Z38)
def G12 (c : Y10) : Sem [.one (.ptr)] := fun x K Kp w => c x.1 (fun r1 w' => K (.pointer r1) w') w
theorem Z12 : Tie Tryz.prog [] ann0 Tryz.f12 (G12 (F.central_Central_Sweeper env)) := fun x K Kp w => by kernel_rfl
theorem fits12 : FitsOne Tryz.prog 12 (ent (G12 (F.central_Central_Sweeper env))) := fits_of fits_nil mixed Tryz.func12 Tryz.call12 (by kernel_rfl) (by kernel_rfl) (by kernel_rfl) (Z12)
def G11 (c : Y6) : Sem [.agg [.sl, .sl, .sl]] := fun x K Kp w => c x.1.1 x.1.2.1 x.1.2.2.1 (fun r1 w' => K (.pointer r1) w') w
def ann11 : Ann := { loops := [], joins := [(2, [(3, .one (.ptr))]), (6, [(38, .one (.bool))]), (12, [(54, .one (.bool))])] }
theorem Z11 (c0 : Y6) (c1 : Y10) (c2 : Y8) (c3 : Y8) (c4 : Y11) (c5 : Y10) (c6 : Y10) : Tie Tryz.prog [(33, ent (G33 c0)), (34, ent (G34 c1)), (35, ent (G35 c2)), (36, ent (G36 c3)), (37, ent (G37 c4)), (38, ent (G38 c5)), (12, ent (G12 c6))] ann11 Tryz.f11 (G11 (T0.mallowlaw19_fresh env c0 c1 c2 c3 c4 c5 c6)) := fun x K Kp w => by kernel_rfl
theorem fits11 : FitsOne Tryz.prog 11 (ent (G11 (F.mallowlaw19_fresh env))) := fits_of (fits_cons fits33 (fits_cons fits34 (fits_cons fits35 (fits_cons fits36 (fits_cons fits37 (fits_cons fits38 (fits_cons fits12 fits_nil))))))) mixed Tryz.func11 Tryz.call11 (by kernel_rfl) (by kernel_rfl) (by kernel_rfl) (Z11 _ _ _ _ _ _ _)
def G14 (c : Y12) : Sem [.one (.ptr), .one (.int .i64), .one (.int .i64), .one (.bool)] := fun x K Kp w => c x.1 x.2.1 x.2.2.1 x.2.2.2.1 (fun r1 r2 w' => K (.tuple ⟨[.int .i64 r1, .int .i64 r2]⟩) w') w
def ann14 : Ann := { loops := [(4, [(8, .one (.int .i64)), (9, .one (.int .i64)), (33, .one (.int .i64))])], joins := [(2, [(22, .one (.bool))]), (8, [(51, .one (.bool))])] }
theorem Z14 (c0 : Y4) : Tie Tryz.prog [(9, ent (G9 c0))] ann14 Tryz.f14 (G14 (T0.central_Central_Get env c0)) := fun x K Kp w => by kernel_rfl
theorem fits14 : FitsOne Tryz.prog 14 (ent (G14 (F.central_Central_Get env))) := fits_of (fits_cons fits9 fits_nil) mixed Tryz.func14 Tryz.call14 (by kernel_rfl) (by kernel_rfl) (by kernel_rfl) (Z14 _)
def G15 (c : Y13) : Sem [.one (.ptr), .one (.int .i64)] := fun x K Kp w => c x.1 x.2.1 (fun r1 r2 w' => K (.tuple ⟨[.pointer r1, .int .i64 r2]⟩) w') w
theorem Z15 : Tie Tryz.prog [] ann0 Tryz.f15 (G15 (F.mheap_Heap_Span env)) := fun x K Kp w => by kernel_rfl
theorem fits15 : FitsOne Tryz.prog 15 (ent (G15 (F.mheap_Heap_Span env))) := fits_of fits_nil mixed Tryz.func15 Tryz.call15 (by kernel_rfl) (by kernel_rfl) (by kernel_rfl) (Z15)
def G16 (c : Y14) : Sem [.one (.ptr)] := fun x K Kp w => c x.1 (fun r1 r2 r3 r4 r5 r6 r7 r8 r9 r10 w' => K (.agg ⟨[.int .u64 r1, .int .i64 r2, .int .i64 r3, .int .i64 r4, .bool r5, .int .i64 r6, .int .i64 r7, .int .i64 r8, .bool r9, .bool r10]⟩) w') w
noncomputable def C16 : Entry := ent (G16 (F.span_Span_Info env))
theorem Z16 : Tie Tryz.prog [] ann0 Tryz.f16 (G16 (F.span_Span_Info env)) := fun x K Kp w => by kernel_rfl
theorem fits16 : FitsOne Tryz.prog 16 (ent (G16 (F.span_Span_Info env))) := fits_of fits_nil mixed Tryz.func16 Tryz.call16 (by kernel_rfl) (by kernel_rfl) (by kernel_rfl) (Z16)
def G47 (c : Y15) : Sem [.one (.ptr), .one (.int .i64)] := fun x K Kp w => c x.1 x.2.1 (fun r1 r2 r3 r4 r5 r6 r7 r8 r9 r10 r11 r12 w' => K (.tuple ⟨[.pointer r1, .agg ⟨[.int .u64 r2, .int .i64 r3, .int .i64 r4, .int .i64 r5, .bool r6, .int .i64 r7, .int .i64 r8, .int .i64 r9, .bool r10, .bool r11]⟩, .int .i64 r12]⟩) w') w
noncomputable def C47 : Entry := ent (G47 (F.sweep_Sweeper_use env))
theorem Z47 (c0 : Y13) (c1 : Y14) : Tie Tryz.prog [(15, ent (G15 c0)), (16, ent (G16 c1))] ann0 Tryz.f47 (G47 (T0.sweep_Sweeper_use env c0 c1)) := fun x K Kp w => by kernel_rfl
theorem fits47 : FitsOne Tryz.prog 47 (ent (G47 (F.sweep_Sweeper_use env))) := fits_of (fits_cons fits15 (fits_cons fits16 fits_nil)) mixed Tryz.func47 Tryz.call47 (by kernel_rfl) (by kernel_rfl) (by kernel_rfl) (Z47 _ _)
def G128 (c : Y16) : Sem [.one (.int .i64), .one (.any)] := fun x K Kp w => c x.1 x.2.1 (fun r1 w' => K (.int .i64 r1) w') w
def ann128 : Ann := { loops := [(2, [(5, .one (.int .i64)), (6, .one (.int .i64))])], joins := [] }
theorem Z128 : Tie Tryz.prog [] ann128 Tryz.f128 (G128 (F.sort_Search env)) := fun x K Kp w => by kernel_rfl
theorem fits128 : FitsOne Tryz.prog 128 (ent (G128 (F.sort_Search env))) := fits_of fits_nil mixed Tryz.func128 Tryz.call128 (by kernel_rfl) (by kernel_rfl) (by kernel_rfl) (Z128)
def G102 (c : Y17) : Sem [.one (.ptr), .agg [.int .i64, .bool, .bool, .bool], .one (.int .u64)] := fun x K Kp w => c x.1 x.2.1.1 x.2.1.2.1 x.2.1.2.2.1 x.2.1.2.2.2.1 x.2.2.1 (fun r1 w' => K (.int .i64 r1) w') w
theorem Z102 (c0 : Y16) : Tie Tryz.prog [(128, ent (G128 c0))] ann0 Tryz.f102 (G102 (T0.sets_Sets_place env c0)) := fun x K Kp w => by kernel_rfl
theorem fits102 : FitsOne Tryz.prog 102 (ent (G102 (F.sets_Sets_place env))) := fits_of (fits_cons fits128 fits_nil) mixed Tryz.func102 Tryz.call102 (by kernel_rfl) (by kernel_rfl) (by kernel_rfl) (Z102 _)
def G83 (c : Y18) : Sem [.one (.ptr), .one (.int .i64), .one (.int .u64), .one (.int .i64), .one (.bool), .one (.bool), .one (.bool)] := fun x K Kp w => c x.1 x.2.1 x.2.2.1 x.2.2.2.1 x.2.2.2.2.1 x.2.2.2.2.2.1 x.2.2.2.2.2.2.1 (fun r1 w' => K (.int .i64 r1) w') w
def ann83 : Ann := { loops := [], joins := [(2, [(27, .one (.bool))]), (4, [(43, .one (.bool))])] }
theorem Z83 (c0 : Y17) : Tie Tryz.prog [(102, ent (G102 c0))] ann83 Tryz.f83 (G83 (T0.sets_Sets_Put env c0)) := fun x K Kp w => by kernel_rfl
theorem fits83 : FitsOne Tryz.prog 83 (ent (G83 (F.sets_Sets_Put env))) := fits_of (fits_cons fits102 fits_nil) mixed Tryz.func83 Tryz.call83 (by kernel_rfl) (by kernel_rfl) (by kernel_rfl) (Z83 _)
def G45 (c : Y19) : Sem [.one (.ptr), .one (.int .i64), .one (.bool)] := fun x K Kp w => c x.1 x.2.1 x.2.2.1 (fun r1 w' => K (.int .i64 r1) w') w
noncomputable def C45 : Entry := ent (G45 (F.sweep_Sweeper_Put env))
theorem Z45 (c0 : Y15) (c1 : Y18) : Tie Tryz.prog [(47, ent (G47 c0)), (83, ent (G83 c1))] ann0 Tryz.f45 (G45 (T0.sweep_Sweeper_Put env c0 c1)) := fun x K Kp w => by kernel_rfl
theorem fits45 : FitsOne Tryz.prog 45 (ent (G45 (F.sweep_Sweeper_Put env))) := fits_of (fits_cons fits47 (fits_cons fits83 fits_nil)) mixed Tryz.func45 Tryz.call45 (by kernel_rfl) (by kernel_rfl) (by kernel_rfl) (Z45 _ _)
def G18 (c : Y20) : Sem [.one (.ptr), .one (.int .i64)] := fun x K Kp w => c x.1 x.2.1 (fun r1 w' => K (.int .i64 r1) w') w
theorem Z18 (c0 : Y19) : Tie Tryz.prog [(45, ent (G45 c0))] ann0 Tryz.f18 (G18 (T0.central_Central_Back env c0)) := fun x K Kp w => by kernel_rfl
theorem fits18 : FitsOne Tryz.prog 18 (ent (G18 (F.central_Central_Back env))) := fits_of (fits_cons fits45 fits_nil) mixed Tryz.func18 Tryz.call18 (by kernel_rfl) (by kernel_rfl) (by kernel_rfl) (Z18 _)
def G10 (c : Y21) : Sem [] := fun x K Kp w => c  (fun r1 w' => K (.bool r1) w') w
theorem Z10 (c0 : Y6) (c1 : Y12) (c2 : Y20) : Tie Tryz.prog [(11, ent (G11 c0)), (14, ent (G14 c1)), (18, ent (G18 c2))] ann0 Tryz.f10 (G10 (T0.mallowlaw19_awake env c0 c1 c2)) := fun x K Kp w => by kernel_rfl
theorem fits10 : FitsOne Tryz.prog 10 (ent (G10 (F.mallowlaw19_awake env))) := fits_of (fits_cons fits11 (fits_cons fits14 (fits_cons fits18 fits_nil))) mixed Tryz.func10 Tryz.call10 (by kernel_rfl) (by kernel_rfl) (by kernel_rfl) (Z10 _ _ _)
def G13 (c : Y10) : Sem [.one (.ptr)] := fun x K Kp w => c x.1 (fun r1 w' => K (.pointer r1) w') w
theorem Z13 : Tie Tryz.prog [] ann0 Tryz.f13 (G13 (F.sweep_Sweeper_Heap env)) := fun x K Kp w => by kernel_rfl
theorem fits13 : FitsOne Tryz.prog 13 (ent (G13 (F.sweep_Sweeper_Heap env))) := fits_of fits_nil mixed Tryz.func13 Tryz.call13 (by kernel_rfl) (by kernel_rfl) (by kernel_rfl) (Z13)
def G82 (c : Y2) : Sem [.one (.int .u64)] := fun x K Kp w => c x.1 (fun r1 w' => K (.int .i64 r1) w') w
theorem Z82 : Tie Tryz.prog [] ann0 Tryz.f82 (G82 (F.math_bits_TrailingZeros64 env)) := fun x K Kp w => by kernel_rfl
theorem fits82 : FitsOne Tryz.prog 82 (ent (G82 (F.math_bits_TrailingZeros64 env))) := fits_of fits_nil mixed Tryz.func82 Tryz.call82 (by kernel_rfl) (by kernel_rfl) (by kernel_rfl) (Z82)
def G43 (c : Y22) : Sem [.one (.sl), .one (.int .i64)] := fun x K Kp w => c x.1 x.2.1 (fun r1 w' => K (.int .i64 r1) w') w
def ann43 : Ann := { loops := [(2, [(5, .one (.int .i64))])], joins := [(7, [(6, .one (.int .u64))])] }
theorem Z43 (c0 : Y2) : Tie Tryz.prog [(82, ent (G82 c0))] ann43 Tryz.f43 (G43 (T0._span_row_free env c0)) := fun x K Kp w => by kernel_rfl
theorem fits43 : FitsOne Tryz.prog 43 (ent (G43 (F._span_row_free env))) := fits_of (fits_cons fits82 fits_nil) mixed Tryz.func43 Tryz.call43 (by kernel_rfl) (by kernel_rfl) (by kernel_rfl) (Z43 _)
def G44 (c : Y23) : Sem [.one (.ptr), .one (.int .i64)] := fun x K Kp w => c x.1 x.2.1 (fun  w' => K (.tuple ⟨[]⟩) w') w
def ann44 : Ann := { loops := [(0, [])], joins := [] }
theorem Z44 : Tie Tryz.prog [] ann44 Tryz.f44 (G44 (F.span_row_set env)) := fun x K Kp w => by kernel_rfl
theorem fits44 : FitsOne Tryz.prog 44 (ent (G44 (F.span_row_set env))) := fits_of fits_nil mixed Tryz.func44 Tryz.call44 (by kernel_rfl) (by kernel_rfl) (by kernel_rfl) (Z44)
def G17 (c : Y24) : Sem [.one (.ptr)] := fun x K Kp w => c x.1 (fun r1 r2 w' => K (.tuple ⟨[.int .i64 r1, .int .i64 r2]⟩) w') w
theorem Z17 (c0 : Y22) (c1 : Y23) : Tie Tryz.prog [(43, ent (G43 c0)), (44, ent (G44 c1))] ann0 Tryz.f17 (G17 (T0.span_Span_Next env c0 c1)) := fun x K Kp w => by kernel_rfl
theorem fits17 : FitsOne Tryz.prog 17 (ent (G17 (F.span_Span_Next env))) := fits_of (fits_cons fits43 (fits_cons fits44 fits_nil)) mixed Tryz.func17 Tryz.call17 (by kernel_rfl) (by kernel_rfl) (by kernel_rfl) (Z17 _ _)
def G46 (c : Y26) : Sem [.one (.ptr), .one (.int .i64)] := fun x K Kp w => c x.1 x.2.1 (fun r1 w' => K (.bool r1) w') w
theorem Z46 : Tie Tryz.prog [] ann0 Tryz.f46 (G46 (F.span_Span_there env)) := fun x K Kp w => by kernel_rfl
theorem fits46 : FitsOne Tryz.prog 46 (ent (G46 (F.span_Span_there env))) := fits_of fits_nil mixed Tryz.func46 Tryz.call46 (by kernel_rfl) (by kernel_rfl) (by kernel_rfl) (Z46)
def G19 (c : Y27) : Sem [.one (.ptr), .one (.int .i64)] := fun x K Kp w => c x.1 x.2.1 (fun r1 r2 w' => K (.tuple ⟨[.int .u64 r1, .int .i64 r2]⟩) w') w
theorem Z19 (c0 : Y26) : Tie Tryz.prog [(46, ent (G46 c0))] ann0 Tryz.f19 (G19 (T0.span_Span_Slot env c0)) := fun x K Kp w => by kernel_rfl
theorem fits19 : FitsOne Tryz.prog 19 (ent (G19 (F.span_Span_Slot env))) := fits_of (fits_cons fits46 fits_nil) mixed Tryz.func19 Tryz.call19 (by kernel_rfl) (by kernel_rfl) (by kernel_rfl) (Z19 _)
def G31 (c : Y28) : Sem [.one (.ptr), .one (.bool)] := fun x K Kp w => c x.1 x.2.1 (fun r1 w' => K (.int .i64 r1) w') w
def ann31 : Ann := { loops := [(3, [(5, .one (.int .i64))])], joins := [(4, [(14, .one (.bool))])] }
theorem Z31 : Tie Tryz.prog [] ann31 Tryz.f31 (G31 (F.sets_Sets_Count env)) := fun x K Kp w => by kernel_rfl
theorem fits31 : FitsOne Tryz.prog 31 (ent (G31 (F.sets_Sets_Count env))) := fits_of fits_nil mixed Tryz.func31 Tryz.call31 (by kernel_rfl) (by kernel_rfl) (by kernel_rfl) (Z31)
def G103 (c : Y20) : Sem [.one (.ptr), .one (.int .u64)] := fun x K Kp w => c x.1 x.2.1 (fun r1 w' => K (.int .i64 r1) w') w
def ann103 : Ann := { loops := [(2, [(12, .one (.int .i64))])], joins := [(5, [(25, .one (.bool))])] }
theorem Z103 : Tie Tryz.prog [] ann103 Tryz.f103 (G103 (F.arena_Map_whole env)) := fun x K Kp w => by kernel_rfl
theorem fits103 : FitsOne Tryz.prog 103 (ent (G103 (F.arena_Map_whole env))) := fits_of fits_nil mixed Tryz.func103 Tryz.call103 (by kernel_rfl) (by kernel_rfl) (by kernel_rfl) (Z103)
def G84 (c : Y20) : Sem [.one (.ptr), .one (.int .u64)] := fun x K Kp w => c x.1 x.2.1 (fun r1 w' => K (.int .i64 r1) w') w
theorem Z84 (c0 : Y20) : Tie Tryz.prog [(103, ent (G103 c0))] ann0 Tryz.f84 (G84 (T0.arena_Map_At env c0)) := fun x K Kp w => by kernel_rfl
theorem fits84 : FitsOne Tryz.prog 84 (ent (G84 (F.arena_Map_At env))) := fits_of (fits_cons fits103 fits_nil) mixed Tryz.func84 Tryz.call84 (by kernel_rfl) (by kernel_rfl) (by kernel_rfl) (Z84 _)
def G48 (c : Y20) : Sem [.one (.ptr), .one (.int .u64)] := fun x K Kp w => c x.1 x.2.1 (fun r1 w' => K (.int .i64 r1) w') w
theorem Z48 (c0 : Y20) : Tie Tryz.prog [(84, ent (G84 c0))] ann0 Tryz.f48 (G48 (T0.mheap_Heap_Of env c0)) := fun x K Kp w => by kernel_rfl
theorem fits48 : FitsOne Tryz.prog 48 (ent (G48 (F.mheap_Heap_Of env))) := fits_of (fits_cons fits84 fits_nil) mixed Tryz.func48 Tryz.call48 (by kernel_rfl) (by kernel_rfl) (by kernel_rfl) (Z48 _)
def G85 (c : Y1) : Sem [.one (.int .u32), .one (.int .u32)] := fun x K Kp w => c x.1 x.2.1 (fun r1 w' => K (.int .u32 r1) w') w
theorem Z85 : Tie Tryz.prog [] ann0 Tryz.f85 (G85 (F.num_Quot env)) := fun x K Kp w => by kernel_rfl
theorem fits85 : FitsOne Tryz.prog 85 (ent (G85 (F.num_Quot env))) := fits_of fits_nil mixed Tryz.func85 Tryz.call85 (by kernel_rfl) (by kernel_rfl) (by kernel_rfl) (Z85)
def G49 (c : Y27) : Sem [.one (.ptr), .one (.int .u64)] := fun x K Kp w => c x.1 x.2.1 (fun r1 r2 w' => K (.tuple ⟨[.int .i64 r1, .int .i64 r2]⟩) w') w
def ann49 : Ann := { loops := [], joins := [(2, [(36, .one (.bool))])] }
theorem Z49 (c0 : Y1) : Tie Tryz.prog [(85, ent (G85 c0))] ann49 Tryz.f49 (G49 (T0.span_Span_Index env c0)) := fun x K Kp w => by kernel_rfl
theorem fits49 : FitsOne Tryz.prog 49 (ent (G49 (F.span_Span_Index env))) := fits_of (fits_cons fits85 fits_nil) mixed Tryz.func49 Tryz.call49 (by kernel_rfl) (by kernel_rfl) (by kernel_rfl) (Z49 _)
def G50 (c : Y20) : Sem [.one (.ptr), .one (.int .i64)] := fun x K Kp w => c x.1 x.2.1 (fun r1 w' => K (.int .i64 r1) w') w
theorem Z50 (c0 : Y26) (c1 : Y23) : Tie Tryz.prog [(46, ent (G46 c0)), (44, ent (G44 c1))] ann0 Tryz.f50 (G50 (T0.span_Span_Mark env c0 c1)) := fun x K Kp w => by kernel_rfl
theorem fits50 : FitsOne Tryz.prog 50 (ent (G50 (F.span_Span_Mark env))) := fits_of (fits_cons fits46 (fits_cons fits44 fits_nil)) mixed Tryz.func50 Tryz.call50 (by kernel_rfl) (by kernel_rfl) (by kernel_rfl) (Z50 _ _)
def G51 (c : Y29) : Sem [.one (.ptr)] := fun x K Kp w => c x.1 (fun r1 w' => K (.int .i64 r1) w') w
def ann51 : Ann := { loops := [(5, []), (9, [(25, .one (.int .i64))])], joins := [(6, [(18, .one (.bool))])] }
theorem Z51 (c0 : Y28) : Tie Tryz.prog [(31, ent (G31 c0))] ann51 Tryz.f51 (G51 (T0.sets_Sets_Flip env c0)) := fun x K Kp w => by kernel_rfl
theorem fits51 : FitsOne Tryz.prog 51 (ent (G51 (F.sets_Sets_Flip env))) := fits_of (fits_cons fits31 fits_nil) mixed Tryz.func51 Tryz.call51 (by kernel_rfl) (by kernel_rfl) (by kernel_rfl) (Z51 _)
def G20 (c : Y30) : Sem [.one (.ptr), .one (.sl)] := fun x K Kp w => c x.1 x.2.1 (fun r1 w' => K (.int .i64 r1) w') w
def ann20 : Ann := { loops := [(4, [(20, .one (.int .i64))])], joins := [] }
theorem Z20 (c0 : Y28) (c1 : Y20) (c2 : Y15) (c3 : Y27) (c4 : Y20) (c5 : Y29) : Tie Tryz.prog [(31, ent (G31 c0)), (48, ent (G48 c1)), (47, ent (G47 c2)), (49, ent (G49 c3)), (50, ent (G50 c4)), (51, ent (G51 c5))] ann20 Tryz.f20 (G20 (T0.sweep_Sweeper_Mark env c0 c1 c2 c3 c4 c5)) := fun x K Kp w => by kernel_rfl
theorem fits20 : FitsOne Tryz.prog 20 (ent (G20 (F.sweep_Sweeper_Mark env))) := fits_of (fits_cons fits31 (fits_cons fits48 (fits_cons fits47 (fits_cons fits49 (fits_cons fits50 (fits_cons fits51 fits_nil)))))) mixed Tryz.func20 Tryz.call20 (by kernel_rfl) (by kernel_rfl) (by kernel_rfl) (Z20 _ _ _ _ _ _)
def G86 (c : Y29) : Sem [.one (.ptr)] := fun x K Kp w => c x.1 (fun r1 w' => K (.int .u64 r1) w') w
theorem Z86 : Tie Tryz.prog [] ann0 Tryz.f86 (G86 (F.stretch_Set_Sum env)) := fun x K Kp w => by kernel_rfl
theorem fits86 : FitsOne Tryz.prog 86 (ent (G86 (F.stretch_Set_Sum env))) := fits_of fits_nil mixed Tryz.func86 Tryz.call86 (by kernel_rfl) (by kernel_rfl) (by kernel_rfl) (Z86)
def G52 (c : Y29) : Sem [.one (.ptr)] := fun x K Kp w => c x.1 (fun r1 w' => K (.int .u64 r1) w') w
theorem Z52 (c0 : Y29) : Tie Tryz.prog [(86, ent (G86 c0))] ann0 Tryz.f52 (G52 (T0.radix_Tree_Released env c0)) := fun x K Kp w => by kernel_rfl
theorem fits52 : FitsOne Tryz.prog 52 (ent (G52 (F.radix_Tree_Released env))) := fits_of (fits_cons fits86 fits_nil) mixed Tryz.func52 Tryz.call52 (by kernel_rfl) (by kernel_rfl) (by kernel_rfl) (Z52 _)
def G87 (c : Y31) : Sem [.one (.ptr)] := fun x K Kp w => c x.1 (fun r1 w' => K (.bool r1) w') w
theorem Z87 : Tie Tryz.prog [] ann0 Tryz.f87 (G87 (F.pcache_Cache_Empty env)) := fun x K Kp w => by kernel_rfl
theorem fits87 : FitsOne Tryz.prog 87 (ent (G87 (F.pcache_Cache_Empty env))) := fits_of fits_nil mixed Tryz.func87 Tryz.call87 (by kernel_rfl) (by kernel_rfl) (by kernel_rfl) (Z87)
def G53 (c : Y32) : Sem [.one (.ptr)] := fun x K Kp w => c x.1 (fun r1 r2 r3 w' => K (.tuple ⟨[.int .u64 r1, .int .u64 r2, .int .u64 r3]⟩) w') w
theorem Z53 (c0 : Y31) : Tie Tryz.prog [(87, ent (G87 c0))] ann0 Tryz.f53 (G53 (T0.pcache_Cache_Tell env c0)) := fun x K Kp w => by kernel_rfl
theorem fits53 : FitsOne Tryz.prog 53 (ent (G53 (F.pcache_Cache_Tell env))) := fits_of (fits_cons fits87 fits_nil) mixed Tryz.func53 Tryz.call53 (by kernel_rfl) (by kernel_rfl) (by kernel_rfl) (Z53 _)
def G54 (c : Y29) : Sem [.one (.ptr)] := fun x K Kp w => c x.1 (fun r1 w' => K (.int .u64 r1) w') w
theorem Z54 (c0 : Y29) : Tie Tryz.prog [(86, ent (G86 c0))] ann0 Tryz.f54 (G54 (T0.arena_Map_Count env c0)) := fun x K Kp w => by kernel_rfl
theorem fits54 : FitsOne Tryz.prog 54 (ent (G54 (F.arena_Map_Count env))) := fits_of (fits_cons fits86 fits_nil) mixed Tryz.func54 Tryz.call54 (by kernel_rfl) (by kernel_rfl) (by kernel_rfl) (Z54 _)
def G21 (c : Y32) : Sem [.one (.ptr)] := fun x K Kp w => c x.1 (fun r1 r2 r3 w' => K (.tuple ⟨[.int .u64 r1, .int .u64 r2, .int .u64 r3]⟩) w') w
def ann21 : Ann := { loops := [(3, [(5, .one (.int .u64)), (20, .one (.int .i64))]), (6, [(5, .one (.int .u64)), (10, .one (.int .u64))])], joins := [] }
theorem Z21 (c0 : Y29) (c1 : Y32) (c2 : Y29) : Tie Tryz.prog [(52, ent (G52 c0)), (53, ent (G53 c1)), (54, ent (G54 c2))] ann21 Tryz.f21 (G21 (T0.mheap_Heap_Pages env c0 c1 c2)) := fun x K Kp w => by kernel_rfl
theorem fits21 : FitsOne Tryz.prog 21 (ent (G21 (F.mheap_Heap_Pages env))) := fits_of (fits_cons fits52 (fits_cons fits53 (fits_cons fits54 fits_nil))) mixed Tryz.func21 Tryz.call21 (by kernel_rfl) (by kernel_rfl) (by kernel_rfl) (Z21 _ _ _)
def G4 (c : Y33) : Sem [.one (.int .i64), .one (.int .i64), .one (.int .i64)] := fun x K Kp w => c x.1 x.2.1 x.2.2.1 (fun r1 w' => K (.bool r1) w') w
def ann4 : Ann := { loops := [(10, [(10, .one (.sl)), (11, .one (.int .i64))]), (16, [(10, .one (.sl))]), (31, [(25, .one (.int .i64))])], joins := [(3, [(59, .one (.bool))]), (15, [(95, .one (.bool))]), (29, [(23, .one (.int .i64))]), (36, [(170, .one (.bool))])] }
theorem Z4 (c0 : Y4) (c1 : Y21) (c2 : Y6) (c3 : Y10) (c4 : Y10) (c5 : Y12) (c6 : Y13) (c7 : Y24) (c8 : Y27) (c9 : Y20) (c10 : Y30) (c11 : Y32) (c12 : Y14) : Tie Tryz.prog [(9, ent (G9 c0)), (10, ent (G10 c1)), (11, ent (G11 c2)), (12, ent (G12 c3)), (13, ent (G13 c4)), (14, ent (G14 c5)), (15, ent (G15 c6)), (17, ent (G17 c7)), (19, ent (G19 c8)), (18, ent (G18 c9)), (20, ent (G20 c10)), (21, ent (G21 c11)), (16, ent (G16 c12))] ann4 Tryz.f4 (G4 (T0.mallowlaw19_CentralSweeps env c0 c1 c2 c3 c4 c5 c6 c7 c8 c9 c10 c11 c12)) := fun x K Kp w => by kernel_rfl
theorem fits4 : FitsOne Tryz.prog 4 (ent (G4 (F.mallowlaw19_CentralSweeps env))) := fits_of (fits_cons fits9 (fits_cons fits10 (fits_cons fits11 (fits_cons fits12 (fits_cons fits13 (fits_cons fits14 (fits_cons fits15 (fits_cons fits17 (fits_cons fits19 (fits_cons fits18 (fits_cons fits20 (fits_cons fits21 (fits_cons fits16 fits_nil))))))))))))) mixed Tryz.func4 Tryz.call4 (by kernel_rfl) (by kernel_rfl) (by kernel_rfl) (Z4 _ _ _ _ _ _ _ _ _ _ _ _ _)
end Go.Sh
