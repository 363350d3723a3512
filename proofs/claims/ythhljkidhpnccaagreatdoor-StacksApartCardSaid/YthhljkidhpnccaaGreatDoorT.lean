/- Each shallow form is what the code of its function comes to, piece 1. No further condition. -/
import Derived.Test.YthhljkidhpnccaaGreatDoorF
import Derived.Test.YthhljkidhpnccaaGreatDoorProg
import Derived.KernelRfl
set_option linter.all false
set_option maxRecDepth 100000
set_option maxHeartbeats 4000000
namespace Go.Sh
open Go.Proofs
theorem mixed : Tryz.prog.follows .mixedOrders = true := by kernel_rfl
noncomputable def env : Env := { call := ground Tryz.prog, t_uint64 := 31, t_bool := 4, t_api_Answers := 28, t_vmem_Mem := 93, t_map_uint64_api_Sum := 158, t_radix_Tree := 118, t_arena_Map := 124, t_fix_Fix := 131, t_pcache_Cache := 120, t_mheap_Heap := 65, t_stack_Stacks := 54, t_api_Info := 80, t_span_Span := 112, t_stretch_One := 138, t__stretch_Set := 136, t__mheap_Heap := 23, t_api_Errno := 32, t_fix_record := 147, t__fix_record := 129, t_arena_wide := 143, t__arena_Map := 60, t_int := 3, t_vmem_fault := 105, t__1024_uint64 := 107, t_slices_xorshift := 168, t__512_int := 166, f_stretch_Set_at_1 := 99, f_arena_Map_Set_1 := 76, f_mheap_Heap_Spans_1 := 35, g_math_bits_deBruijn64tab := 0, t_special_record := 0 }
def ann0 : Ann := { loops := [], joins := [] }
abbrev Sem (l : List VT) := ArgsV l -> (Value -> World -> Prop) -> (Value -> World -> Prop) -> World -> Prop
def ent {l : List VT} (F : Sem l) : Entry := fun args w K Kp => unArgs l args.toList fun x => F x K Kp w
def Tie (P : Program) (T : List (Nat × Entry)) (A : Ann) (fn : Func) {l : List VT} (F : Sem l) : Prop :=
 ∀ x K Kp w, F x K Kp w = ev P (tabC T) (ground P) A (fn.body.getD .skip) (finQ P fn K Kp) (initF (mkArgs l x)) w
theorem fits_of {P : Program} {T : List (Nat × Entry)} {A : Ann} {f : FuncId} {fn : Func} {l : List VT} {F : Sem l}
 (hT : ∀ p ∈ T, FitsAny P p.1 p.2) (hm : P.follows .mixedOrders = true) (hf : P.funcs[f]? = some fn) (hcall : ∀ args w, (callFunc f args).run P w = .ok (.enter f args) w)
 (hb : fn.body = some (fn.body.getD .skip)) (hsz : Nat.ble l.length fn.ntmps = true) (hW : withinB fn.ntmps (written (fn.body.getD .skip)) = true) (htie : Tie P T A fn F) : FitsOne P f (ent F) :=
 fits_of_tie hT hm hf hcall hb hsz hW htie
def G38 (c : Y0) : Sem [.one (.sl)] := fun x K Kp w => c x.1 (fun r1 w' => K (.slice r1.base r1.len r1.cap) w') w
theorem Z38 : Tie Tryz.prog [] ann0 Tryz.f38 (G38 (F.slices_Clone___uint64_uint64_ env)) := fun x K Kp w => by kernel_rfl
theorem fits38 : FitsOne Tryz.prog 38 (ent (G38 (F.slices_Clone___uint64_uint64_ env))) := fits_of fits_nil mixed Tryz.func38 Tryz.call38 (by kernel_rfl) (by kernel_rfl) (by kernel_rfl) (Z38)
def G39 (c : Y0) : Sem [.one (.sl)] := fun x K Kp w => c x.1 (fun r1 w' => K (.slice r1.base r1.len r1.cap) w') w
theorem Z39 : Tie Tryz.prog [] ann0 Tryz.f39 (G39 (F.slices_Clone___bool_bool_ env)) := fun x K Kp w => by kernel_rfl
theorem fits39 : FitsOne Tryz.prog 39 (ent (G39 (F.slices_Clone___bool_bool_ env))) := fits_of fits_nil mixed Tryz.func39 Tryz.call39 (by kernel_rfl) (by kernel_rfl) (by kernel_rfl) (Z39)
def G15 (c : Y1) : Sem [.agg [.sl, .sl, .sl]] := fun x K Kp w => c x.1.1 x.1.2.1 x.1.2.2.1 (fun r1 w' => K (.pointer r1) w') w
theorem Z15 (c0 : Y0) (c1 : Y0) : Tie Tryz.prog [(38, ent (G38 c0)), (39, ent (G39 c1))] ann0 Tryz.f15 (G15 (T0.vmem_New env c0 c1)) := fun x K Kp w => by kernel_rfl
theorem fits15 : FitsOne Tryz.prog 15 (ent (G15 (F.vmem_New env))) := fits_of (fits_cons fits38 (fits_cons fits39 fits_nil)) mixed Tryz.func15 Tryz.call15 (by kernel_rfl) (by kernel_rfl) (by kernel_rfl) (Z15 _ _)
def G64 (c : Y2) : Sem [.one (.ptr)] := fun x K Kp w => c x.1 (fun  w' => K (.tuple ⟨[]⟩) w') w
def ann64 : Ann := { loops := [(2, [(5, .one (.int .i64))])], joins := [] }
theorem Z64 : Tie Tryz.prog [] ann64 Tryz.f64 (G64 (F.radix_Tree_changed env)) := fun x K Kp w => by kernel_rfl
theorem fits64 : FitsOne Tryz.prog 64 (ent (G64 (F.radix_Tree_changed env))) := fits_of fits_nil mixed Tryz.func64 Tryz.call64 (by kernel_rfl) (by kernel_rfl) (by kernel_rfl) (Z64)
def G40 (c : Y3) : Sem [] := fun x K Kp w => c  (fun r1 w' => K (.pointer r1) w') w
theorem Z40 (c0 : Y2) : Tie Tryz.prog [(64, ent (G64 c0))] ann0 Tryz.f40 (G40 (T0.radix_New env c0)) := fun x K Kp w => by kernel_rfl
theorem fits40 : FitsOne Tryz.prog 40 (ent (G40 (F.radix_New env))) := fits_of (fits_cons fits64 fits_nil) mixed Tryz.func40 Tryz.call40 (by kernel_rfl) (by kernel_rfl) (by kernel_rfl) (Z40 _)
def G41 (c : Y3) : Sem [] := fun x K Kp w => c  (fun r1 w' => K (.pointer r1) w') w
theorem Z41 : Tie Tryz.prog [] ann0 Tryz.f41 (G41 (F.arena_New env)) := fun x K Kp w => by kernel_rfl
theorem fits41 : FitsOne Tryz.prog 41 (ent (G41 (F.arena_New env))) := fits_of fits_nil mixed Tryz.func41 Tryz.call41 (by kernel_rfl) (by kernel_rfl) (by kernel_rfl) (Z41)
def G42 (c : Y4) : Sem [.one (.int .i64)] := fun x K Kp w => c x.1 (fun r1 r2 w' => K (.tuple ⟨[.pointer r1, .int .i64 r2]⟩) w') w
def ann42 : Ann := { loops := [], joins := [(2, [(9, .one (.bool))])] }
theorem Z42 : Tie Tryz.prog [] ann42 Tryz.f42 (G42 (F.fix_New env)) := fun x K Kp w => by kernel_rfl
theorem fits42 : FitsOne Tryz.prog 42 (ent (G42 (F.fix_New env))) := fits_of fits_nil mixed Tryz.func42 Tryz.call42 (by kernel_rfl) (by kernel_rfl) (by kernel_rfl) (Z42)
def G43 (c : Y3) : Sem [] := fun x K Kp w => c  (fun r1 w' => K (.pointer r1) w') w
theorem Z43 : Tie Tryz.prog [] ann0 Tryz.f43 (G43 (F.pcache_New env)) := fun x K Kp w => by kernel_rfl
theorem fits43 : FitsOne Tryz.prog 43 (ent (G43 (F.pcache_New env))) := fits_of fits_nil mixed Tryz.func43 Tryz.call43 (by kernel_rfl) (by kernel_rfl) (by kernel_rfl) (Z43)
def G16 (c : Y5) : Sem [.one (.ptr)] := fun x K Kp w => c x.1 (fun r1 w' => K (.pointer r1) w') w
def ann16 : Ann := { loops := [(4, [(18, .one (.int .i64))])], joins := [] }
theorem Z16 (c0 : Y3) (c1 : Y3) (c2 : Y4) (c3 : Y3) : Tie Tryz.prog [(40, ent (G40 c0)), (41, ent (G41 c1)), (42, ent (G42 c2)), (43, ent (G43 c3))] ann16 Tryz.f16 (G16 (T0.mheap_New env c0 c1 c2 c3)) := fun x K Kp w => by kernel_rfl
theorem fits16 : FitsOne Tryz.prog 16 (ent (G16 (F.mheap_New env))) := fits_of (fits_cons fits40 (fits_cons fits41 (fits_cons fits42 (fits_cons fits43 fits_nil)))) mixed Tryz.func16 Tryz.call16 (by kernel_rfl) (by kernel_rfl) (by kernel_rfl) (Z16 _ _ _ _)
def G4 (c : Y1) : Sem [.agg [.sl, .sl, .sl]] := fun x K Kp w => c x.1.1 x.1.2.1 x.1.2.2.1 (fun r1 w' => K (.pointer r1) w') w
def ann4 : Ann := { loops := [], joins := [(2, [(3, .one (.ptr))])] }
theorem Z4 (c0 : Y1) (c1 : Y5) : Tie Tryz.prog [(15, ent (G15 c0)), (16, ent (G16 c1))] ann4 Tryz.f4 (G4 (T0.mallowlaw21_fresh env c0 c1)) := fun x K Kp w => by kernel_rfl
theorem fits4 : FitsOne Tryz.prog 4 (ent (G4 (F.mallowlaw21_fresh env))) := fits_of (fits_cons fits15 (fits_cons fits16 fits_nil)) mixed Tryz.func4 Tryz.call4 (by kernel_rfl) (by kernel_rfl) (by kernel_rfl) (Z4 _ _)
def G5 (c : Y5) : Sem [.one (.ptr)] := fun x K Kp w => c x.1 (fun r1 w' => K (.pointer r1) w') w
def ann5 : Ann := { loops := [(3, [(9, .one (.int .i64))])], joins := [] }
theorem Z5 : Tie Tryz.prog [] ann5 Tryz.f5 (G5 (F.stack_New env)) := fun x K Kp w => by kernel_rfl
theorem fits5 : FitsOne Tryz.prog 5 (ent (G5 (F.stack_New env))) := fits_of fits_nil mixed Tryz.func5 Tryz.call5 (by kernel_rfl) (by kernel_rfl) (by kernel_rfl) (Z5)
def G17 (c : Y19) : Sem [.one (.int .i64)] := fun x K Kp w => c x.1 (fun r1 w' => K (.bool r1) w') w
theorem Z17 : Tie Tryz.prog [] ann0 Tryz.f17 (G17 (F.stack_is env)) := fun x K Kp w => by kernel_rfl
theorem fits17 : FitsOne Tryz.prog 17 (ent (G17 (F.stack_is env))) := fits_of fits_nil mixed Tryz.func17 Tryz.call17 (by kernel_rfl) (by kernel_rfl) (by kernel_rfl) (Z17)
def G44 (c : Y6) : Sem [.one (.int .u64)] := fun x K Kp w => c x.1 (fun r1 w' => K (.int .i64 r1) w') w
theorem Z44 : Tie Tryz.prog [] ann0 Tryz.f44 (G44 (F.math_bits_TrailingZeros64 env)) := fun x K Kp w => by kernel_rfl
theorem fits44 : FitsOne Tryz.prog 44 (ent (G44 (F.math_bits_TrailingZeros64 env))) := fits_of fits_nil mixed Tryz.func44 Tryz.call44 (by kernel_rfl) (by kernel_rfl) (by kernel_rfl) (Z44)
def G18 (c : Y6) : Sem [.one (.int .u64)] := fun x K Kp w => c x.1 (fun r1 w' => K (.int .i64 r1) w') w
theorem Z18 (c0 : Y6) : Tie Tryz.prog [(44, ent (G44 c0))] ann0 Tryz.f18 (G18 (T0.stack_order env c0)) := fun x K Kp w => by kernel_rfl
theorem fits18 : FitsOne Tryz.prog 18 (ent (G18 (F.stack_order env))) := fits_of (fits_cons fits44 fits_nil) mixed Tryz.func18 Tryz.call18 (by kernel_rfl) (by kernel_rfl) (by kernel_rfl) (Z18 _)
def G45 (c : Y6) : Sem [.one (.int .i64)] := fun x K Kp w => c x.1 (fun r1 w' => K (.int .u64 r1) w') w
theorem Z45 : Tie Tryz.prog [] ann0 Tryz.f45 (G45 (F.stack_bytes env)) := fun x K Kp w => by kernel_rfl
theorem fits45 : FitsOne Tryz.prog 45 (ent (G45 (F.stack_bytes env))) := fits_of fits_nil mixed Tryz.func45 Tryz.call45 (by kernel_rfl) (by kernel_rfl) (by kernel_rfl) (Z45)
def G65 (c : Y15) : Sem [.one (.ptr)] := fun x K Kp w => c x.1 (fun r1 w' => K (.bool r1) w') w
theorem Z65 : Tie Tryz.prog [] ann0 Tryz.f65 (G65 (F.span_Span_Full env)) := fun x K Kp w => by kernel_rfl
theorem fits65 : FitsOne Tryz.prog 65 (ent (G65 (F.span_Span_Full env))) := fits_of fits_nil mixed Tryz.func65 Tryz.call65 (by kernel_rfl) (by kernel_rfl) (by kernel_rfl) (Z65)
def G33 (c : Y30) : Sem [.one (.ptr)] := fun x K Kp w => c x.1 (fun r1 r2 r3 r4 r5 r6 r7 r8 r9 r10 w' => K (.agg ⟨[.int .u64 r1, .int .i64 r2, .int .i64 r3, .int .i64 r4, .bool r5, .int .i64 r6, .int .i64 r7, .int .i64 r8, .bool r9, .bool r10]⟩) w') w
theorem Z33 : Tie Tryz.prog [] ann0 Tryz.f33 (G33 (F.span_Span_Info env)) := fun x K Kp w => by kernel_rfl
theorem fits33 : FitsOne Tryz.prog 33 (ent (G33 (F.span_Span_Info env))) := fits_of fits_nil mixed Tryz.func33 Tryz.call33 (by kernel_rfl) (by kernel_rfl) (by kernel_rfl) (Z33)
def G67 (c : Y31) : Sem [.one (.int .u64), .one (.int .u64), .one (.int .i64)] := fun x K Kp w => c x.1 x.2.1 x.2.2.1 (fun r1 r2 w' => K (.tuple ⟨[.pointer r1, .int .i64 r2]⟩) w') w
def ann67 : Ann := { loops := [], joins := [(2, [(34, .one (.bool))])] }
theorem Z67 : Tie Tryz.prog [] ann67 Tryz.f67 (G67 (F.span_Manual env)) := fun x K Kp w => by kernel_rfl
theorem fits67 : FitsOne Tryz.prog 67 (ent (G67 (F.span_Manual env))) := fits_of fits_nil mixed Tryz.func67 Tryz.call67 (by kernel_rfl) (by kernel_rfl) (by kernel_rfl) (Z67)
def G107 (c : Y19) : Sem [.one (.int .i64)] := fun x K Kp w => c x.1 (fun r1 w' => K (.bool r1) w') w
theorem Z107 : Tie Tryz.prog [] ann0 Tryz.f107 (G107 (F.mheap_is env)) := fun x K Kp w => by kernel_rfl
theorem fits107 : FitsOne Tryz.prog 107 (ent (G107 (F.mheap_is env))) := fits_of fits_nil mixed Tryz.func107 Tryz.call107 (by kernel_rfl) (by kernel_rfl) (by kernel_rfl) (Z107)
def G60 (c : Y15) : Sem [.one (.ptr)] := fun x K Kp w => c x.1 (fun r1 w' => K (.bool r1) w') w
theorem Z60 : Tie Tryz.prog [] ann0 Tryz.f60 (G60 (F.pcache_Cache_Empty env)) := fun x K Kp w => by kernel_rfl
theorem fits60 : FitsOne Tryz.prog 60 (ent (G60 (F.pcache_Cache_Empty env))) := fits_of fits_nil mixed Tryz.func60 Tryz.call60 (by kernel_rfl) (by kernel_rfl) (by kernel_rfl) (Z60)
def G127 (c : Y7) : Sem [.one (.ptr)] := fun x K Kp w => c x.1 (fun r1 w' => K (.slice r1.base r1.len r1.cap) w') w
theorem Z127 : Tie Tryz.prog [] ann0 Tryz.f127 (G127 (F.stretch_Set_All env)) := fun x K Kp w => by kernel_rfl
theorem fits127 : FitsOne Tryz.prog 127 (ent (G127 (F.stretch_Set_All env))) := fits_of fits_nil mixed Tryz.func127 Tryz.call127 (by kernel_rfl) (by kernel_rfl) (by kernel_rfl) (Z127)
def G113 (c : Y8) : Sem [.one (.ptr), .one (.int .u64)] := fun x K Kp w => c x.1 x.2.1 (fun r1 r2 w' => K (.tuple ⟨[.int .u64 r1, .bool r2]⟩) w') w
def ann113 : Ann := { loops := [(4, [(15, .one (.int .i64))])], joins := [] }
theorem Z113 (c0 : Y7) : Tie Tryz.prog [(127, ent (G127 c0))] ann113 Tryz.f113 (G113 (T0.radix_Tree_Find env c0)) := fun x K Kp w => by kernel_rfl
theorem fits113 : FitsOne Tryz.prog 113 (ent (G113 (F.radix_Tree_Find env))) := fits_of (fits_cons fits127 fits_nil) mixed Tryz.func113 Tryz.call113 (by kernel_rfl) (by kernel_rfl) (by kernel_rfl) (Z113 _)
def G98 (c : Y9) : Sem [.one (.int .i64), .one (.any)] := fun x K Kp w => c x.1 x.2.1 (fun r1 w' => K (.int .i64 r1) w') w
def ann98 : Ann := { loops := [(2, [(5, .one (.int .i64)), (6, .one (.int .i64))])], joins := [] }
theorem Z98 : Tie Tryz.prog [] ann98 Tryz.f98 (G98 (F.sort_Search env)) := fun x K Kp w => by kernel_rfl
theorem fits98 : FitsOne Tryz.prog 98 (ent (G98 (F.sort_Search env))) := fits_of fits_nil mixed Tryz.func98 Tryz.call98 (by kernel_rfl) (by kernel_rfl) (by kernel_rfl) (Z98)
def G72 (c : Y10) : Sem [.one (.ptr), .one (.int .u64)] := fun x K Kp w => c x.1 x.2.1 (fun r1 w' => K (.int .i64 r1) w') w
theorem Z72 (c0 : Y9) : Tie Tryz.prog [(98, ent (G98 c0))] ann0 Tryz.f72 (G72 (T0.stretch_Set_at env c0)) := fun x K Kp w => by kernel_rfl
theorem fits72 : FitsOne Tryz.prog 72 (ent (G72 (F.stretch_Set_at env))) := fits_of (fits_cons fits98 fits_nil) mixed Tryz.func72 Tryz.call72 (by kernel_rfl) (by kernel_rfl) (by kernel_rfl) (Z72 _)
def G74 (c : Y11) : Sem [.one (.ptr), .one (.int .u64), .one (.int .u64)] := fun x K Kp w => c x.1 x.2.1 x.2.2.1 (fun r1 w' => K (.int .u64 r1) w') w
def ann74 : Ann := { loops := [(3, [(7, .one (.int .u64)), (8, .one (.int .i64))])], joins := [] }
theorem Z74 (c0 : Y10) : Tie Tryz.prog [(72, ent (G72 c0))] ann74 Tryz.f74 (G74 (T0.stretch_Set_Count env c0)) := fun x K Kp w => by kernel_rfl
theorem fits74 : FitsOne Tryz.prog 74 (ent (G74 (F.stretch_Set_Count env))) := fits_of (fits_cons fits72 fits_nil) mixed Tryz.func74 Tryz.call74 (by kernel_rfl) (by kernel_rfl) (by kernel_rfl) (Z74 _)
def G100 (c : Y12) : Sem [.one (.ptr), .one (.int .u64), .one (.int .u64), .one (.bool), .one (.int .i64)] := fun x K Kp w => c x.1 x.2.1 x.2.2.1 x.2.2.2.1 x.2.2.2.2.1 (fun r1 w' => K (.int .i64 r1) w') w
def ann100 : Ann := { loops := [], joins := [(4, [(11, .one (.int .u64))]), (5, [(14, .one (.bool))])] }
theorem Z100 (c0 : Y11) : Tie Tryz.prog [(74, ent (G74 c0))] ann100 Tryz.f100 (G100 (T0.radix_Tree_looked env c0)) := fun x K Kp w => by kernel_rfl
theorem fits100 : FitsOne Tryz.prog 100 (ent (G100 (F.radix_Tree_looked env))) := fits_of (fits_cons fits74 fits_nil) mixed Tryz.func100 Tryz.call100 (by kernel_rfl) (by kernel_rfl) (by kernel_rfl) (Z100 _)
def G121 (c : Y13) : Sem [.one (.ptr), .one (.int .u64), .one (.int .u64)] := fun x K Kp w => c x.1 x.2.1 x.2.2.1 (fun  w' => K (.tuple ⟨[]⟩) w') w
def ann121 : Ann := { loops := [(5, [(7, .one (.int .i64)), (8, .one (.sl))])], joins := [(10, [(8, .one (.sl))]), (12, [(7, .one (.int .i64)), (8, .one (.sl))])] }
theorem Z121 (c0 : Y11) (c1 : Y10) : Tie Tryz.prog [(74, ent (G74 c0)), (72, ent (G72 c1))] ann121 Tryz.f121 (G121 (T0.stretch_Set_Cut env c0 c1)) := fun x K Kp w => by kernel_rfl
theorem fits121 : FitsOne Tryz.prog 121 (ent (G121 (F.stretch_Set_Cut env))) := fits_of (fits_cons fits74 (fits_cons fits72 fits_nil)) mixed Tryz.func121 Tryz.call121 (by kernel_rfl) (by kernel_rfl) (by kernel_rfl) (Z121 _ _)
def G114 (c : Y14) : Sem [.one (.ptr), .one (.int .u64), .one (.int .u64)] := fun x K Kp w => c x.1 x.2.1 x.2.2.1 (fun r1 r2 w' => K (.tuple ⟨[.int .u64 r1, .int .i64 r2]⟩) w') w
theorem Z114 (c0 : Y12) (c1 : Y11) (c2 : Y13) (c3 : Y2) : Tie Tryz.prog [(100, ent (G100 c0)), (74, ent (G74 c1)), (121, ent (G121 c2)), (64, ent (G64 c3))] ann0 Tryz.f114 (G114 (T0.radix_Tree_Take env c0 c1 c2 c3)) := fun x K Kp w => by kernel_rfl
theorem fits114 : FitsOne Tryz.prog 114 (ent (G114 (F.radix_Tree_Take env))) := fits_of (fits_cons fits100 (fits_cons fits74 (fits_cons fits121 (fits_cons fits64 fits_nil)))) mixed Tryz.func114 Tryz.call114 (by kernel_rfl) (by kernel_rfl) (by kernel_rfl) (Z114 _ _ _ _)
def G108 (c : Y16) : Sem [.one (.ptr), .one (.ptr)] := fun x K Kp w => c x.1 x.2.1 (fun r1 w' => K (.int .i64 r1) w') w
def ann108 : Ann := { loops := [(8, [(28, .one (.int .u64))])], joins := [] }
theorem Z108 (c0 : Y8) (c1 : Y15) (c2 : Y14) : Tie Tryz.prog [(113, ent (G113 c0)), (60, ent (G60 c1)), (114, ent (G114 c2))] ann108 Tryz.f108 (G108 (T0.pcache_Cache_Fill env c0 c1 c2)) := fun x K Kp w => by kernel_rfl
theorem fits108 : FitsOne Tryz.prog 108 (ent (G108 (F.pcache_Cache_Fill env))) := fits_of (fits_cons fits113 (fits_cons fits60 (fits_cons fits114 fits_nil))) mixed Tryz.func108 Tryz.call108 (by kernel_rfl) (by kernel_rfl) (by kernel_rfl) (Z108 _ _ _)
def G123 (c : Y17) : Sem [.one (.int .u64), .one (.int .i64)] := fun x K Kp w => c x.1 x.2.1 (fun r1 r2 w' => K (.tuple ⟨[.int .i64 r1, .bool r2]⟩) w') w
def ann123 : Ann := { loops := [(2, [(0, .one (.int .u64)), (1, .one (.int .i64)), (6, .one (.int .i64))])], joins := [] }
theorem Z123 (c0 : Y6) : Tie Tryz.prog [(44, ent (G44 c0))] ann123 Tryz.f123 (G123 (T0.pcache_find env c0)) := fun x K Kp w => by kernel_rfl
theorem fits123 : FitsOne Tryz.prog 123 (ent (G123 (F.pcache_find env))) := fits_of (fits_cons fits44 fits_nil) mixed Tryz.func123 Tryz.call123 (by kernel_rfl) (by kernel_rfl) (by kernel_rfl) (Z123 _)
def G124 (c : Y6) : Sem [.one (.int .u64)] := fun x K Kp w => c x.1 (fun r1 w' => K (.int .i64 r1) w') w
theorem Z124 : Tie Tryz.prog [] ann0 Tryz.f124 (G124 (F.math_bits_OnesCount64 env)) := fun x K Kp w => by kernel_rfl
theorem fits124 : FitsOne Tryz.prog 124 (ent (G124 (F.math_bits_OnesCount64 env))) := fits_of fits_nil mixed Tryz.func124 Tryz.call124 (by kernel_rfl) (by kernel_rfl) (by kernel_rfl) (Z124)
def G109 (c : Y18) : Sem [.one (.ptr), .one (.int .i64)] := fun x K Kp w => c x.1 x.2.1 (fun r1 r2 r3 w' => K (.tuple ⟨[.int .u64 r1, .int .i64 r2, .int .i64 r3]⟩) w') w
def ann109 : Ann := { loops := [], joins := [(2, [(16, .one (.bool))])] }
theorem Z109 (c0 : Y17) (c1 : Y6) : Tie Tryz.prog [(123, ent (G123 c0)), (124, ent (G124 c1))] ann109 Tryz.f109 (G109 (T0.pcache_Cache_Alloc env c0 c1)) := fun x K Kp w => by kernel_rfl
theorem fits109 : FitsOne Tryz.prog 109 (ent (G109 (F.pcache_Cache_Alloc env))) := fits_of (fits_cons fits123 (fits_cons fits124 fits_nil)) mixed Tryz.func109 Tryz.call109 (by kernel_rfl) (by kernel_rfl) (by kernel_rfl) (Z109 _ _)
def G93 (c : Y18) : Sem [.one (.ptr), .one (.int .u64)] := fun x K Kp w => c x.1 x.2.1 (fun r1 r2 r3 w' => K (.tuple ⟨[.int .u64 r1, .int .u64 r2, .int .i64 r3]⟩) w') w
noncomputable def C93 : Entry := ent (G93 (F.radix_Tree_Alloc env))
theorem Z93 (c0 : Y8) (c1 : Y14) : Tie Tryz.prog [(113, ent (G113 c0)), (114, ent (G114 c1))] ann0 Tryz.f93 (G93 (T0.radix_Tree_Alloc env c0 c1)) := fun x K Kp w => by kernel_rfl
theorem fits93 : FitsOne Tryz.prog 93 (ent (G93 (F.radix_Tree_Alloc env))) := fits_of (fits_cons fits113 (fits_cons fits114 fits_nil)) mixed Tryz.func93 Tryz.call93 (by kernel_rfl) (by kernel_rfl) (by kernel_rfl) (Z93 _ _)
def G91 (c : Y20) : Sem [.one (.ptr), .one (.int .i64), .one (.int .u64)] := fun x K Kp w => c x.1 x.2.1 x.2.2.1 (fun r1 r2 w' => K (.tuple ⟨[.int .u64 r1, .bool r2]⟩) w') w
noncomputable def C91 : Entry := ent (G91 (F.mheap_Heap_got env))
def ann91 : Ann := { loops := [], joins := [(2, [(20, .one (.bool))]), (5, []), (8, [])] }
theorem Z91 (c0 : Y19) (c1 : Y15) (c2 : Y16) (c3 : Y18) (c4 : Y18) : Tie Tryz.prog [(107, ent (G107 c0)), (60, ent (G60 c1)), (108, ent (G108 c2)), (109, ent (G109 c3)), (93, ent (G93 c4))] ann91 Tryz.f91 (G91 (T0.mheap_Heap_got env c0 c1 c2 c3 c4)) := fun x K Kp w => by kernel_rfl
theorem fits91 : FitsOne Tryz.prog 91 (ent (G91 (F.mheap_Heap_got env))) := fits_of (fits_cons fits107 (fits_cons fits60 (fits_cons fits108 (fits_cons fits109 (fits_cons fits93 fits_nil))))) mixed Tryz.func91 Tryz.call91 (by kernel_rfl) (by kernel_rfl) (by kernel_rfl) (Z91 _ _ _ _ _)
def G118 (c : Y22) : Sem [.one (.ptr)] := fun x K Kp w => c x.1 (fun r1 r2 w' => K (.tuple ⟨[.bool r1, .bool r2]⟩) w') w
theorem Z118 : Tie Tryz.prog [] ann0 Tryz.f118 (G118 (F.vmem_used_bool_ env)) := fun x K Kp w => by kernel_rfl
theorem fits118 : FitsOne Tryz.prog 118 (ent (G118 (F.vmem_used_bool_ env))) := fits_of fits_nil mixed Tryz.func118 Tryz.call118 (by kernel_rfl) (by kernel_rfl) (by kernel_rfl) (Z118)
def G120 (c : Y23) : Sem [.one (.ptr)] := fun x K Kp w => c x.1 (fun r1 r2 w' => K (.tuple ⟨[.int .u64 r1, .bool r2]⟩) w') w
theorem Z120 : Tie Tryz.prog [] ann0 Tryz.f120 (G120 (F.vmem_used_uint64_ env)) := fun x K Kp w => by kernel_rfl
theorem fits120 : FitsOne Tryz.prog 120 (ent (G120 (F.vmem_used_uint64_ env))) := fits_of fits_nil mixed Tryz.func120 Tryz.call120 (by kernel_rfl) (by kernel_rfl) (by kernel_rfl) (Z120)
def G125 (c : Y21) : Sem [.one (.ptr), .one (.int .u64), .one (.int .u64)] := fun x K Kp w => c x.1 x.2.1 x.2.2.1 (fun r1 w' => K (.bool r1) w') w
theorem Z125 (c0 : Y11) : Tie Tryz.prog [(74, ent (G74 c0))] ann0 Tryz.f125 (G125 (T0.vmem_Mem_fits env c0)) := fun x K Kp w => by kernel_rfl
theorem fits125 : FitsOne Tryz.prog 125 (ent (G125 (F.vmem_Mem_fits env))) := fits_of (fits_cons fits74 fits_nil) mixed Tryz.func125 Tryz.call125 (by kernel_rfl) (by kernel_rfl) (by kernel_rfl) (Z125 _)
def G126 (c : Y20) : Sem [.one (.ptr), .one (.int .u64), .one (.int .u64)] := fun x K Kp w => c x.1 x.2.1 x.2.2.1 (fun r1 r2 w' => K (.tuple ⟨[.int .u64 r1, .bool r2]⟩) w') w
def ann126 : Ann := { loops := [(5, [(8, .one (.int .u64)), (24, .one (.int .i64))])], joins := [(9, []), (11, [(8, .one (.int .u64))])] }
theorem Z126 (c0 : Y7) (c1 : Y21) : Tie Tryz.prog [(127, ent (G127 c0)), (125, ent (G125 c1))] ann126 Tryz.f126 (G126 (T0.vmem_Mem_place env c0 c1)) := fun x K Kp w => by kernel_rfl
theorem fits126 : FitsOne Tryz.prog 126 (ent (G126 (F.vmem_Mem_place env))) := fits_of (fits_cons fits127 (fits_cons fits125 fits_nil)) mixed Tryz.func126 Tryz.call126 (by kernel_rfl) (by kernel_rfl) (by kernel_rfl) (Z126 _ _)
def G101 (c : Y13) : Sem [.one (.ptr), .one (.int .u64), .one (.int .u64)] := fun x K Kp w => c x.1 x.2.1 x.2.2.1 (fun  w' => K (.tuple ⟨[]⟩) w') w
def ann101 : Ann := { loops := [], joins := [(7, [(51, .one (.bool))]), (9, [(8, .one (.int .i64))]), (10, [(77, .one (.bool))]), (12, [(6, .one (.int .i64))])] }
theorem Z101 (c0 : Y13) (c1 : Y10) : Tie Tryz.prog [(121, ent (G121 c0)), (72, ent (G72 c1))] ann101 Tryz.f101 (G101 (T0.stretch_Set_Add env c0 c1)) := fun x K Kp w => by kernel_rfl
theorem fits101 : FitsOne Tryz.prog 101 (ent (G101 (F.stretch_Set_Add env))) := fits_of (fits_cons fits121 (fits_cons fits72 fits_nil)) mixed Tryz.func101 Tryz.call101 (by kernel_rfl) (by kernel_rfl) (by kernel_rfl) (Z101 _ _)
def G110 (c : Y14) : Sem [.one (.ptr), .one (.int .u64), .one (.int .u64)] := fun x K Kp w => c x.1 x.2.1 x.2.2.1 (fun r1 r2 w' => K (.tuple ⟨[.int .u64 r1, .int .i64 r2]⟩) w') w
def ann110 : Ann := { loops := [(9, [(10, .one (.int .u64)), (11, .one (.bool)), (52, .one (.int .i64))])], joins := [(2, [(24, .one (.bool))]), (8, [(11, .one (.bool))])] }
theorem Z110 (c0 : Y22) (c1 : Y23) (c2 : Y21) (c3 : Y20) (c4 : Y13) : Tie Tryz.prog [(118, ent (G118 c0)), (120, ent (G120 c1)), (125, ent (G125 c2)), (126, ent (G126 c3)), (101, ent (G101 c4))] ann110 Tryz.f110 (G110 (T0.vmem_Mem_Reserve env c0 c1 c2 c3 c4)) := fun x K Kp w => by kernel_rfl
theorem fits110 : FitsOne Tryz.prog 110 (ent (G110 (F.vmem_Mem_Reserve env))) := fits_of (fits_cons fits118 (fits_cons fits120 (fits_cons fits125 (fits_cons fits126 (fits_cons fits101 fits_nil))))) mixed Tryz.func110 Tryz.call110 (by kernel_rfl) (by kernel_rfl) (by kernel_rfl) (Z110 _ _ _ _ _)
def G111 (c : Y11) : Sem [.one (.ptr), .one (.int .u64), .one (.int .u64)] := fun x K Kp w => c x.1 x.2.1 x.2.2.1 (fun r1 w' => K (.int .i64 r1) w') w
def ann111 : Ann := { loops := [], joins := [(2, [(24, .one (.bool))])] }
theorem Z111 (c0 : Y11) (c1 : Y13) (c2 : Y2) : Tie Tryz.prog [(74, ent (G74 c0)), (101, ent (G101 c1)), (64, ent (G64 c2))] ann111 Tryz.f111 (G111 (T0.radix_Tree_Grow env c0 c1 c2)) := fun x K Kp w => by kernel_rfl
theorem fits111 : FitsOne Tryz.prog 111 (ent (G111 (F.radix_Tree_Grow env))) := fits_of (fits_cons fits74 (fits_cons fits101 (fits_cons fits64 fits_nil))) mixed Tryz.func111 Tryz.call111 (by kernel_rfl) (by kernel_rfl) (by kernel_rfl) (Z111 _ _ _)
def G112 (c : Y13) : Sem [.one (.ptr), .one (.int .u64), .one (.int .u64)] := fun x K Kp w => c x.1 x.2.1 x.2.2.1 (fun  w' => K (.tuple ⟨[]⟩) w') w
theorem Z112 (c0 : Y13) : Tie Tryz.prog [(101, ent (G101 c0))] ann0 Tryz.f112 (G112 (T0.arena_Map_Many env c0)) := fun x K Kp w => by kernel_rfl
theorem fits112 : FitsOne Tryz.prog 112 (ent (G112 (F.arena_Map_Many env))) := fits_of (fits_cons fits101 fits_nil) mixed Tryz.func112 Tryz.call112 (by kernel_rfl) (by kernel_rfl) (by kernel_rfl) (Z112 _)
def G92 (c : Y10) : Sem [.one (.ptr), .one (.int .u64)] := fun x K Kp w => c x.1 x.2.1 (fun r1 w' => K (.int .i64 r1) w') w
noncomputable def C92 : Entry := ent (G92 (F.mheap_Heap_grow env))
theorem Z92 (c0 : Y14) (c1 : Y11) (c2 : Y13) : Tie Tryz.prog [(110, ent (G110 c0)), (111, ent (G111 c1)), (112, ent (G112 c2))] ann0 Tryz.f92 (G92 (T0.mheap_Heap_grow env c0 c1 c2)) := fun x K Kp w => by kernel_rfl
theorem fits92 : FitsOne Tryz.prog 92 (ent (G92 (F.mheap_Heap_grow env))) := fits_of (fits_cons fits110 (fits_cons fits111 (fits_cons fits112 fits_nil))) mixed Tryz.func92 Tryz.call92 (by kernel_rfl) (by kernel_rfl) (by kernel_rfl) (Z92 _ _ _)
def G117 (c : Y25) : Sem [.one (.int .u64), .one (.int .u64)] := fun x K Kp w => c x.1 x.2.1 (fun r1 w' => K (.bool r1) w') w
theorem Z117 : Tie Tryz.prog [] ann0 Tryz.f117 (G117 (F.vmem_right env)) := fun x K Kp w => by kernel_rfl
theorem fits117 : FitsOne Tryz.prog 117 (ent (G117 (F.vmem_right env))) := fits_of fits_nil mixed Tryz.func117 Tryz.call117 (by kernel_rfl) (by kernel_rfl) (by kernel_rfl) (Z117)
def G119 (c : Y24) : Sem [.one (.ptr), .one (.int .u64), .one (.int .u64)] := fun x K Kp w => c x.1 x.2.1 x.2.2.1 (fun r1 w' => K (.slice r1.base r1.len r1.cap) w') w
def ann119 : Ann := { loops := [(3, [(7, .one (.sl)), (8, .one (.int .i64))])], joins := [] }
theorem Z119 (c0 : Y10) : Tie Tryz.prog [(72, ent (G72 c0))] ann119 Tryz.f119 (G119 (T0.stretch_Set_Within env c0)) := fun x K Kp w => by kernel_rfl
theorem fits119 : FitsOne Tryz.prog 119 (ent (G119 (F.stretch_Set_Within env))) := fits_of (fits_cons fits72 fits_nil) mixed Tryz.func119 Tryz.call119 (by kernel_rfl) (by kernel_rfl) (by kernel_rfl) (Z119 _)
def G96 (c : Y11) : Sem [.one (.ptr), .one (.int .u64), .one (.int .u64)] := fun x K Kp w => c x.1 x.2.1 x.2.2.1 (fun r1 w' => K (.int .i64 r1) w') w
noncomputable def C96 : Entry := ent (G96 (F.vmem_Mem_Commit env))
def ann96 : Ann := { loops := [(12, [(56, .one (.int .i64))]), (15, [(12, .one (.int .u64))])], joins := [(22, [])] }
theorem Z96 (c0 : Y25) (c1 : Y11) (c2 : Y22) (c3 : Y24) (c4 : Y23) (c5 : Y13) (c6 : Y13) : Tie Tryz.prog [(117, ent (G117 c0)), (74, ent (G74 c1)), (118, ent (G118 c2)), (119, ent (G119 c3)), (120, ent (G120 c4)), (121, ent (G121 c5)), (101, ent (G101 c6))] ann96 Tryz.f96 (G96 (T0.vmem_Mem_Commit env c0 c1 c2 c3 c4 c5 c6)) := fun x K Kp w => by kernel_rfl
theorem fits96 : FitsOne Tryz.prog 96 (ent (G96 (F.vmem_Mem_Commit env))) := fits_of (fits_cons fits117 (fits_cons fits74 (fits_cons fits118 (fits_cons fits119 (fits_cons fits120 (fits_cons fits121 (fits_cons fits101 fits_nil))))))) mixed Tryz.func96 Tryz.call96 (by kernel_rfl) (by kernel_rfl) (by kernel_rfl) (Z96 _ _ _ _ _ _ _)
def G115 (c : Y24) : Sem [.one (.ptr), .one (.int .u64), .one (.int .u64)] := fun x K Kp w => c x.1 x.2.1 x.2.2.1 (fun r1 w' => K (.slice r1.base r1.len r1.cap) w') w
theorem Z115 (c0 : Y24) : Tie Tryz.prog [(119, ent (G119 c0))] ann0 Tryz.f115 (G115 (T0.vmem_Mem_Ready env c0)) := fun x K Kp w => by kernel_rfl
theorem fits115 : FitsOne Tryz.prog 115 (ent (G115 (F.vmem_Mem_Ready env))) := fits_of (fits_cons fits119 fits_nil) mixed Tryz.func115 Tryz.call115 (by kernel_rfl) (by kernel_rfl) (by kernel_rfl) (Z115 _)
def G78 (c : Y26) : Sem [.one (.ptr), .one (.int .u64), .one (.int .u64), .one (.ptr)] := fun x K Kp w => c x.1 x.2.1 x.2.2.1 x.2.2.2.1 (fun r1 w' => K (.int .i64 r1) w') w
theorem Z78 (c0 : Y12) (c1 : Y13) (c2 : Y2) : Tie Tryz.prog [(100, ent (G100 c0)), (101, ent (G101 c1)), (64, ent (G64 c2))] ann0 Tryz.f78 (G78 (T0.radix_Tree_freed env c0 c1 c2)) := fun x K Kp w => by kernel_rfl
theorem fits78 : FitsOne Tryz.prog 78 (ent (G78 (F.radix_Tree_freed env))) := fits_of (fits_cons fits100 (fits_cons fits101 (fits_cons fits64 fits_nil))) mixed Tryz.func78 Tryz.call78 (by kernel_rfl) (by kernel_rfl) (by kernel_rfl) (Z78 _ _ _)
def G116 (c : Y11) : Sem [.one (.ptr), .one (.int .u64), .one (.int .u64)] := fun x K Kp w => c x.1 x.2.1 x.2.2.1 (fun r1 w' => K (.int .i64 r1) w') w
theorem Z116 (c0 : Y26) : Tie Tryz.prog [(78, ent (G78 c0))] ann0 Tryz.f116 (G116 (T0.radix_Tree_Back env c0)) := fun x K Kp w => by kernel_rfl
theorem fits116 : FitsOne Tryz.prog 116 (ent (G116 (F.radix_Tree_Back env))) := fits_of (fits_cons fits78 fits_nil) mixed Tryz.func116 Tryz.call116 (by kernel_rfl) (by kernel_rfl) (by kernel_rfl) (Z116 _)
def G56 (c : Y11) : Sem [.one (.ptr), .one (.int .u64), .one (.int .u64)] := fun x K Kp w => c x.1 x.2.1 x.2.2.1 (fun r1 w' => K (.int .i64 r1) w') w
theorem Z56 (c0 : Y26) : Tie Tryz.prog [(78, ent (G78 c0))] ann0 Tryz.f56 (G56 (T0.radix_Tree_Give env c0)) := fun x K Kp w => by kernel_rfl
theorem fits56 : FitsOne Tryz.prog 56 (ent (G56 (F.radix_Tree_Give env))) := fits_of (fits_cons fits78 fits_nil) mixed Tryz.func56 Tryz.call56 (by kernel_rfl) (by kernel_rfl) (by kernel_rfl) (Z56 _)
def G95 (c : Y13) : Sem [.one (.ptr), .one (.int .u64), .one (.int .u64)] := fun x K Kp w => c x.1 x.2.1 x.2.2.1 (fun  w' => K (.tuple ⟨[]⟩) w') w
noncomputable def C95 : Entry := ent (G95 (F.mheap_Heap_back env))
def ann95 : Ann := { loops := [(2, [(6, .one (.int .u64)), (20, .one (.int .i64))])], joins := [] }
theorem Z95 (c0 : Y24) (c1 : Y11) (c2 : Y11) : Tie Tryz.prog [(115, ent (G115 c0)), (116, ent (G116 c1)), (56, ent (G56 c2))] ann95 Tryz.f95 (G95 (T0.mheap_Heap_back env c0 c1 c2)) := fun x K Kp w => by kernel_rfl
theorem fits95 : FitsOne Tryz.prog 95 (ent (G95 (F.mheap_Heap_back env))) := fits_of (fits_cons fits115 (fits_cons fits116 (fits_cons fits56 fits_nil))) mixed Tryz.func95 Tryz.call95 (by kernel_rfl) (by kernel_rfl) (by kernel_rfl) (Z95 _ _ _)
noncomputable def body94 : Code := (Tryz.f94.body).getD .skip
def ann94 : Ann := { loops := [], joins := [] }
theorem tieZ94 (c_mheap_Heap_back : ∀ (a0 : (Option Addr)) (a1 : Int) (a2 : Int) (K : World -> Prop) (w : World), Prop) (x : ArgsV [.one (.ptr), .one (.ptr), .one (.ptr), .one (.ptr)]) (K Kp : Value -> World -> Prop) (w : World) : T0.mheap_Heap_find_1 env c_mheap_Heap_back x.1 x.2.1 x.2.2.1 x.2.2.2.1 (fun  w' => K (.tuple ⟨[]⟩) w') w =
 ev Tryz.prog (tabC [(95, fun args w K Kp => unArgs [.one (.ptr), .one (.int .u64), .one (.int .u64)] args.toList fun x => c_mheap_Heap_back x.1 x.2.1 x.2.2.1 (fun  w' => K (.tuple ⟨[]⟩) w') w)]) (ground Tryz.prog) ann94 body94 (finQ Tryz.prog Tryz.f94 K Kp) (initF (mkArgs [.one (.ptr), .one (.ptr), .one (.ptr), .one (.ptr)] x)) w := by kernel_rfl
theorem tie94 (x : ArgsV [.one (.ptr), .one (.ptr), .one (.ptr), .one (.ptr)]) (K Kp : Value -> World -> Prop) (w : World) : F.mheap_Heap_find_1 env x.1 x.2.1 x.2.2.1 x.2.2.2.1 (fun  w' => K (.tuple ⟨[]⟩) w') w =
 ev Tryz.prog (tabC [(95, C95)]) (ground Tryz.prog) ann94 body94 (finQ Tryz.prog Tryz.f94 K Kp) (initF (mkArgs [.one (.ptr), .one (.ptr), .one (.ptr), .one (.ptr)] x)) w := tieZ94 (F.mheap_Heap_back env) x K Kp w
noncomputable def D94 : EntryD := fun args pv w K => unArgs [.one (.ptr), .one (.ptr), .one (.ptr), .one (.ptr)] args.toList fun x => F.mheap_Heap_find_1 env x.1 x.2.1 x.2.2.1 x.2.2.2.1 (fun w' => K false w') w
theorem fitsD94 : FitsDOne Tryz.prog 94 D94 :=
 fitsD_plain (T := [(95, C95)]) (A := ann94) (fn := Tryz.f94) (c := body94) (l := [.one (.ptr), .one (.ptr), .one (.ptr), .one (.ptr)]) (F := fun (x : ArgsV [.one (.ptr), .one (.ptr), .one (.ptr), .one (.ptr)]) K w => F.mheap_Heap_find_1 env x.1 x.2.1 x.2.2.1 x.2.2.2.1 K w) (fits_cons fits95 fits_nil) mixed Tryz.func94 Tryz.call94 (by kernel_rfl) (by kernel_rfl) (by kernel_rfl) (fun x K w => tie94 x (fun _ w' => K w') noP w)
noncomputable def C68 : Entry := fun args w K Kp => unArgs [.one (.ptr), .one (.int .i64), .one (.int .u64)] args.toList fun x => F.mheap_Heap_find env x.1 x.2.1 x.2.2.1 (fun r1 r2 w' => K (.tuple ⟨[.int .u64 r1, .int .i64 r2]⟩) w') w
noncomputable def body68 : Code := (Tryz.f68.body).getD .skip
def ann68 : Ann := { loops := [], joins := [(7, [(6, .one (.int .u64))])] }
theorem tieZ68 (c_mheap_Heap_got : ∀ (a0 : (Option Addr)) (a1 : Int) (a2 : Int) (K : Int -> Bool -> World -> Prop) (w : World), Prop) (c_mheap_Heap_grow : ∀ (a0 : (Option Addr)) (a1 : Int) (K : Int -> World -> Prop) (w : World), Prop) (c_radix_Tree_Alloc : ∀ (a0 : (Option Addr)) (a1 : Int) (K : Int -> Int -> Int -> World -> Prop) (w : World), Prop) (c_vmem_Mem_Commit : ∀ (a0 : (Option Addr)) (a1 : Int) (a2 : Int) (K : Int -> World -> Prop) (w : World), Prop) (x : ArgsV [.one (.ptr), .one (.int .i64), .one (.int .u64)]) (K : Value -> World -> Prop) (w : World) : T0.mheap_Heap_find env c_mheap_Heap_got c_mheap_Heap_grow c_radix_Tree_Alloc c_vmem_Mem_Commit x.1 x.2.1 x.2.2.1 (fun r1 r2 w' => K (.tuple ⟨[.int .u64 r1, .int .i64 r2]⟩) w') w =
 evD Tryz.prog (tabC [(91, fun args w K Kp => unArgs [.one (.ptr), .one (.int .i64), .one (.int .u64)] args.toList fun x => c_mheap_Heap_got x.1 x.2.1 x.2.2.1 (fun r1 r2 w' => K (.tuple ⟨[.int .u64 r1, .bool r2]⟩) w') w), (92, fun args w K Kp => unArgs [.one (.ptr), .one (.int .u64)] args.toList fun x => c_mheap_Heap_grow x.1 x.2.1 (fun r1 w' => K (.int .i64 r1) w') w), (93, fun args w K Kp => unArgs [.one (.ptr), .one (.int .u64)] args.toList fun x => c_radix_Tree_Alloc x.1 x.2.1 (fun r1 r2 r3 w' => K (.tuple ⟨[.int .u64 r1, .int .u64 r2, .int .i64 r3]⟩) w') w), (96, fun args w K Kp => unArgs [.one (.ptr), .one (.int .u64), .one (.int .u64)] args.toList fun x => c_vmem_Mem_Commit x.1 x.2.1 x.2.2.1 (fun r1 w' => K (.int .i64 r1) w') w)]) (ground Tryz.prog) ann68 (finQ Tryz.prog Tryz.f68 K noP) (finD Tryz.prog Tryz.f68 (tabD [(94, D94)]) K noP) body68 (initF (mkArgs [.one (.ptr), .one (.int .i64), .one (.int .u64)] x)) w := by kernel_rfl
theorem tie68 (x : ArgsV [.one (.ptr), .one (.int .i64), .one (.int .u64)]) (K : Value -> World -> Prop) (w : World) : F.mheap_Heap_find env x.1 x.2.1 x.2.2.1 (fun r1 r2 w' => K (.tuple ⟨[.int .u64 r1, .int .i64 r2]⟩) w') w =
 evD Tryz.prog (tabC [(91, C91), (92, C92), (93, C93), (96, C96)]) (ground Tryz.prog) ann68 (finQ Tryz.prog Tryz.f68 K noP) (finD Tryz.prog Tryz.f68 (tabD [(94, D94)]) K noP) body68 (initF (mkArgs [.one (.ptr), .one (.int .i64), .one (.int .u64)] x)) w := tieZ68 (F.mheap_Heap_got env) (F.mheap_Heap_grow env) (F.radix_Tree_Alloc env) (F.vmem_Mem_Commit env) x K w
theorem fits68 : FitsOne Tryz.prog 68 C68 :=
 fits_of_tieD (T := [(91, C91), (92, C92), (93, C93), (96, C96)]) (TD := [(94, D94)]) (A := ann68) (fn := Tryz.f68) (c := body68) (fits_cons fits91 (fits_cons fits92 (fits_cons fits93 (fits_cons fits96 fits_nil)))) (fitsD_cons fitsD94 fitsD_nil) mixed Tryz.func68 Tryz.call68 (by kernel_rfl) (by kernel_rfl) (by kernel_rfl) tie68
def G97 (c : Y29) : Sem [.one (.ptr)] := fun x K Kp w => c x.1 (fun r1 w' => K (.int .i64 r1) w') w
def ann97 : Ann := { loops := [], joins := [(6, [(3, .one (.ptr))])] }
theorem Z97 : Tie Tryz.prog [] ann97 Tryz.f97 (G97 (F.fix_Fix_Take env)) := fun x K Kp w => by kernel_rfl
theorem fits97 : FitsOne Tryz.prog 97 (ent (G97 (F.fix_Fix_Take env))) := fits_of fits_nil mixed Tryz.func97 Tryz.call97 (by kernel_rfl) (by kernel_rfl) (by kernel_rfl) (Z97)
def G75 (c : Y13) : Sem [.one (.ptr), .one (.int .u64), .one (.int .u64)] := fun x K Kp w => c x.1 x.2.1 x.2.2.1 (fun  w' => K (.tuple ⟨[]⟩) w') w
def ann75 : Ann := { loops := [(2, [(6, .one (.sl)), (16, .one (.int .i64))]), (14, []), (19, [(10, .one (.int .u64))])], joins := [(5, [(29, .one (.bool))]), (8, [(6, .one (.sl))]), (15, [(81, .one (.bool))]), (17, [(91, .one (.bool))])] }
theorem Z75 : Tie Tryz.prog [] ann75 Tryz.f75 (G75 (F.arena_Map_cut env)) := fun x K Kp w => by kernel_rfl
theorem fits75 : FitsOne Tryz.prog 75 (ent (G75 (F.arena_Map_cut env))) := fits_of fits_nil mixed Tryz.func75 Tryz.call75 (by kernel_rfl) (by kernel_rfl) (by kernel_rfl) (Z75)
def G55 (c : Y28) : Sem [.one (.ptr), .one (.int .u64), .one (.int .u64), .one (.int .i64)] := fun x K Kp w => c x.1 x.2.1 x.2.2.1 x.2.2.2.1 (fun r1 w' => K (.int .i64 r1) w') w
def ann55 : Ann := { loops := [], joins := [(2, [(20, .one (.bool))]), (4, [(28, .one (.bool))]), (14, [])] }
theorem Z55 (c0 : Y11) (c1 : Y13) : Tie Tryz.prog [(74, ent (G74 c0)), (75, ent (G75 c1))] ann55 Tryz.f55 (G55 (T0.arena_Map_Set env c0 c1)) := fun x K Kp w => by kernel_rfl
theorem fits55 : FitsOne Tryz.prog 55 (ent (G55 (F.arena_Map_Set env))) := fits_of (fits_cons fits74 (fits_cons fits75 fits_nil)) mixed Tryz.func55 Tryz.call55 (by kernel_rfl) (by kernel_rfl) (by kernel_rfl) (Z55 _ _)
def G69 (c : Y16) : Sem [.one (.ptr), .one (.ptr)] := fun x K Kp w => c x.1 x.2.1 (fun r1 w' => K (.int .i64 r1) w') w
theorem Z69 (c0 : Y29) (c1 : Y30) (c2 : Y28) : Tie Tryz.prog [(97, ent (G97 c0)), (33, ent (G33 c1)), (55, ent (G55 c2))] ann0 Tryz.f69 (G69 (T0.mheap_Heap_keep env c0 c1 c2)) := fun x K Kp w => by kernel_rfl
theorem fits69 : FitsOne Tryz.prog 69 (ent (G69 (F.mheap_Heap_keep env))) := fits_of (fits_cons fits97 (fits_cons fits33 (fits_cons fits55 fits_nil))) mixed Tryz.func69 Tryz.call69 (by kernel_rfl) (by kernel_rfl) (by kernel_rfl) (Z69 _ _ _)
def G47 (c : Y14) : Sem [.one (.ptr), .one (.int .u64), .one (.int .i64)] := fun x K Kp w => c x.1 x.2.1 x.2.2.1 (fun r1 r2 w' => K (.tuple ⟨[.int .i64 r1, .int .i64 r2]⟩) w') w
theorem Z47 (c0 : Y31) (c1 : Y14) (c2 : Y16) : Tie Tryz.prog [(67, ent (G67 c0)), (68, fun args w K Kp => unArgs [.one (.ptr), .one (.int .i64), .one (.int .u64)] args.toList fun x => c1 x.1 x.2.1 x.2.2.1 (fun r1 r2 w' => K (.tuple ⟨[.int .u64 r1, .int .i64 r2]⟩) w') w), (69, ent (G69 c2))] ann0 Tryz.f47 (G47 (T0.mheap_Heap_Manual env c0 c1 c2)) := fun x K Kp w => by kernel_rfl
theorem fits47 : FitsOne Tryz.prog 47 (ent (G47 (F.mheap_Heap_Manual env))) := fits_of (fits_cons fits67 (fits_cons fits68 (fits_cons fits69 fits_nil))) mixed Tryz.func47 Tryz.call47 (by kernel_rfl) (by kernel_rfl) (by kernel_rfl) (Z47 _ _ _)
def G25 (c : Y37) : Sem [.one (.ptr), .one (.int .i64)] := fun x K Kp w => c x.1 x.2.1 (fun r1 r2 w' => K (.tuple ⟨[.pointer r1, .int .i64 r2]⟩) w') w
theorem Z25 : Tie Tryz.prog [] ann0 Tryz.f25 (G25 (F.mheap_Heap_Span env)) := fun x K Kp w => by kernel_rfl
theorem fits25 : FitsOne Tryz.prog 25 (ent (G25 (F.mheap_Heap_Span env))) := fits_of fits_nil mixed Tryz.func25 Tryz.call25 (by kernel_rfl) (by kernel_rfl) (by kernel_rfl) (Z25)
def G70 (c : Y32) : Sem [.one (.sl), .one (.int .i64)] := fun x K Kp w => c x.1 x.2.1 (fun r1 w' => K (.int .i64 r1) w') w
def ann70 : Ann := { loops := [(2, [(5, .one (.int .i64))])], joins := [(7, [(6, .one (.int .u64))])] }
theorem Z70 (c0 : Y6) : Tie Tryz.prog [(44, ent (G44 c0))] ann70 Tryz.f70 (G70 (T0._span_row_free env c0)) := fun x K Kp w => by kernel_rfl
theorem fits70 : FitsOne Tryz.prog 70 (ent (G70 (F._span_row_free env))) := fits_of (fits_cons fits44 fits_nil) mixed Tryz.func70 Tryz.call70 (by kernel_rfl) (by kernel_rfl) (by kernel_rfl) (Z70 _)
def G71 (c : Y33) : Sem [.one (.ptr), .one (.int .i64)] := fun x K Kp w => c x.1 x.2.1 (fun  w' => K (.tuple ⟨[]⟩) w') w
def ann71 : Ann := { loops := [(0, [])], joins := [] }
theorem Z71 : Tie Tryz.prog [] ann71 Tryz.f71 (G71 (F.span_row_set env)) := fun x K Kp w => by kernel_rfl
theorem fits71 : FitsOne Tryz.prog 71 (ent (G71 (F.span_row_set env))) := fits_of fits_nil mixed Tryz.func71 Tryz.call71 (by kernel_rfl) (by kernel_rfl) (by kernel_rfl) (Z71)
def G48 (c : Y34) : Sem [.one (.ptr)] := fun x K Kp w => c x.1 (fun r1 r2 w' => K (.tuple ⟨[.int .i64 r1, .int .i64 r2]⟩) w') w
theorem Z48 (c0 : Y32) (c1 : Y33) : Tie Tryz.prog [(70, ent (G70 c0)), (71, ent (G71 c1))] ann0 Tryz.f48 (G48 (T0.span_Span_Next env c0 c1)) := fun x K Kp w => by kernel_rfl
theorem fits48 : FitsOne Tryz.prog 48 (ent (G48 (F.span_Span_Next env))) := fits_of (fits_cons fits70 (fits_cons fits71 fits_nil)) mixed Tryz.func48 Tryz.call48 (by kernel_rfl) (by kernel_rfl) (by kernel_rfl) (Z48 _ _)
def G51 (c : Y35) : Sem [.one (.ptr), .one (.int .i64)] := fun x K Kp w => c x.1 x.2.1 (fun r1 w' => K (.bool r1) w') w
theorem Z51 : Tie Tryz.prog [] ann0 Tryz.f51 (G51 (F.span_Span_there env)) := fun x K Kp w => by kernel_rfl
theorem fits51 : FitsOne Tryz.prog 51 (ent (G51 (F.span_Span_there env))) := fits_of fits_nil mixed Tryz.func51 Tryz.call51 (by kernel_rfl) (by kernel_rfl) (by kernel_rfl) (Z51)
def G66 (c : Y36) : Sem [.one (.ptr), .one (.int .i64)] := fun x K Kp w => c x.1 x.2.1 (fun r1 r2 w' => K (.tuple ⟨[.int .u64 r1, .int .i64 r2]⟩) w') w
theorem Z66 (c0 : Y35) : Tie Tryz.prog [(51, ent (G51 c0))] ann0 Tryz.f66 (G66 (T0.span_Span_Slot env c0)) := fun x K Kp w => by kernel_rfl
theorem fits66 : FitsOne Tryz.prog 66 (ent (G66 (F.span_Span_Slot env))) := fits_of (fits_cons fits51 fits_nil) mixed Tryz.func66 Tryz.call66 (by kernel_rfl) (by kernel_rfl) (by kernel_rfl) (Z66 _)
def G46 (c : Y36) : Sem [.one (.ptr), .one (.int .i64)] := fun x K Kp w => c x.1 x.2.1 (fun r1 r2 w' => K (.tuple ⟨[.int .u64 r1, .int .i64 r2]⟩) w') w
def ann46 : Ann := { loops := [(3, [(6, .one (.ptr))])], joins := [(4, [(23, .one (.bool))]), (6, [(41, .one (.bool))]), (13, [(6, .one (.ptr))])] }
theorem Z46 (c0 : Y15) (c1 : Y30) (c2 : Y6) (c3 : Y14) (c4 : Y37) (c5 : Y34) (c6 : Y36) : Tie Tryz.prog [(65, ent (G65 c0)), (33, ent (G33 c1)), (45, ent (G45 c2)), (47, ent (G47 c3)), (25, ent (G25 c4)), (48, ent (G48 c5)), (66, ent (G66 c6))] ann46 Tryz.f46 (G46 (T0.stack_Stacks_take env c0 c1 c2 c3 c4 c5 c6)) := fun x K Kp w => by kernel_rfl
theorem fits46 : FitsOne Tryz.prog 46 (ent (G46 (F.stack_Stacks_take env))) := fits_of (fits_cons fits65 (fits_cons fits33 (fits_cons fits45 (fits_cons fits47 (fits_cons fits25 (fits_cons fits48 (fits_cons fits66 fits_nil))))))) mixed Tryz.func46 Tryz.call46 (by kernel_rfl) (by kernel_rfl) (by kernel_rfl) (Z46 _ _ _ _ _ _ _)
def G29 (c : Y29) : Sem [.one (.ptr)] := fun x K Kp w => c x.1 (fun r1 w' => K (.int .u64 r1) w') w
theorem Z29 : Tie Tryz.prog [] ann0 Tryz.f29 (G29 (F.stack_row_pop env)) := fun x K Kp w => by kernel_rfl
theorem fits29 : FitsOne Tryz.prog 29 (ent (G29 (F.stack_row_pop env))) := fits_of fits_nil mixed Tryz.func29 Tryz.call29 (by kernel_rfl) (by kernel_rfl) (by kernel_rfl) (Z29)
def G19 (c : Y14) : Sem [.one (.ptr), .one (.int .i64), .one (.int .i64)] := fun x K Kp w => c x.1 x.2.1 x.2.2.1 (fun r1 r2 w' => K (.tuple ⟨[.int .u64 r1, .int .i64 r2]⟩) w') w
def ann19 : Ann := { loops := [(4, [(26, .one (.int .u64))])], joins := [(9, [])] }
theorem Z19 (c0 : Y6) (c1 : Y36) (c2 : Y29) : Tie Tryz.prog [(45, ent (G45 c0)), (46, ent (G46 c1)), (29, ent (G29 c2))] ann19 Tryz.f19 (G19 (T0.stack_Stacks_small env c0 c1 c2)) := fun x K Kp w => by kernel_rfl
theorem fits19 : FitsOne Tryz.prog 19 (ent (G19 (F.stack_Stacks_small env))) := fits_of (fits_cons fits45 (fits_cons fits46 (fits_cons fits29 fits_nil))) mixed Tryz.func19 Tryz.call19 (by kernel_rfl) (by kernel_rfl) (by kernel_rfl) (Z19 _ _ _)
def G20 (c : Y36) : Sem [.one (.ptr), .one (.int .u64)] := fun x K Kp w => c x.1 x.2.1 (fun r1 r2 w' => K (.tuple ⟨[.int .u64 r1, .int .i64 r2]⟩) w') w
theorem Z20 (c0 : Y14) (c1 : Y37) (c2 : Y34) (c3 : Y30) : Tie Tryz.prog [(47, ent (G47 c0)), (25, ent (G25 c1)), (48, ent (G48 c2)), (33, ent (G33 c3))] ann0 Tryz.f20 (G20 (T0.stack_Stacks_large env c0 c1 c2 c3)) := fun x K Kp w => by kernel_rfl
theorem fits20 : FitsOne Tryz.prog 20 (ent (G20 (F.stack_Stacks_large env))) := fits_of (fits_cons fits47 (fits_cons fits25 (fits_cons fits48 (fits_cons fits33 fits_nil)))) mixed Tryz.func20 Tryz.call20 (by kernel_rfl) (by kernel_rfl) (by kernel_rfl) (Z20 _ _ _ _)
def G6 (c : Y14) : Sem [.one (.ptr), .one (.int .i64), .one (.int .u64)] := fun x K Kp w => c x.1 x.2.1 x.2.2.1 (fun r1 r2 w' => K (.tuple ⟨[.int .u64 r1, .int .i64 r2]⟩) w') w
def ann6 : Ann := { loops := [], joins := [(2, [(28, .one (.bool))]), (9, [(8, .one (.int .u64)), (9, .one (.int .i64))])] }
theorem Z6 (c0 : Y19) (c1 : Y6) (c2 : Y14) (c3 : Y36) : Tie Tryz.prog [(17, ent (G17 c0)), (18, ent (G18 c1)), (19, ent (G19 c2)), (20, ent (G20 c3))] ann6 Tryz.f6 (G6 (T0.stack_Stacks_Alloc env c0 c1 c2 c3)) := fun x K Kp w => by kernel_rfl
theorem fits6 : FitsOne Tryz.prog 6 (ent (G6 (F.stack_Stacks_Alloc env))) := fits_of (fits_cons fits17 (fits_cons fits18 (fits_cons fits19 (fits_cons fits20 fits_nil)))) mixed Tryz.func6 Tryz.call6 (by kernel_rfl) (by kernel_rfl) (by kernel_rfl) (Z6 _ _ _ _)
def G7 (c : Y5) : Sem [.one (.ptr)] := fun x K Kp w => c x.1 (fun r1 w' => K (.pointer r1) w') w
theorem Z7 : Tie Tryz.prog [] ann0 Tryz.f7 (G7 (F.mheap_Heap_Mem env)) := fun x K Kp w => by kernel_rfl
theorem fits7 : FitsOne Tryz.prog 7 (ent (G7 (F.mheap_Heap_Mem env))) := fits_of fits_nil mixed Tryz.func7 Tryz.call7 (by kernel_rfl) (by kernel_rfl) (by kernel_rfl) (Z7)
end Go.Sh
