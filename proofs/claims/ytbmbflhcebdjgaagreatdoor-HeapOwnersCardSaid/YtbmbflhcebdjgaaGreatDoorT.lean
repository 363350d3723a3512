/- Each shallow form is what the code of its function comes to, piece 1. No further condition. -/
import Derived.Test.YtbmbflhcebdjgaaGreatDoorF
import Derived.Test.YtbmbflhcebdjgaaGreatDoorProg
import Derived.KernelRfl
set_option linter.all false
set_option maxRecDepth 100000
set_option maxHeartbeats 4000000
namespace Go.Sh
open Go.Proofs
theorem mixed : Tryz.prog.follows .mixedOrders = true := by kernel_rfl
noncomputable def env : Env := { call := ground Tryz.prog, t_api_Answers := 25, t_uint64 := 27, t_bool := 4, t_vmem_Mem := 96, t_map_uint64_api_Sum := 174, t_radix_Tree := 130, t_arena_Map := 120, t_fix_Fix := 134, t_pcache_Cache := 138, t_mheap_Heap := 75, t_api_Class := 109, t_span_Span := 89, t_stretch_One := 141, t__stretch_Set := 127, t__mheap_Heap := 29, t_api_Errno := 33, t_fix_record := 136, t__fix_record := 131, t_api_Info := 47, t_arena_wide := 123, t__arena_Map := 69, t_int := 3, t_slices_xorshift := 179, t__512_int := 162, f_stretch_Set_at_1 := 104, f_arena_Map_Set_1 := 62, f_mheap_Heap_Spans_1 := 37, g_math_bits_deBruijn64tab := 0, t_special_record := 0 }
def ann0 : Ann := { loops := [], joins := [] }
abbrev Sem (l : List VT) := ArgsV l -> (Value -> World -> Prop) -> (Value -> World -> Prop) -> World -> Prop
def ent {l : List VT} (F : Sem l) : Entry := fun args w K Kp => unArgs l args.toList fun x => F x K Kp w
def Tie (P : Program) (T : List (Nat × Entry)) (A : Ann) (fn : Func) {l : List VT} (F : Sem l) : Prop :=
 ∀ x K Kp w, F x K Kp w = ev P (tabC T) (ground P) A (fn.body.getD .skip) (finQ P fn K Kp) (initF (mkArgs l x)) w
theorem fits_of {P : Program} {T : List (Nat × Entry)} {A : Ann} {f : FuncId} {fn : Func} {l : List VT} {F : Sem l}
 (hT : ∀ p ∈ T, FitsAny P p.1 p.2) (hm : P.follows .mixedOrders = true) (hf : P.funcs[f]? = some fn) (hcall : ∀ args w, (callFunc f args).run P w = .ok (.enter f args) w)
 (hb : fn.body = some (fn.body.getD .skip)) (hsz : Nat.ble l.length fn.ntmps = true) (hW : withinB fn.ntmps (written (fn.body.getD .skip)) = true) (htie : Tie P T A fn F) : FitsOne P f (ent F) :=
 fits_of_tie hT hm hf hcall hb hsz hW htie
def G4 (c : Y52) : Sem [.agg [.sl, .sl, .sl], .one (.sl)] := fun x K Kp w => c x.1.1 x.1.2.1 x.1.2.2.1 x.2.1 (fun r1 w' => K (.bool r1) w') w
def ann4 : Ann := { loops := [(3, [(5, .one (.int .u64)), (6, .one (.int .i64))])], joins := [(6, [(26, .one (.bool))])] }
theorem Z4 : Tie Tryz.prog [] ann4 Tryz.f4 (G4 (F.mallowlaw16_heavy env)) := fun x K Kp w => by kernel_rfl
theorem fits4 : FitsOne Tryz.prog 4 (ent (G4 (F.mallowlaw16_heavy env))) := fits_of fits_nil mixed Tryz.func4 Tryz.call4 (by kernel_rfl) (by kernel_rfl) (by kernel_rfl) (Z4)
def G22 (c : Y6) : Sem [.agg [.sl, .sl, .sl]] := fun x K Kp w => c x.1.1 x.1.2.1 x.1.2.2.1 (fun r1 r2 r3 w' => K (.agg ⟨[.slice r1.base r1.len r1.cap, .slice r2.base r2.len r2.cap, .slice r3.base r3.len r3.cap]⟩) w') w
theorem Z22 : Tie Tryz.prog [] ann0 Tryz.f22 (G22 (F.mallowlaw16_given env)) := fun x K Kp w => by kernel_rfl
theorem fits22 : FitsOne Tryz.prog 22 (ent (G22 (F.mallowlaw16_given env))) := fits_of fits_nil mixed Tryz.func22 Tryz.call22 (by kernel_rfl) (by kernel_rfl) (by kernel_rfl) (Z22)
def G46 (c : Y0) : Sem [.one (.sl)] := fun x K Kp w => c x.1 (fun r1 w' => K (.slice r1.base r1.len r1.cap) w') w
theorem Z46 : Tie Tryz.prog [] ann0 Tryz.f46 (G46 (F.slices_Clone___uint64_uint64_ env)) := fun x K Kp w => by kernel_rfl
theorem fits46 : FitsOne Tryz.prog 46 (ent (G46 (F.slices_Clone___uint64_uint64_ env))) := fits_of fits_nil mixed Tryz.func46 Tryz.call46 (by kernel_rfl) (by kernel_rfl) (by kernel_rfl) (Z46)
def G47 (c : Y0) : Sem [.one (.sl)] := fun x K Kp w => c x.1 (fun r1 w' => K (.slice r1.base r1.len r1.cap) w') w
theorem Z47 : Tie Tryz.prog [] ann0 Tryz.f47 (G47 (F.slices_Clone___bool_bool_ env)) := fun x K Kp w => by kernel_rfl
theorem fits47 : FitsOne Tryz.prog 47 (ent (G47 (F.slices_Clone___bool_bool_ env))) := fits_of fits_nil mixed Tryz.func47 Tryz.call47 (by kernel_rfl) (by kernel_rfl) (by kernel_rfl) (Z47)
def G21 (c : Y1) : Sem [.agg [.sl, .sl, .sl]] := fun x K Kp w => c x.1.1 x.1.2.1 x.1.2.2.1 (fun r1 w' => K (.pointer r1) w') w
theorem Z21 (c0 : Y0) (c1 : Y0) : Tie Tryz.prog [(46, ent (G46 c0)), (47, ent (G47 c1))] ann0 Tryz.f21 (G21 (T0.vmem_New env c0 c1)) := fun x K Kp w => by kernel_rfl
theorem fits21 : FitsOne Tryz.prog 21 (ent (G21 (F.vmem_New env))) := fits_of (fits_cons fits46 (fits_cons fits47 fits_nil)) mixed Tryz.func21 Tryz.call21 (by kernel_rfl) (by kernel_rfl) (by kernel_rfl) (Z21 _ _)
def G79 (c : Y2) : Sem [.one (.ptr)] := fun x K Kp w => c x.1 (fun  w' => K (.tuple ⟨[]⟩) w') w
def ann79 : Ann := { loops := [(2, [(5, .one (.int .i64))])], joins := [] }
theorem Z79 : Tie Tryz.prog [] ann79 Tryz.f79 (G79 (F.radix_Tree_changed env)) := fun x K Kp w => by kernel_rfl
theorem fits79 : FitsOne Tryz.prog 79 (ent (G79 (F.radix_Tree_changed env))) := fits_of fits_nil mixed Tryz.func79 Tryz.call79 (by kernel_rfl) (by kernel_rfl) (by kernel_rfl) (Z79)
def G48 (c : Y3) : Sem [] := fun x K Kp w => c  (fun r1 w' => K (.pointer r1) w') w
theorem Z48 (c0 : Y2) : Tie Tryz.prog [(79, ent (G79 c0))] ann0 Tryz.f48 (G48 (T0.radix_New env c0)) := fun x K Kp w => by kernel_rfl
theorem fits48 : FitsOne Tryz.prog 48 (ent (G48 (F.radix_New env))) := fits_of (fits_cons fits79 fits_nil) mixed Tryz.func48 Tryz.call48 (by kernel_rfl) (by kernel_rfl) (by kernel_rfl) (Z48 _)
def G49 (c : Y3) : Sem [] := fun x K Kp w => c  (fun r1 w' => K (.pointer r1) w') w
theorem Z49 : Tie Tryz.prog [] ann0 Tryz.f49 (G49 (F.arena_New env)) := fun x K Kp w => by kernel_rfl
theorem fits49 : FitsOne Tryz.prog 49 (ent (G49 (F.arena_New env))) := fits_of fits_nil mixed Tryz.func49 Tryz.call49 (by kernel_rfl) (by kernel_rfl) (by kernel_rfl) (Z49)
def G50 (c : Y4) : Sem [.one (.int .i64)] := fun x K Kp w => c x.1 (fun r1 r2 w' => K (.tuple ⟨[.pointer r1, .int .i64 r2]⟩) w') w
def ann50 : Ann := { loops := [], joins := [(2, [(9, .one (.bool))])] }
theorem Z50 : Tie Tryz.prog [] ann50 Tryz.f50 (G50 (F.fix_New env)) := fun x K Kp w => by kernel_rfl
theorem fits50 : FitsOne Tryz.prog 50 (ent (G50 (F.fix_New env))) := fits_of fits_nil mixed Tryz.func50 Tryz.call50 (by kernel_rfl) (by kernel_rfl) (by kernel_rfl) (Z50)
def G51 (c : Y3) : Sem [] := fun x K Kp w => c  (fun r1 w' => K (.pointer r1) w') w
theorem Z51 : Tie Tryz.prog [] ann0 Tryz.f51 (G51 (F.pcache_New env)) := fun x K Kp w => by kernel_rfl
theorem fits51 : FitsOne Tryz.prog 51 (ent (G51 (F.pcache_New env))) := fits_of fits_nil mixed Tryz.func51 Tryz.call51 (by kernel_rfl) (by kernel_rfl) (by kernel_rfl) (Z51)
def G23 (c : Y5) : Sem [.one (.ptr)] := fun x K Kp w => c x.1 (fun r1 w' => K (.pointer r1) w') w
def ann23 : Ann := { loops := [(4, [(18, .one (.int .i64))])], joins := [] }
theorem Z23 (c0 : Y3) (c1 : Y3) (c2 : Y4) (c3 : Y3) : Tie Tryz.prog [(48, ent (G48 c0)), (49, ent (G49 c1)), (50, ent (G50 c2)), (51, ent (G51 c3))] ann23 Tryz.f23 (G23 (T0.mheap_New env c0 c1 c2 c3)) := fun x K Kp w => by kernel_rfl
theorem fits23 : FitsOne Tryz.prog 23 (ent (G23 (F.mheap_New env))) := fits_of (fits_cons fits48 (fits_cons fits49 (fits_cons fits50 (fits_cons fits51 fits_nil)))) mixed Tryz.func23 Tryz.call23 (by kernel_rfl) (by kernel_rfl) (by kernel_rfl) (Z23 _ _ _ _)
def G5 (c : Y1) : Sem [.agg [.sl, .sl, .sl]] := fun x K Kp w => c x.1.1 x.1.2.1 x.1.2.2.1 (fun r1 w' => K (.pointer r1) w') w
theorem Z5 (c0 : Y6) (c1 : Y1) (c2 : Y5) : Tie Tryz.prog [(22, ent (G22 c0)), (21, ent (G21 c1)), (23, ent (G23 c2))] ann0 Tryz.f5 (G5 (T0.mallowlaw16_fresh env c0 c1 c2)) := fun x K Kp w => by kernel_rfl
theorem fits5 : FitsOne Tryz.prog 5 (ent (G5 (F.mallowlaw16_fresh env))) := fits_of (fits_cons fits22 (fits_cons fits21 (fits_cons fits23 fits_nil))) mixed Tryz.func5 Tryz.call5 (by kernel_rfl) (by kernel_rfl) (by kernel_rfl) (Z5 _ _ _)
def G105 (c : Y7) : Sem [.one (.int .u64)] := fun x K Kp w => c x.1 (fun r1 w' => K (.bool r1) w') w
theorem Z105 : Tie Tryz.prog [] ann0 Tryz.f105 (G105 (F.num_Pow env)) := fun x K Kp w => by kernel_rfl
theorem fits105 : FitsOne Tryz.prog 105 (ent (G105 (F.num_Pow env))) := fits_of fits_nil mixed Tryz.func105 Tryz.call105 (by kernel_rfl) (by kernel_rfl) (by kernel_rfl) (Z105)
def G106 (c : Y8) : Sem [.one (.int .i64), .one (.int .i64)] := fun x K Kp w => c x.1 x.2.1 (fun r1 w' => K (.int .i64 r1) w') w
theorem Z106 (c0 : Y7) : Tie Tryz.prog [(105, ent (G105 c0))] ann0 Tryz.f106 (G106 (T0.class_step env c0)) := fun x K Kp w => by kernel_rfl
theorem fits106 : FitsOne Tryz.prog 106 (ent (G106 (F.class_step env))) := fits_of (fits_cons fits105 fits_nil) mixed Tryz.func106 Tryz.call106 (by kernel_rfl) (by kernel_rfl) (by kernel_rfl) (Z106 _)
def G107 (c : Y8) : Sem [.one (.int .i64), .one (.int .i64)] := fun x K Kp w => c x.1 x.2.1 (fun r1 w' => K (.int .i64 r1) w') w
def ann107 : Ann := { loops := [(2, [(5, .one (.int .i64))])], joins := [] }
theorem Z107 : Tie Tryz.prog [] ann107 Tryz.f107 (G107 (F.class_bytes env)) := fun x K Kp w => by kernel_rfl
theorem fits107 : FitsOne Tryz.prog 107 (ent (G107 (F.class_bytes env))) := fits_of fits_nil mixed Tryz.func107 Tryz.call107 (by kernel_rfl) (by kernel_rfl) (by kernel_rfl) (Z107)
def G108 (c : Y9) : Sem [.one (.int .u32)] := fun x K Kp w => c x.1 (fun r1 w' => K (.int .u32 r1) w') w
theorem Z108 : Tie Tryz.prog [] ann0 Tryz.f108 (G108 (F.num_Magic env)) := fun x K Kp w => by kernel_rfl
theorem fits108 : FitsOne Tryz.prog 108 (ent (G108 (F.num_Magic env))) := fits_of fits_nil mixed Tryz.func108 Tryz.call108 (by kernel_rfl) (by kernel_rfl) (by kernel_rfl) (Z108)
def G80 (c : Y10) : Sem [.one (.int .i64), .one (.int .i64)] := fun x K Kp w => c x.1 x.2.1 (fun r1 r2 w' => K (.tuple ⟨[.slice r1.base r1.len r1.cap, .int .i64 r2]⟩) w') w
def ann80 : Ann := { loops := [(6, [(6, .one (.sl)), (7, .one (.int .i64)), (8, .one (.int .i64))]), (15, [(107, .one (.int .i64))])], joins := [(2, [(42, .one (.bool))]), (12, [(91, .one (.bool))]), (22, [])] }
theorem Z80 (c0 : Y7) (c1 : Y8) (c2 : Y8) (c3 : Y9) : Tie Tryz.prog [(105, ent (G105 c0)), (106, ent (G106 c1)), (107, ent (G107 c2)), (108, ent (G108 c3))] ann80 Tryz.f80 (G80 (T0.class_Make env c0 c1 c2 c3)) := fun x K Kp w => by kernel_rfl
theorem fits80 : FitsOne Tryz.prog 80 (ent (G80 (F.class_Make env))) := fits_of (fits_cons fits105 (fits_cons fits106 (fits_cons fits107 (fits_cons fits108 fits_nil)))) mixed Tryz.func80 Tryz.call80 (by kernel_rfl) (by kernel_rfl) (by kernel_rfl) (Z80 _ _ _ _)
def G52 (c : Y11) : Sem [] := fun x K Kp w => c  (fun r1 w' => K (.slice r1.base r1.len r1.cap) w') w
theorem Z52 (c0 : Y10) : Tie Tryz.prog [(80, ent (G80 c0))] ann0 Tryz.f52 (G52 (T0.class_Table env c0)) := fun x K Kp w => by kernel_rfl
theorem fits52 : FitsOne Tryz.prog 52 (ent (G52 (F.class_Table env))) := fits_of (fits_cons fits80 fits_nil) mixed Tryz.func52 Tryz.call52 (by kernel_rfl) (by kernel_rfl) (by kernel_rfl) (Z52 _)
def G24 (c : Y12) : Sem [.one (.int .u64), .one (.int .u64), .one (.int .i64), .one (.bool)] := fun x K Kp w => c x.1 x.2.1 x.2.2.1 x.2.2.2.1 (fun r1 r2 w' => K (.tuple ⟨[.pointer r1, .int .i64 r2]⟩) w') w
def ann24 : Ann := { loops := [], joins := [(3, [(56, .one (.bool))])] }
theorem Z24 (c0 : Y11) : Tie Tryz.prog [(52, ent (G52 c0))] ann24 Tryz.f24 (G24 (T0.span_New env c0)) := fun x K Kp w => by kernel_rfl
theorem fits24 : FitsOne Tryz.prog 24 (ent (G24 (F.span_New env))) := fits_of (fits_cons fits52 fits_nil) mixed Tryz.func24 Tryz.call24 (by kernel_rfl) (by kernel_rfl) (by kernel_rfl) (Z24 _)
def G32 (c : Y7) : Sem [.one (.int .i64)] := fun x K Kp w => c x.1 (fun r1 w' => K (.bool r1) w') w
theorem Z32 : Tie Tryz.prog [] ann0 Tryz.f32 (G32 (F.mheap_is env)) := fun x K Kp w => by kernel_rfl
theorem fits32 : FitsOne Tryz.prog 32 (ent (G32 (F.mheap_is env))) := fits_of fits_nil mixed Tryz.func32 Tryz.call32 (by kernel_rfl) (by kernel_rfl) (by kernel_rfl) (Z32)
def G77 (c : Y21) : Sem [.one (.ptr)] := fun x K Kp w => c x.1 (fun r1 w' => K (.bool r1) w') w
theorem Z77 : Tie Tryz.prog [] ann0 Tryz.f77 (G77 (F.pcache_Cache_Empty env)) := fun x K Kp w => by kernel_rfl
theorem fits77 : FitsOne Tryz.prog 77 (ent (G77 (F.pcache_Cache_Empty env))) := fits_of fits_nil mixed Tryz.func77 Tryz.call77 (by kernel_rfl) (by kernel_rfl) (by kernel_rfl) (Z77)
def G67 (c : Y13) : Sem [.one (.ptr)] := fun x K Kp w => c x.1 (fun r1 w' => K (.slice r1.base r1.len r1.cap) w') w
theorem Z67 : Tie Tryz.prog [] ann0 Tryz.f67 (G67 (F.stretch_Set_All env)) := fun x K Kp w => by kernel_rfl
theorem fits67 : FitsOne Tryz.prog 67 (ent (G67 (F.stretch_Set_All env))) := fits_of fits_nil mixed Tryz.func67 Tryz.call67 (by kernel_rfl) (by kernel_rfl) (by kernel_rfl) (Z67)
def G86 (c : Y14) : Sem [.one (.ptr), .one (.int .u64)] := fun x K Kp w => c x.1 x.2.1 (fun r1 r2 w' => K (.tuple ⟨[.int .u64 r1, .bool r2]⟩) w') w
def ann86 : Ann := { loops := [(4, [(15, .one (.int .i64))])], joins := [] }
theorem Z86 (c0 : Y13) : Tie Tryz.prog [(67, ent (G67 c0))] ann86 Tryz.f86 (G86 (T0.radix_Tree_Find env c0)) := fun x K Kp w => by kernel_rfl
theorem fits86 : FitsOne Tryz.prog 86 (ent (G86 (F.radix_Tree_Find env))) := fits_of (fits_cons fits67 fits_nil) mixed Tryz.func86 Tryz.call86 (by kernel_rfl) (by kernel_rfl) (by kernel_rfl) (Z86 _)
def G103 (c : Y15) : Sem [.one (.int .i64), .one (.any)] := fun x K Kp w => c x.1 x.2.1 (fun r1 w' => K (.int .i64 r1) w') w
def ann103 : Ann := { loops := [(2, [(5, .one (.int .i64)), (6, .one (.int .i64))])], joins := [] }
theorem Z103 : Tie Tryz.prog [] ann103 Tryz.f103 (G103 (F.sort_Search env)) := fun x K Kp w => by kernel_rfl
theorem fits103 : FitsOne Tryz.prog 103 (ent (G103 (F.sort_Search env))) := fits_of fits_nil mixed Tryz.func103 Tryz.call103 (by kernel_rfl) (by kernel_rfl) (by kernel_rfl) (Z103)
def G76 (c : Y16) : Sem [.one (.ptr), .one (.int .u64)] := fun x K Kp w => c x.1 x.2.1 (fun r1 w' => K (.int .i64 r1) w') w
theorem Z76 (c0 : Y15) : Tie Tryz.prog [(103, ent (G103 c0))] ann0 Tryz.f76 (G76 (T0.stretch_Set_at env c0)) := fun x K Kp w => by kernel_rfl
theorem fits76 : FitsOne Tryz.prog 76 (ent (G76 (F.stretch_Set_at env))) := fits_of (fits_cons fits103 fits_nil) mixed Tryz.func76 Tryz.call76 (by kernel_rfl) (by kernel_rfl) (by kernel_rfl) (Z76 _)
def G60 (c : Y17) : Sem [.one (.ptr), .one (.int .u64), .one (.int .u64)] := fun x K Kp w => c x.1 x.2.1 x.2.2.1 (fun r1 w' => K (.int .u64 r1) w') w
def ann60 : Ann := { loops := [(3, [(7, .one (.int .u64)), (8, .one (.int .i64))])], joins := [] }
theorem Z60 (c0 : Y16) : Tie Tryz.prog [(76, ent (G76 c0))] ann60 Tryz.f60 (G60 (T0.stretch_Set_Count env c0)) := fun x K Kp w => by kernel_rfl
theorem fits60 : FitsOne Tryz.prog 60 (ent (G60 (F.stretch_Set_Count env))) := fits_of (fits_cons fits76 fits_nil) mixed Tryz.func60 Tryz.call60 (by kernel_rfl) (by kernel_rfl) (by kernel_rfl) (Z60 _)
def G92 (c : Y18) : Sem [.one (.ptr), .one (.int .u64), .one (.int .u64), .one (.bool), .one (.int .i64)] := fun x K Kp w => c x.1 x.2.1 x.2.2.1 x.2.2.2.1 x.2.2.2.2.1 (fun r1 w' => K (.int .i64 r1) w') w
def ann92 : Ann := { loops := [], joins := [(4, [(11, .one (.int .u64))]), (5, [(14, .one (.bool))])] }
theorem Z92 (c0 : Y17) : Tie Tryz.prog [(60, ent (G60 c0))] ann92 Tryz.f92 (G92 (T0.radix_Tree_looked env c0)) := fun x K Kp w => by kernel_rfl
theorem fits92 : FitsOne Tryz.prog 92 (ent (G92 (F.radix_Tree_looked env))) := fits_of (fits_cons fits60 fits_nil) mixed Tryz.func92 Tryz.call92 (by kernel_rfl) (by kernel_rfl) (by kernel_rfl) (Z92 _)
def G68 (c : Y19) : Sem [.one (.ptr), .one (.int .u64), .one (.int .u64)] := fun x K Kp w => c x.1 x.2.1 x.2.2.1 (fun  w' => K (.tuple ⟨[]⟩) w') w
def ann68 : Ann := { loops := [(5, [(7, .one (.int .i64)), (8, .one (.sl))])], joins := [(10, [(8, .one (.sl))]), (12, [(7, .one (.int .i64)), (8, .one (.sl))])] }
theorem Z68 (c0 : Y17) (c1 : Y16) : Tie Tryz.prog [(60, ent (G60 c0)), (76, ent (G76 c1))] ann68 Tryz.f68 (G68 (T0.stretch_Set_Cut env c0 c1)) := fun x K Kp w => by kernel_rfl
theorem fits68 : FitsOne Tryz.prog 68 (ent (G68 (F.stretch_Set_Cut env))) := fits_of (fits_cons fits60 (fits_cons fits76 fits_nil)) mixed Tryz.func68 Tryz.call68 (by kernel_rfl) (by kernel_rfl) (by kernel_rfl) (Z68 _ _)
def G87 (c : Y20) : Sem [.one (.ptr), .one (.int .u64), .one (.int .u64)] := fun x K Kp w => c x.1 x.2.1 x.2.2.1 (fun r1 r2 w' => K (.tuple ⟨[.int .u64 r1, .int .i64 r2]⟩) w') w
theorem Z87 (c0 : Y18) (c1 : Y17) (c2 : Y19) (c3 : Y2) : Tie Tryz.prog [(92, ent (G92 c0)), (60, ent (G60 c1)), (68, ent (G68 c2)), (79, ent (G79 c3))] ann0 Tryz.f87 (G87 (T0.radix_Tree_Take env c0 c1 c2 c3)) := fun x K Kp w => by kernel_rfl
theorem fits87 : FitsOne Tryz.prog 87 (ent (G87 (F.radix_Tree_Take env))) := fits_of (fits_cons fits92 (fits_cons fits60 (fits_cons fits68 (fits_cons fits79 fits_nil)))) mixed Tryz.func87 Tryz.call87 (by kernel_rfl) (by kernel_rfl) (by kernel_rfl) (Z87 _ _ _ _)
def G81 (c : Y22) : Sem [.one (.ptr), .one (.ptr)] := fun x K Kp w => c x.1 x.2.1 (fun r1 w' => K (.int .i64 r1) w') w
def ann81 : Ann := { loops := [(8, [(28, .one (.int .u64))])], joins := [] }
theorem Z81 (c0 : Y14) (c1 : Y21) (c2 : Y20) : Tie Tryz.prog [(86, ent (G86 c0)), (77, ent (G77 c1)), (87, ent (G87 c2))] ann81 Tryz.f81 (G81 (T0.pcache_Cache_Fill env c0 c1 c2)) := fun x K Kp w => by kernel_rfl
theorem fits81 : FitsOne Tryz.prog 81 (ent (G81 (F.pcache_Cache_Fill env))) := fits_of (fits_cons fits86 (fits_cons fits77 (fits_cons fits87 fits_nil))) mixed Tryz.func81 Tryz.call81 (by kernel_rfl) (by kernel_rfl) (by kernel_rfl) (Z81 _ _ _)
def G118 (c : Y9) : Sem [.one (.int .u64)] := fun x K Kp w => c x.1 (fun r1 w' => K (.int .i64 r1) w') w
theorem Z118 : Tie Tryz.prog [] ann0 Tryz.f118 (G118 (F.math_bits_TrailingZeros64 env)) := fun x K Kp w => by kernel_rfl
theorem fits118 : FitsOne Tryz.prog 118 (ent (G118 (F.math_bits_TrailingZeros64 env))) := fits_of fits_nil mixed Tryz.func118 Tryz.call118 (by kernel_rfl) (by kernel_rfl) (by kernel_rfl) (Z118)
def G109 (c : Y23) : Sem [.one (.int .u64), .one (.int .i64)] := fun x K Kp w => c x.1 x.2.1 (fun r1 r2 w' => K (.tuple ⟨[.int .i64 r1, .bool r2]⟩) w') w
def ann109 : Ann := { loops := [(2, [(0, .one (.int .u64)), (1, .one (.int .i64)), (6, .one (.int .i64))])], joins := [] }
theorem Z109 (c0 : Y9) : Tie Tryz.prog [(118, ent (G118 c0))] ann109 Tryz.f109 (G109 (T0.pcache_find env c0)) := fun x K Kp w => by kernel_rfl
theorem fits109 : FitsOne Tryz.prog 109 (ent (G109 (F.pcache_find env))) := fits_of (fits_cons fits118 fits_nil) mixed Tryz.func109 Tryz.call109 (by kernel_rfl) (by kernel_rfl) (by kernel_rfl) (Z109 _)
def G110 (c : Y9) : Sem [.one (.int .u64)] := fun x K Kp w => c x.1 (fun r1 w' => K (.int .i64 r1) w') w
theorem Z110 : Tie Tryz.prog [] ann0 Tryz.f110 (G110 (F.math_bits_OnesCount64 env)) := fun x K Kp w => by kernel_rfl
theorem fits110 : FitsOne Tryz.prog 110 (ent (G110 (F.math_bits_OnesCount64 env))) := fits_of fits_nil mixed Tryz.func110 Tryz.call110 (by kernel_rfl) (by kernel_rfl) (by kernel_rfl) (Z110)
def G82 (c : Y24) : Sem [.one (.ptr), .one (.int .i64)] := fun x K Kp w => c x.1 x.2.1 (fun r1 r2 r3 w' => K (.tuple ⟨[.int .u64 r1, .int .i64 r2, .int .i64 r3]⟩) w') w
def ann82 : Ann := { loops := [], joins := [(2, [(16, .one (.bool))])] }
theorem Z82 (c0 : Y23) (c1 : Y9) : Tie Tryz.prog [(109, ent (G109 c0)), (110, ent (G110 c1))] ann82 Tryz.f82 (G82 (T0.pcache_Cache_Alloc env c0 c1)) := fun x K Kp w => by kernel_rfl
theorem fits82 : FitsOne Tryz.prog 82 (ent (G82 (F.pcache_Cache_Alloc env))) := fits_of (fits_cons fits109 (fits_cons fits110 fits_nil)) mixed Tryz.func82 Tryz.call82 (by kernel_rfl) (by kernel_rfl) (by kernel_rfl) (Z82 _ _)
def G55 (c : Y24) : Sem [.one (.ptr), .one (.int .u64)] := fun x K Kp w => c x.1 x.2.1 (fun r1 r2 r3 w' => K (.tuple ⟨[.int .u64 r1, .int .u64 r2, .int .i64 r3]⟩) w') w
noncomputable def C55 : Entry := ent (G55 (F.radix_Tree_Alloc env))
theorem Z55 (c0 : Y14) (c1 : Y20) : Tie Tryz.prog [(86, ent (G86 c0)), (87, ent (G87 c1))] ann0 Tryz.f55 (G55 (T0.radix_Tree_Alloc env c0 c1)) := fun x K Kp w => by kernel_rfl
theorem fits55 : FitsOne Tryz.prog 55 (ent (G55 (F.radix_Tree_Alloc env))) := fits_of (fits_cons fits86 (fits_cons fits87 fits_nil)) mixed Tryz.func55 Tryz.call55 (by kernel_rfl) (by kernel_rfl) (by kernel_rfl) (Z55 _ _)
def G53 (c : Y25) : Sem [.one (.ptr), .one (.int .i64), .one (.int .u64)] := fun x K Kp w => c x.1 x.2.1 x.2.2.1 (fun r1 r2 w' => K (.tuple ⟨[.int .u64 r1, .bool r2]⟩) w') w
noncomputable def C53 : Entry := ent (G53 (F.mheap_Heap_got env))
def ann53 : Ann := { loops := [], joins := [(2, [(20, .one (.bool))]), (5, []), (8, [])] }
theorem Z53 (c0 : Y7) (c1 : Y21) (c2 : Y22) (c3 : Y24) (c4 : Y24) : Tie Tryz.prog [(32, ent (G32 c0)), (77, ent (G77 c1)), (81, ent (G81 c2)), (82, ent (G82 c3)), (55, ent (G55 c4))] ann53 Tryz.f53 (G53 (T0.mheap_Heap_got env c0 c1 c2 c3 c4)) := fun x K Kp w => by kernel_rfl
theorem fits53 : FitsOne Tryz.prog 53 (ent (G53 (F.mheap_Heap_got env))) := fits_of (fits_cons fits32 (fits_cons fits77 (fits_cons fits81 (fits_cons fits82 (fits_cons fits55 fits_nil))))) mixed Tryz.func53 Tryz.call53 (by kernel_rfl) (by kernel_rfl) (by kernel_rfl) (Z53 _ _ _ _ _)
def G89 (c : Y27) : Sem [.one (.ptr)] := fun x K Kp w => c x.1 (fun r1 r2 w' => K (.tuple ⟨[.bool r1, .bool r2]⟩) w') w
theorem Z89 : Tie Tryz.prog [] ann0 Tryz.f89 (G89 (F.vmem_used_bool_ env)) := fun x K Kp w => by kernel_rfl
theorem fits89 : FitsOne Tryz.prog 89 (ent (G89 (F.vmem_used_bool_ env))) := fits_of fits_nil mixed Tryz.func89 Tryz.call89 (by kernel_rfl) (by kernel_rfl) (by kernel_rfl) (Z89)
def G91 (c : Y28) : Sem [.one (.ptr)] := fun x K Kp w => c x.1 (fun r1 r2 w' => K (.tuple ⟨[.int .u64 r1, .bool r2]⟩) w') w
theorem Z91 : Tie Tryz.prog [] ann0 Tryz.f91 (G91 (F.vmem_used_uint64_ env)) := fun x K Kp w => by kernel_rfl
theorem fits91 : FitsOne Tryz.prog 91 (ent (G91 (F.vmem_used_uint64_ env))) := fits_of fits_nil mixed Tryz.func91 Tryz.call91 (by kernel_rfl) (by kernel_rfl) (by kernel_rfl) (Z91)
def G111 (c : Y26) : Sem [.one (.ptr), .one (.int .u64), .one (.int .u64)] := fun x K Kp w => c x.1 x.2.1 x.2.2.1 (fun r1 w' => K (.bool r1) w') w
theorem Z111 (c0 : Y17) : Tie Tryz.prog [(60, ent (G60 c0))] ann0 Tryz.f111 (G111 (T0.vmem_Mem_fits env c0)) := fun x K Kp w => by kernel_rfl
theorem fits111 : FitsOne Tryz.prog 111 (ent (G111 (F.vmem_Mem_fits env))) := fits_of (fits_cons fits60 fits_nil) mixed Tryz.func111 Tryz.call111 (by kernel_rfl) (by kernel_rfl) (by kernel_rfl) (Z111 _)
def G112 (c : Y25) : Sem [.one (.ptr), .one (.int .u64), .one (.int .u64)] := fun x K Kp w => c x.1 x.2.1 x.2.2.1 (fun r1 r2 w' => K (.tuple ⟨[.int .u64 r1, .bool r2]⟩) w') w
def ann112 : Ann := { loops := [(5, [(8, .one (.int .u64)), (24, .one (.int .i64))])], joins := [(9, []), (11, [(8, .one (.int .u64))])] }
theorem Z112 (c0 : Y13) (c1 : Y26) : Tie Tryz.prog [(67, ent (G67 c0)), (111, ent (G111 c1))] ann112 Tryz.f112 (G112 (T0.vmem_Mem_place env c0 c1)) := fun x K Kp w => by kernel_rfl
theorem fits112 : FitsOne Tryz.prog 112 (ent (G112 (F.vmem_Mem_place env))) := fits_of (fits_cons fits67 (fits_cons fits111 fits_nil)) mixed Tryz.func112 Tryz.call112 (by kernel_rfl) (by kernel_rfl) (by kernel_rfl) (Z112 _ _)
def G69 (c : Y19) : Sem [.one (.ptr), .one (.int .u64), .one (.int .u64)] := fun x K Kp w => c x.1 x.2.1 x.2.2.1 (fun  w' => K (.tuple ⟨[]⟩) w') w
def ann69 : Ann := { loops := [], joins := [(7, [(51, .one (.bool))]), (9, [(8, .one (.int .i64))]), (10, [(77, .one (.bool))]), (12, [(6, .one (.int .i64))])] }
theorem Z69 (c0 : Y19) (c1 : Y16) : Tie Tryz.prog [(68, ent (G68 c0)), (76, ent (G76 c1))] ann69 Tryz.f69 (G69 (T0.stretch_Set_Add env c0 c1)) := fun x K Kp w => by kernel_rfl
theorem fits69 : FitsOne Tryz.prog 69 (ent (G69 (F.stretch_Set_Add env))) := fits_of (fits_cons fits68 (fits_cons fits76 fits_nil)) mixed Tryz.func69 Tryz.call69 (by kernel_rfl) (by kernel_rfl) (by kernel_rfl) (Z69 _ _)
def G83 (c : Y20) : Sem [.one (.ptr), .one (.int .u64), .one (.int .u64)] := fun x K Kp w => c x.1 x.2.1 x.2.2.1 (fun r1 r2 w' => K (.tuple ⟨[.int .u64 r1, .int .i64 r2]⟩) w') w
def ann83 : Ann := { loops := [(9, [(10, .one (.int .u64)), (11, .one (.bool)), (52, .one (.int .i64))])], joins := [(2, [(24, .one (.bool))]), (8, [(11, .one (.bool))])] }
theorem Z83 (c0 : Y27) (c1 : Y28) (c2 : Y26) (c3 : Y25) (c4 : Y19) : Tie Tryz.prog [(89, ent (G89 c0)), (91, ent (G91 c1)), (111, ent (G111 c2)), (112, ent (G112 c3)), (69, ent (G69 c4))] ann83 Tryz.f83 (G83 (T0.vmem_Mem_Reserve env c0 c1 c2 c3 c4)) := fun x K Kp w => by kernel_rfl
theorem fits83 : FitsOne Tryz.prog 83 (ent (G83 (F.vmem_Mem_Reserve env))) := fits_of (fits_cons fits89 (fits_cons fits91 (fits_cons fits111 (fits_cons fits112 (fits_cons fits69 fits_nil))))) mixed Tryz.func83 Tryz.call83 (by kernel_rfl) (by kernel_rfl) (by kernel_rfl) (Z83 _ _ _ _ _)
def G84 (c : Y17) : Sem [.one (.ptr), .one (.int .u64), .one (.int .u64)] := fun x K Kp w => c x.1 x.2.1 x.2.2.1 (fun r1 w' => K (.int .i64 r1) w') w
def ann84 : Ann := { loops := [], joins := [(2, [(24, .one (.bool))])] }
theorem Z84 (c0 : Y17) (c1 : Y19) (c2 : Y2) : Tie Tryz.prog [(60, ent (G60 c0)), (69, ent (G69 c1)), (79, ent (G79 c2))] ann84 Tryz.f84 (G84 (T0.radix_Tree_Grow env c0 c1 c2)) := fun x K Kp w => by kernel_rfl
theorem fits84 : FitsOne Tryz.prog 84 (ent (G84 (F.radix_Tree_Grow env))) := fits_of (fits_cons fits60 (fits_cons fits69 (fits_cons fits79 fits_nil))) mixed Tryz.func84 Tryz.call84 (by kernel_rfl) (by kernel_rfl) (by kernel_rfl) (Z84 _ _ _)
def G85 (c : Y19) : Sem [.one (.ptr), .one (.int .u64), .one (.int .u64)] := fun x K Kp w => c x.1 x.2.1 x.2.2.1 (fun  w' => K (.tuple ⟨[]⟩) w') w
theorem Z85 (c0 : Y19) : Tie Tryz.prog [(69, ent (G69 c0))] ann0 Tryz.f85 (G85 (T0.arena_Map_Many env c0)) := fun x K Kp w => by kernel_rfl
theorem fits85 : FitsOne Tryz.prog 85 (ent (G85 (F.arena_Map_Many env))) := fits_of (fits_cons fits69 fits_nil) mixed Tryz.func85 Tryz.call85 (by kernel_rfl) (by kernel_rfl) (by kernel_rfl) (Z85 _)
def G54 (c : Y16) : Sem [.one (.ptr), .one (.int .u64)] := fun x K Kp w => c x.1 x.2.1 (fun r1 w' => K (.int .i64 r1) w') w
noncomputable def C54 : Entry := ent (G54 (F.mheap_Heap_grow env))
theorem Z54 (c0 : Y20) (c1 : Y17) (c2 : Y19) : Tie Tryz.prog [(83, ent (G83 c0)), (84, ent (G84 c1)), (85, ent (G85 c2))] ann0 Tryz.f54 (G54 (T0.mheap_Heap_grow env c0 c1 c2)) := fun x K Kp w => by kernel_rfl
theorem fits54 : FitsOne Tryz.prog 54 (ent (G54 (F.mheap_Heap_grow env))) := fits_of (fits_cons fits83 (fits_cons fits84 (fits_cons fits85 fits_nil))) mixed Tryz.func54 Tryz.call54 (by kernel_rfl) (by kernel_rfl) (by kernel_rfl) (Z54 _ _ _)
def G70 (c : Y30) : Sem [.one (.int .u64), .one (.int .u64)] := fun x K Kp w => c x.1 x.2.1 (fun r1 w' => K (.bool r1) w') w
theorem Z70 : Tie Tryz.prog [] ann0 Tryz.f70 (G70 (F.vmem_right env)) := fun x K Kp w => by kernel_rfl
theorem fits70 : FitsOne Tryz.prog 70 (ent (G70 (F.vmem_right env))) := fits_of fits_nil mixed Tryz.func70 Tryz.call70 (by kernel_rfl) (by kernel_rfl) (by kernel_rfl) (Z70)
def G90 (c : Y29) : Sem [.one (.ptr), .one (.int .u64), .one (.int .u64)] := fun x K Kp w => c x.1 x.2.1 x.2.2.1 (fun r1 w' => K (.slice r1.base r1.len r1.cap) w') w
def ann90 : Ann := { loops := [(3, [(7, .one (.sl)), (8, .one (.int .i64))])], joins := [] }
theorem Z90 (c0 : Y16) : Tie Tryz.prog [(76, ent (G76 c0))] ann90 Tryz.f90 (G90 (T0.stretch_Set_Within env c0)) := fun x K Kp w => by kernel_rfl
theorem fits90 : FitsOne Tryz.prog 90 (ent (G90 (F.stretch_Set_Within env))) := fits_of (fits_cons fits76 fits_nil) mixed Tryz.func90 Tryz.call90 (by kernel_rfl) (by kernel_rfl) (by kernel_rfl) (Z90 _)
def G58 (c : Y17) : Sem [.one (.ptr), .one (.int .u64), .one (.int .u64)] := fun x K Kp w => c x.1 x.2.1 x.2.2.1 (fun r1 w' => K (.int .i64 r1) w') w
noncomputable def C58 : Entry := ent (G58 (F.vmem_Mem_Commit env))
def ann58 : Ann := { loops := [(12, [(56, .one (.int .i64))]), (15, [(12, .one (.int .u64))])], joins := [(22, [])] }
theorem Z58 (c0 : Y30) (c1 : Y17) (c2 : Y27) (c3 : Y29) (c4 : Y28) (c5 : Y19) (c6 : Y19) : Tie Tryz.prog [(70, ent (G70 c0)), (60, ent (G60 c1)), (89, ent (G89 c2)), (90, ent (G90 c3)), (91, ent (G91 c4)), (68, ent (G68 c5)), (69, ent (G69 c6))] ann58 Tryz.f58 (G58 (T0.vmem_Mem_Commit env c0 c1 c2 c3 c4 c5 c6)) := fun x K Kp w => by kernel_rfl
theorem fits58 : FitsOne Tryz.prog 58 (ent (G58 (F.vmem_Mem_Commit env))) := fits_of (fits_cons fits70 (fits_cons fits60 (fits_cons fits89 (fits_cons fits90 (fits_cons fits91 (fits_cons fits68 (fits_cons fits69 fits_nil))))))) mixed Tryz.func58 Tryz.call58 (by kernel_rfl) (by kernel_rfl) (by kernel_rfl) (Z58 _ _ _ _ _ _ _)
def G88 (c : Y29) : Sem [.one (.ptr), .one (.int .u64), .one (.int .u64)] := fun x K Kp w => c x.1 x.2.1 x.2.2.1 (fun r1 w' => K (.slice r1.base r1.len r1.cap) w') w
theorem Z88 (c0 : Y29) : Tie Tryz.prog [(90, ent (G90 c0))] ann0 Tryz.f88 (G88 (T0.vmem_Mem_Ready env c0)) := fun x K Kp w => by kernel_rfl
theorem fits88 : FitsOne Tryz.prog 88 (ent (G88 (F.vmem_Mem_Ready env))) := fits_of (fits_cons fits90 fits_nil) mixed Tryz.func88 Tryz.call88 (by kernel_rfl) (by kernel_rfl) (by kernel_rfl) (Z88 _)
def G64 (c : Y31) : Sem [.one (.ptr), .one (.int .u64), .one (.int .u64), .one (.ptr)] := fun x K Kp w => c x.1 x.2.1 x.2.2.1 x.2.2.2.1 (fun r1 w' => K (.int .i64 r1) w') w
theorem Z64 (c0 : Y18) (c1 : Y19) (c2 : Y2) : Tie Tryz.prog [(92, ent (G92 c0)), (69, ent (G69 c1)), (79, ent (G79 c2))] ann0 Tryz.f64 (G64 (T0.radix_Tree_freed env c0 c1 c2)) := fun x K Kp w => by kernel_rfl
theorem fits64 : FitsOne Tryz.prog 64 (ent (G64 (F.radix_Tree_freed env))) := fits_of (fits_cons fits92 (fits_cons fits69 (fits_cons fits79 fits_nil))) mixed Tryz.func64 Tryz.call64 (by kernel_rfl) (by kernel_rfl) (by kernel_rfl) (Z64 _ _ _)
def G66 (c : Y17) : Sem [.one (.ptr), .one (.int .u64), .one (.int .u64)] := fun x K Kp w => c x.1 x.2.1 x.2.2.1 (fun r1 w' => K (.int .i64 r1) w') w
theorem Z66 (c0 : Y31) : Tie Tryz.prog [(64, ent (G64 c0))] ann0 Tryz.f66 (G66 (T0.radix_Tree_Back env c0)) := fun x K Kp w => by kernel_rfl
theorem fits66 : FitsOne Tryz.prog 66 (ent (G66 (F.radix_Tree_Back env))) := fits_of (fits_cons fits64 fits_nil) mixed Tryz.func66 Tryz.call66 (by kernel_rfl) (by kernel_rfl) (by kernel_rfl) (Z66 _)
def G30 (c : Y17) : Sem [.one (.ptr), .one (.int .u64), .one (.int .u64)] := fun x K Kp w => c x.1 x.2.1 x.2.2.1 (fun r1 w' => K (.int .i64 r1) w') w
theorem Z30 (c0 : Y31) : Tie Tryz.prog [(64, ent (G64 c0))] ann0 Tryz.f30 (G30 (T0.radix_Tree_Give env c0)) := fun x K Kp w => by kernel_rfl
theorem fits30 : FitsOne Tryz.prog 30 (ent (G30 (F.radix_Tree_Give env))) := fits_of (fits_cons fits64 fits_nil) mixed Tryz.func30 Tryz.call30 (by kernel_rfl) (by kernel_rfl) (by kernel_rfl) (Z30 _)
def G57 (c : Y19) : Sem [.one (.ptr), .one (.int .u64), .one (.int .u64)] := fun x K Kp w => c x.1 x.2.1 x.2.2.1 (fun  w' => K (.tuple ⟨[]⟩) w') w
noncomputable def C57 : Entry := ent (G57 (F.mheap_Heap_back env))
def ann57 : Ann := { loops := [(2, [(6, .one (.int .u64)), (20, .one (.int .i64))])], joins := [] }
theorem Z57 (c0 : Y29) (c1 : Y17) (c2 : Y17) : Tie Tryz.prog [(88, ent (G88 c0)), (66, ent (G66 c1)), (30, ent (G30 c2))] ann57 Tryz.f57 (G57 (T0.mheap_Heap_back env c0 c1 c2)) := fun x K Kp w => by kernel_rfl
theorem fits57 : FitsOne Tryz.prog 57 (ent (G57 (F.mheap_Heap_back env))) := fits_of (fits_cons fits88 (fits_cons fits66 (fits_cons fits30 fits_nil))) mixed Tryz.func57 Tryz.call57 (by kernel_rfl) (by kernel_rfl) (by kernel_rfl) (Z57 _ _ _)
noncomputable def body56 : Code := (Tryz.f56.body).getD .skip
def ann56 : Ann := { loops := [], joins := [] }
theorem tieZ56 (c_mheap_Heap_back : ∀ (a0 : (Option Addr)) (a1 : Int) (a2 : Int) (K : World -> Prop) (w : World), Prop) (x : ArgsV [.one (.ptr), .one (.ptr), .one (.ptr), .one (.ptr)]) (K Kp : Value -> World -> Prop) (w : World) : T0.mheap_Heap_find_1 env c_mheap_Heap_back x.1 x.2.1 x.2.2.1 x.2.2.2.1 (fun  w' => K (.tuple ⟨[]⟩) w') w =
 ev Tryz.prog (tabC [(57, fun args w K Kp => unArgs [.one (.ptr), .one (.int .u64), .one (.int .u64)] args.toList fun x => c_mheap_Heap_back x.1 x.2.1 x.2.2.1 (fun  w' => K (.tuple ⟨[]⟩) w') w)]) (ground Tryz.prog) ann56 body56 (finQ Tryz.prog Tryz.f56 K Kp) (initF (mkArgs [.one (.ptr), .one (.ptr), .one (.ptr), .one (.ptr)] x)) w := by kernel_rfl
theorem tie56 (x : ArgsV [.one (.ptr), .one (.ptr), .one (.ptr), .one (.ptr)]) (K Kp : Value -> World -> Prop) (w : World) : F.mheap_Heap_find_1 env x.1 x.2.1 x.2.2.1 x.2.2.2.1 (fun  w' => K (.tuple ⟨[]⟩) w') w =
 ev Tryz.prog (tabC [(57, C57)]) (ground Tryz.prog) ann56 body56 (finQ Tryz.prog Tryz.f56 K Kp) (initF (mkArgs [.one (.ptr), .one (.ptr), .one (.ptr), .one (.ptr)] x)) w := tieZ56 (F.mheap_Heap_back env) x K Kp w
noncomputable def D56 : EntryD := fun args pv w K => unArgs [.one (.ptr), .one (.ptr), .one (.ptr), .one (.ptr)] args.toList fun x => F.mheap_Heap_find_1 env x.1 x.2.1 x.2.2.1 x.2.2.2.1 (fun w' => K false w') w
theorem fitsD56 : FitsDOne Tryz.prog 56 D56 :=
 fitsD_plain (T := [(57, C57)]) (A := ann56) (fn := Tryz.f56) (c := body56) (l := [.one (.ptr), .one (.ptr), .one (.ptr), .one (.ptr)]) (F := fun (x : ArgsV [.one (.ptr), .one (.ptr), .one (.ptr), .one (.ptr)]) K w => F.mheap_Heap_find_1 env x.1 x.2.1 x.2.2.1 x.2.2.2.1 K w) (fits_cons fits57 fits_nil) mixed Tryz.func56 Tryz.call56 (by kernel_rfl) (by kernel_rfl) (by kernel_rfl) (fun x K w => tie56 x (fun _ w' => K w') noP w)
noncomputable def C25 : Entry := fun args w K Kp => unArgs [.one (.ptr), .one (.int .i64), .one (.int .u64)] args.toList fun x => F.mheap_Heap_find env x.1 x.2.1 x.2.2.1 (fun r1 r2 w' => K (.tuple ⟨[.int .u64 r1, .int .i64 r2]⟩) w') w
noncomputable def body25 : Code := (Tryz.f25.body).getD .skip
def ann25 : Ann := { loops := [], joins := [(7, [(6, .one (.int .u64))])] }
theorem tieZ25 (c_mheap_Heap_got : ∀ (a0 : (Option Addr)) (a1 : Int) (a2 : Int) (K : Int -> Bool -> World -> Prop) (w : World), Prop) (c_mheap_Heap_grow : ∀ (a0 : (Option Addr)) (a1 : Int) (K : Int -> World -> Prop) (w : World), Prop) (c_radix_Tree_Alloc : ∀ (a0 : (Option Addr)) (a1 : Int) (K : Int -> Int -> Int -> World -> Prop) (w : World), Prop) (c_vmem_Mem_Commit : ∀ (a0 : (Option Addr)) (a1 : Int) (a2 : Int) (K : Int -> World -> Prop) (w : World), Prop) (x : ArgsV [.one (.ptr), .one (.int .i64), .one (.int .u64)]) (K : Value -> World -> Prop) (w : World) : T0.mheap_Heap_find env c_mheap_Heap_got c_mheap_Heap_grow c_radix_Tree_Alloc c_vmem_Mem_Commit x.1 x.2.1 x.2.2.1 (fun r1 r2 w' => K (.tuple ⟨[.int .u64 r1, .int .i64 r2]⟩) w') w =
 evD Tryz.prog (tabC [(53, fun args w K Kp => unArgs [.one (.ptr), .one (.int .i64), .one (.int .u64)] args.toList fun x => c_mheap_Heap_got x.1 x.2.1 x.2.2.1 (fun r1 r2 w' => K (.tuple ⟨[.int .u64 r1, .bool r2]⟩) w') w), (54, fun args w K Kp => unArgs [.one (.ptr), .one (.int .u64)] args.toList fun x => c_mheap_Heap_grow x.1 x.2.1 (fun r1 w' => K (.int .i64 r1) w') w), (55, fun args w K Kp => unArgs [.one (.ptr), .one (.int .u64)] args.toList fun x => c_radix_Tree_Alloc x.1 x.2.1 (fun r1 r2 r3 w' => K (.tuple ⟨[.int .u64 r1, .int .u64 r2, .int .i64 r3]⟩) w') w), (58, fun args w K Kp => unArgs [.one (.ptr), .one (.int .u64), .one (.int .u64)] args.toList fun x => c_vmem_Mem_Commit x.1 x.2.1 x.2.2.1 (fun r1 w' => K (.int .i64 r1) w') w)]) (ground Tryz.prog) ann25 (finQ Tryz.prog Tryz.f25 K noP) (finD Tryz.prog Tryz.f25 (tabD [(56, D56)]) K noP) body25 (initF (mkArgs [.one (.ptr), .one (.int .i64), .one (.int .u64)] x)) w := by kernel_rfl
theorem tie25 (x : ArgsV [.one (.ptr), .one (.int .i64), .one (.int .u64)]) (K : Value -> World -> Prop) (w : World) : F.mheap_Heap_find env x.1 x.2.1 x.2.2.1 (fun r1 r2 w' => K (.tuple ⟨[.int .u64 r1, .int .i64 r2]⟩) w') w =
 evD Tryz.prog (tabC [(53, C53), (54, C54), (55, C55), (58, C58)]) (ground Tryz.prog) ann25 (finQ Tryz.prog Tryz.f25 K noP) (finD Tryz.prog Tryz.f25 (tabD [(56, D56)]) K noP) body25 (initF (mkArgs [.one (.ptr), .one (.int .i64), .one (.int .u64)] x)) w := tieZ25 (F.mheap_Heap_got env) (F.mheap_Heap_grow env) (F.radix_Tree_Alloc env) (F.vmem_Mem_Commit env) x K w
theorem fits25 : FitsOne Tryz.prog 25 C25 :=
 fits_of_tieD (T := [(53, C53), (54, C54), (55, C55), (58, C58)]) (TD := [(56, D56)]) (A := ann25) (fn := Tryz.f25) (c := body25) (fits_cons fits53 (fits_cons fits54 (fits_cons fits55 (fits_cons fits58 fits_nil)))) (fitsD_cons fitsD56 fitsD_nil) mixed Tryz.func25 Tryz.call25 (by kernel_rfl) (by kernel_rfl) (by kernel_rfl) tie25
def G59 (c : Y34) : Sem [.one (.ptr)] := fun x K Kp w => c x.1 (fun r1 w' => K (.int .i64 r1) w') w
def ann59 : Ann := { loops := [], joins := [(6, [(3, .one (.ptr))])] }
theorem Z59 : Tie Tryz.prog [] ann59 Tryz.f59 (G59 (F.fix_Fix_Take env)) := fun x K Kp w => by kernel_rfl
theorem fits59 : FitsOne Tryz.prog 59 (ent (G59 (F.fix_Fix_Take env))) := fits_of fits_nil mixed Tryz.func59 Tryz.call59 (by kernel_rfl) (by kernel_rfl) (by kernel_rfl) (Z59)
def G13 (c : Y35) : Sem [.one (.ptr)] := fun x K Kp w => c x.1 (fun r1 r2 r3 r4 r5 r6 r7 r8 r9 r10 w' => K (.agg ⟨[.int .u64 r1, .int .i64 r2, .int .i64 r3, .int .i64 r4, .bool r5, .int .i64 r6, .int .i64 r7, .int .i64 r8, .bool r9, .bool r10]⟩) w') w
theorem Z13 : Tie Tryz.prog [] ann0 Tryz.f13 (G13 (F.span_Span_Info env)) := fun x K Kp w => by kernel_rfl
theorem fits13 : FitsOne Tryz.prog 13 (ent (G13 (F.span_Span_Info env))) := fits_of fits_nil mixed Tryz.func13 Tryz.call13 (by kernel_rfl) (by kernel_rfl) (by kernel_rfl) (Z13)
def G61 (c : Y19) : Sem [.one (.ptr), .one (.int .u64), .one (.int .u64)] := fun x K Kp w => c x.1 x.2.1 x.2.2.1 (fun  w' => K (.tuple ⟨[]⟩) w') w
def ann61 : Ann := { loops := [(2, [(6, .one (.sl)), (16, .one (.int .i64))]), (14, []), (19, [(10, .one (.int .u64))])], joins := [(5, [(29, .one (.bool))]), (8, [(6, .one (.sl))]), (15, [(81, .one (.bool))]), (17, [(91, .one (.bool))])] }
theorem Z61 : Tie Tryz.prog [] ann61 Tryz.f61 (G61 (F.arena_Map_cut env)) := fun x K Kp w => by kernel_rfl
theorem fits61 : FitsOne Tryz.prog 61 (ent (G61 (F.arena_Map_cut env))) := fits_of fits_nil mixed Tryz.func61 Tryz.call61 (by kernel_rfl) (by kernel_rfl) (by kernel_rfl) (Z61)
def G29 (c : Y33) : Sem [.one (.ptr), .one (.int .u64), .one (.int .u64), .one (.int .i64)] := fun x K Kp w => c x.1 x.2.1 x.2.2.1 x.2.2.2.1 (fun r1 w' => K (.int .i64 r1) w') w
def ann29 : Ann := { loops := [], joins := [(2, [(20, .one (.bool))]), (4, [(28, .one (.bool))]), (14, [])] }
theorem Z29 (c0 : Y17) (c1 : Y19) : Tie Tryz.prog [(60, ent (G60 c0)), (61, ent (G61 c1))] ann29 Tryz.f29 (G29 (T0.arena_Map_Set env c0 c1)) := fun x K Kp w => by kernel_rfl
theorem fits29 : FitsOne Tryz.prog 29 (ent (G29 (F.arena_Map_Set env))) := fits_of (fits_cons fits60 (fits_cons fits61 fits_nil)) mixed Tryz.func29 Tryz.call29 (by kernel_rfl) (by kernel_rfl) (by kernel_rfl) (Z29 _ _)
def G26 (c : Y22) : Sem [.one (.ptr), .one (.ptr)] := fun x K Kp w => c x.1 x.2.1 (fun r1 w' => K (.int .i64 r1) w') w
theorem Z26 (c0 : Y34) (c1 : Y35) (c2 : Y33) : Tie Tryz.prog [(59, ent (G59 c0)), (13, ent (G13 c1)), (29, ent (G29 c2))] ann0 Tryz.f26 (G26 (T0.mheap_Heap_keep env c0 c1 c2)) := fun x K Kp w => by kernel_rfl
theorem fits26 : FitsOne Tryz.prog 26 (ent (G26 (F.mheap_Heap_keep env))) := fits_of (fits_cons fits59 (fits_cons fits13 (fits_cons fits29 fits_nil))) mixed Tryz.func26 Tryz.call26 (by kernel_rfl) (by kernel_rfl) (by kernel_rfl) (Z26 _ _ _)
def G6 (c : Y36) : Sem [.one (.ptr), .one (.int .i64), .one (.int .u64), .one (.int .i64), .one (.bool)] := fun x K Kp w => c x.1 x.2.1 x.2.2.1 x.2.2.2.1 x.2.2.2.2.1 (fun r1 r2 w' => K (.tuple ⟨[.int .i64 r1, .int .i64 r2]⟩) w') w
theorem Z6 (c0 : Y12) (c1 : Y20) (c2 : Y22) : Tie Tryz.prog [(24, ent (G24 c0)), (25, fun args w K Kp => unArgs [.one (.ptr), .one (.int .i64), .one (.int .u64)] args.toList fun x => c1 x.1 x.2.1 x.2.2.1 (fun r1 r2 w' => K (.tuple ⟨[.int .u64 r1, .int .i64 r2]⟩) w') w), (26, ent (G26 c2))] ann0 Tryz.f6 (G6 (T0.mheap_Heap_Alloc env c0 c1 c2)) := fun x K Kp w => by kernel_rfl
theorem fits6 : FitsOne Tryz.prog 6 (ent (G6 (F.mheap_Heap_Alloc env))) := fits_of (fits_cons fits24 (fits_cons fits25 (fits_cons fits26 fits_nil))) mixed Tryz.func6 Tryz.call6 (by kernel_rfl) (by kernel_rfl) (by kernel_rfl) (Z6 _ _ _)
def G27 (c : Y37) : Sem [.one (.int .u64), .one (.int .u64), .one (.int .i64)] := fun x K Kp w => c x.1 x.2.1 x.2.2.1 (fun r1 r2 w' => K (.tuple ⟨[.pointer r1, .int .i64 r2]⟩) w') w
def ann27 : Ann := { loops := [], joins := [(2, [(34, .one (.bool))])] }
theorem Z27 : Tie Tryz.prog [] ann27 Tryz.f27 (G27 (F.span_Manual env)) := fun x K Kp w => by kernel_rfl
theorem fits27 : FitsOne Tryz.prog 27 (ent (G27 (F.span_Manual env))) := fits_of fits_nil mixed Tryz.func27 Tryz.call27 (by kernel_rfl) (by kernel_rfl) (by kernel_rfl) (Z27)
def G7 (c : Y20) : Sem [.one (.ptr), .one (.int .u64), .one (.int .i64)] := fun x K Kp w => c x.1 x.2.1 x.2.2.1 (fun r1 r2 w' => K (.tuple ⟨[.int .i64 r1, .int .i64 r2]⟩) w') w
theorem Z7 (c0 : Y37) (c1 : Y20) (c2 : Y22) : Tie Tryz.prog [(27, ent (G27 c0)), (25, fun args w K Kp => unArgs [.one (.ptr), .one (.int .i64), .one (.int .u64)] args.toList fun x => c1 x.1 x.2.1 x.2.2.1 (fun r1 r2 w' => K (.tuple ⟨[.int .u64 r1, .int .i64 r2]⟩) w') w), (26, ent (G26 c2))] ann0 Tryz.f7 (G7 (T0.mheap_Heap_Manual env c0 c1 c2)) := fun x K Kp w => by kernel_rfl
theorem fits7 : FitsOne Tryz.prog 7 (ent (G7 (F.mheap_Heap_Manual env))) := fits_of (fits_cons fits27 (fits_cons fits25 (fits_cons fits26 fits_nil))) mixed Tryz.func7 Tryz.call7 (by kernel_rfl) (by kernel_rfl) (by kernel_rfl) (Z7 _ _ _)
def G28 (c : Y34) : Sem [.one (.ptr)] := fun x K Kp w => c x.1 (fun r1 w' => K (.int .i64 r1) w') w
def ann28 : Ann := { loops := [], joins := [(2, [(16, .one (.bool))])] }
theorem Z28 : Tie Tryz.prog [] ann28 Tryz.f28 (G28 (F.span_Span_Die env)) := fun x K Kp w => by kernel_rfl
theorem fits28 : FitsOne Tryz.prog 28 (ent (G28 (F.span_Span_Die env))) := fits_of fits_nil mixed Tryz.func28 Tryz.call28 (by kernel_rfl) (by kernel_rfl) (by kernel_rfl) (Z28)
def G65 (c : Y38) : Sem [.one (.ptr), .one (.int .i64)] := fun x K Kp w => c x.1 x.2.1 (fun r1 w' => K (.bool r1) w') w
theorem Z65 : Tie Tryz.prog [] ann0 Tryz.f65 (G65 (F.fix_Fix_Live env)) := fun x K Kp w => by kernel_rfl
theorem fits65 : FitsOne Tryz.prog 65 (ent (G65 (F.fix_Fix_Live env))) := fits_of fits_nil mixed Tryz.func65 Tryz.call65 (by kernel_rfl) (by kernel_rfl) (by kernel_rfl) (Z65)
def G31 (c : Y16) : Sem [.one (.ptr), .one (.int .i64)] := fun x K Kp w => c x.1 x.2.1 (fun r1 w' => K (.int .i64 r1) w') w
theorem Z31 (c0 : Y38) : Tie Tryz.prog [(65, ent (G65 c0))] ann0 Tryz.f31 (G31 (T0.fix_Fix_Give env c0)) := fun x K Kp w => by kernel_rfl
theorem fits31 : FitsOne Tryz.prog 31 (ent (G31 (F.fix_Fix_Give env))) := fits_of (fits_cons fits65 fits_nil) mixed Tryz.func31 Tryz.call31 (by kernel_rfl) (by kernel_rfl) (by kernel_rfl) (Z31 _)
def G8 (c : Y16) : Sem [.one (.ptr), .one (.int .i64)] := fun x K Kp w => c x.1 x.2.1 (fun r1 w' => K (.int .i64 r1) w') w
theorem Z8 (c0 : Y34) (c1 : Y35) (c2 : Y33) (c3 : Y17) (c4 : Y16) : Tie Tryz.prog [(28, ent (G28 c0)), (13, ent (G13 c1)), (29, ent (G29 c2)), (30, ent (G30 c3)), (31, ent (G31 c4))] ann0 Tryz.f8 (G8 (T0.mheap_Heap_Free env c0 c1 c2 c3 c4)) := fun x K Kp w => by kernel_rfl
theorem fits8 : FitsOne Tryz.prog 8 (ent (G8 (F.mheap_Heap_Free env))) := fits_of (fits_cons fits28 (fits_cons fits13 (fits_cons fits29 (fits_cons fits30 (fits_cons fits31 fits_nil))))) mixed Tryz.func8 Tryz.call8 (by kernel_rfl) (by kernel_rfl) (by kernel_rfl) (Z8 _ _ _ _ _)
def G33 (c : Y39) : Sem [.one (.ptr), .one (.ptr)] := fun x K Kp w => c x.1 x.2.1 (fun  w' => K (.tuple ⟨[]⟩) w') w
def ann33 : Ann := { loops := [(1, [(5, .one (.int .u64))])], joins := [] }
theorem Z33 (c0 : Y17) (c1 : Y17) : Tie Tryz.prog [(66, ent (G66 c0)), (30, ent (G30 c1))] ann33 Tryz.f33 (G33 (T0.pcache_Cache_Flush env c0 c1)) := fun x K Kp w => by kernel_rfl
theorem fits33 : FitsOne Tryz.prog 33 (ent (G33 (F.pcache_Cache_Flush env))) := fits_of (fits_cons fits66 (fits_cons fits30 fits_nil)) mixed Tryz.func33 Tryz.call33 (by kernel_rfl) (by kernel_rfl) (by kernel_rfl) (Z33 _ _)
def G9 (c : Y40) : Sem [.one (.ptr), .one (.int .i64)] := fun x K Kp w => c x.1 x.2.1 (fun  w' => K (.tuple ⟨[]⟩) w') w
theorem Z9 (c0 : Y7) (c1 : Y39) : Tie Tryz.prog [(32, ent (G32 c0)), (33, ent (G33 c1))] ann0 Tryz.f9 (G9 (T0.mheap_Heap_Flush env c0 c1)) := fun x K Kp w => by kernel_rfl
theorem fits9 : FitsOne Tryz.prog 9 (ent (G9 (F.mheap_Heap_Flush env))) := fits_of (fits_cons fits32 (fits_cons fits33 fits_nil)) mixed Tryz.func9 Tryz.call9 (by kernel_rfl) (by kernel_rfl) (by kernel_rfl) (Z9 _ _)
def G34 (c : Y41) : Sem [.one (.ptr), .one (.int .u64)] := fun x K Kp w => c x.1 x.2.1 (fun r1 r2 w' => K (.tuple ⟨[.int .u64 r1, .int .u64 r2]⟩) w') w
def ann34 : Ann := { loops := [], joins := [(3, [(20, .one (.bool))])] }
theorem Z34 (c0 : Y13) (c1 : Y19) (c2 : Y19) : Tie Tryz.prog [(67, ent (G67 c0)), (68, ent (G68 c1)), (69, ent (G69 c2))] ann34 Tryz.f34 (G34 (T0.radix_Tree_Scavenge env c0 c1 c2)) := fun x K Kp w => by kernel_rfl
theorem fits34 : FitsOne Tryz.prog 34 (ent (G34 (F.radix_Tree_Scavenge env))) := fits_of (fits_cons fits67 (fits_cons fits68 (fits_cons fits69 fits_nil))) mixed Tryz.func34 Tryz.call34 (by kernel_rfl) (by kernel_rfl) (by kernel_rfl) (Z34 _ _ _)
def G71 (c : Y42) : Sem [.one (.map), .one (.int .u64), .one (.int .u64)] := fun x K Kp w => c x.1 x.2.1 x.2.2.1 (fun  w' => K (.tuple ⟨[]⟩) w') w
def ann71 : Ann := { loops := [(2, []), (7, [(7, .one (.int .u64))])], joins := [(3, [(18, .one (.bool))]), (5, [(28, .one (.bool))])] }
theorem Z71 : Tie Tryz.prog [] ann71 Tryz.f71 (G71 (F.vmem_forget_uint64_ env)) := fun x K Kp w => by kernel_rfl
theorem fits71 : FitsOne Tryz.prog 71 (ent (G71 (F.vmem_forget_uint64_ env))) := fits_of fits_nil mixed Tryz.func71 Tryz.call71 (by kernel_rfl) (by kernel_rfl) (by kernel_rfl) (Z71)
def G72 (c : Y42) : Sem [.one (.map), .one (.int .u64), .one (.int .u64)] := fun x K Kp w => c x.1 x.2.1 x.2.2.1 (fun  w' => K (.tuple ⟨[]⟩) w') w
def ann72 : Ann := { loops := [(2, []), (7, [(7, .one (.int .u64))])], joins := [(3, [(18, .one (.bool))]), (5, [(28, .one (.bool))])] }
theorem Z72 : Tie Tryz.prog [] ann72 Tryz.f72 (G72 (F.vmem_forget___1024_uint64_ env)) := fun x K Kp w => by kernel_rfl
theorem fits72 : FitsOne Tryz.prog 72 (ent (G72 (F.vmem_forget___1024_uint64_ env))) := fits_of fits_nil mixed Tryz.func72 Tryz.call72 (by kernel_rfl) (by kernel_rfl) (by kernel_rfl) (Z72)
def G35 (c : Y17) : Sem [.one (.ptr), .one (.int .u64), .one (.int .u64)] := fun x K Kp w => c x.1 x.2.1 x.2.2.1 (fun r1 w' => K (.int .i64 r1) w') w
theorem Z35 (c0 : Y30) (c1 : Y17) (c2 : Y19) (c3 : Y19) (c4 : Y42) (c5 : Y42) : Tie Tryz.prog [(70, ent (G70 c0)), (60, ent (G60 c1)), (68, ent (G68 c2)), (69, ent (G69 c3)), (71, ent (G71 c4)), (72, ent (G72 c5))] ann0 Tryz.f35 (G35 (T0.vmem_Mem_Release env c0 c1 c2 c3 c4 c5)) := fun x K Kp w => by kernel_rfl
theorem fits35 : FitsOne Tryz.prog 35 (ent (G35 (F.vmem_Mem_Release env))) := fits_of (fits_cons fits70 (fits_cons fits60 (fits_cons fits68 (fits_cons fits69 (fits_cons fits71 (fits_cons fits72 fits_nil)))))) mixed Tryz.func35 Tryz.call35 (by kernel_rfl) (by kernel_rfl) (by kernel_rfl) (Z35 _ _ _ _ _ _)
end Go.Sh
