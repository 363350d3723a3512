/- Each shallow form is what the code of its function comes to, piece 3. No further condition. -/
import Derived.Test.YtnkkjmcimhjnhaaGreatDoorU
import Derived.Test.YtnkkjmcimhjnhaaGreatDoorProg
import Derived.KernelRfl
import Derived.Test.YtnkkjmcimhjnhaaGreatDoorS
import Derived.Test.YtnkkjmcimhjnhaaGreatDoorA
import Derived.Calls
set_option linter.all false
set_option maxRecDepth 100000
set_option maxHeartbeats 4000000
namespace Go.Sh
open Go.Proofs
def G40 (c : Y55) : Sem [.one (.ptr), .agg [.int .i64, .int .i64, .bool]] := fun x K Kp w => c x.1 x.2.1.1 x.2.1.2.1 x.2.1.2.2.1 (fun r1 r2 r3 w' => K (.tuple ⟨[.int .i64 r1, .bool r2, .int .i64 r3]⟩) w') w
theorem Z40 (c0 : Y69) : Tie Tryz.prog [(80, ent (G80 c0))] ann0 Tryz.f40 (G40 (T0.central_Central_partial env c0)) := fun x K Kp w => by kernel_rfl
theorem fits40 : FitsOne Tryz.prog 40 (ent (G40 (F.central_Central_partial env))) := fits_of (fits_cons fits80 fits_nil) mixed Tryz.func40 Tryz.call40 (by kernel_rfl) (by kernel_rfl) (by kernel_rfl) (Z40 _)
def G41 (c : Y55) : Sem [.one (.ptr), .agg [.int .i64, .int .i64, .bool]] := fun x K Kp w => c x.1 x.2.1.1 x.2.1.2.1 x.2.1.2.2.1 (fun r1 r2 r3 w' => K (.tuple ⟨[.int .i64 r1, .bool r2, .int .i64 r3]⟩) w') w
theorem Z41 (c0 : Y69) : Tie Tryz.prog [(80, ent (G80 c0))] ann0 Tryz.f41 (G41 (T0.central_Central_full env c0)) := fun x K Kp w => by kernel_rfl
theorem fits41 : FitsOne Tryz.prog 41 (ent (G41 (F.central_Central_full env))) := fits_of (fits_cons fits80 fits_nil) mixed Tryz.func41 Tryz.call41 (by kernel_rfl) (by kernel_rfl) (by kernel_rfl) (Z41 _)
def G99 (c : Y70) : Sem [.one (.int .u64), .one (.int .u64), .one (.int .i64), .one (.bool)] := fun x K Kp w => c x.1 x.2.1 x.2.2.1 x.2.2.2.1 (fun r1 r2 w' => K (.tuple ⟨[.pointer r1, .int .i64 r2]⟩) w') w
def ann99 : Ann := { loops := [], joins := [(3, [(56, .one (.bool))])] }
theorem Z99 (c0 : Y4) : Tie Tryz.prog [(9, ent (G9 c0))] ann99 Tryz.f99 (G99 (T0.span_New env c0)) := fun x K Kp w => by kernel_rfl
theorem fits99 : FitsOne Tryz.prog 99 (ent (G99 (F.span_New env))) := fits_of (fits_cons fits9 fits_nil) mixed Tryz.func99 Tryz.call99 (by kernel_rfl) (by kernel_rfl) (by kernel_rfl) (Z99 _)
def G145 (c : Y0) : Sem [.one (.int .i64)] := fun x K Kp w => c x.1 (fun r1 w' => K (.bool r1) w') w
theorem Z145 : Tie Tryz.prog [] ann0 Tryz.f145 (G145 (F.mheap_is env)) := fun x K Kp w => by kernel_rfl
theorem fits145 : FitsOne Tryz.prog 145 (ent (G145 (F.mheap_is env))) := fits_of fits_nil mixed Tryz.func145 Tryz.call145 (by kernel_rfl) (by kernel_rfl) (by kernel_rfl) (Z145)
def G176 (c : Y50) : Sem [.one (.ptr)] := fun x K Kp w => c x.1 (fun r1 w' => K (.slice r1.base r1.len r1.cap) w') w
theorem Z176 : Tie Tryz.prog [] ann0 Tryz.f176 (G176 (F.stretch_Set_All env)) := fun x K Kp w => by kernel_rfl
theorem fits176 : FitsOne Tryz.prog 176 (ent (G176 (F.stretch_Set_All env))) := fits_of fits_nil mixed Tryz.func176 Tryz.call176 (by kernel_rfl) (by kernel_rfl) (by kernel_rfl) (Z176)
def G151 (c : Y34) : Sem [.one (.ptr), .one (.int .u64)] := fun x K Kp w => c x.1 x.2.1 (fun r1 r2 w' => K (.tuple ⟨[.int .u64 r1, .bool r2]⟩) w') w
def ann151 : Ann := { loops := [(4, [(15, .one (.int .i64))])], joins := [] }
theorem Z151 (c0 : Y50) : Tie Tryz.prog [(176, ent (G176 c0))] ann151 Tryz.f151 (G151 (T0.radix_Tree_Find env c0)) := fun x K Kp w => by kernel_rfl
theorem fits151 : FitsOne Tryz.prog 151 (ent (G151 (F.radix_Tree_Find env))) := fits_of (fits_cons fits176 fits_nil) mixed Tryz.func151 Tryz.call151 (by kernel_rfl) (by kernel_rfl) (by kernel_rfl) (Z151 _)
def G152 (c : Y60) : Sem [.one (.ptr), .one (.int .u64), .one (.int .u64)] := fun x K Kp w => c x.1 x.2.1 x.2.2.1 (fun r1 r2 w' => K (.tuple ⟨[.int .u64 r1, .int .i64 r2]⟩) w') w
theorem Z152 (c0 : Y66) (c1 : Y64) (c2 : Y38) (c3 : Y7) : Tie Tryz.prog [(177, ent (G177 c0)), (156, ent (G156 c1)), (160, ent (G160 c2)), (96, ent (G96 c3))] ann0 Tryz.f152 (G152 (T0.radix_Tree_Take env c0 c1 c2 c3)) := fun x K Kp w => by kernel_rfl
theorem fits152 : FitsOne Tryz.prog 152 (ent (G152 (F.radix_Tree_Take env))) := fits_of (fits_cons fits177 (fits_cons fits156 (fits_cons fits160 (fits_cons fits96 fits_nil)))) mixed Tryz.func152 Tryz.call152 (by kernel_rfl) (by kernel_rfl) (by kernel_rfl) (Z152 _ _ _ _)
def G146 (c : Y71) : Sem [.one (.ptr), .one (.ptr)] := fun x K Kp w => c x.1 x.2.1 (fun r1 w' => K (.int .i64 r1) w') w
def ann146 : Ann := { loops := [(8, [(28, .one (.int .u64))])], joins := [] }
theorem Z146 (c0 : Y34) (c1 : Y31) (c2 : Y60) : Tie Tryz.prog [(151, ent (G151 c0)), (87, ent (G87 c1)), (152, ent (G152 c2))] ann146 Tryz.f146 (G146 (T0.pcache_Cache_Fill env c0 c1 c2)) := fun x K Kp w => by kernel_rfl
theorem fits146 : FitsOne Tryz.prog 146 (ent (G146 (F.pcache_Cache_Fill env))) := fits_of (fits_cons fits151 (fits_cons fits87 (fits_cons fits152 fits_nil))) mixed Tryz.func146 Tryz.call146 (by kernel_rfl) (by kernel_rfl) (by kernel_rfl) (Z146 _ _ _)
def G172 (c : Y72) : Sem [.one (.int .u64), .one (.int .i64)] := fun x K Kp w => c x.1 x.2.1 (fun r1 r2 w' => K (.tuple ⟨[.int .i64 r1, .bool r2]⟩) w') w
def ann172 : Ann := { loops := [(2, [(0, .one (.int .u64)), (1, .one (.int .i64)), (6, .one (.int .i64))])], joins := [] }
theorem Z172 (c0 : Y2) : Tie Tryz.prog [(82, ent (G82 c0))] ann172 Tryz.f172 (G172 (T0.pcache_find env c0)) := fun x K Kp w => by kernel_rfl
theorem fits172 : FitsOne Tryz.prog 172 (ent (G172 (F.pcache_find env))) := fits_of (fits_cons fits82 fits_nil) mixed Tryz.func172 Tryz.call172 (by kernel_rfl) (by kernel_rfl) (by kernel_rfl) (Z172 _)
def G173 (c : Y2) : Sem [.one (.int .u64)] := fun x K Kp w => c x.1 (fun r1 w' => K (.int .i64 r1) w') w
theorem Z173 : Tie Tryz.prog [] ann0 Tryz.f173 (G173 (F.math_bits_OnesCount64 env)) := fun x K Kp w => by kernel_rfl
theorem fits173 : FitsOne Tryz.prog 173 (ent (G173 (F.math_bits_OnesCount64 env))) := fits_of fits_nil mixed Tryz.func173 Tryz.call173 (by kernel_rfl) (by kernel_rfl) (by kernel_rfl) (Z173)
def G147 (c : Y73) : Sem [.one (.ptr), .one (.int .i64)] := fun x K Kp w => c x.1 x.2.1 (fun r1 r2 r3 w' => K (.tuple ⟨[.int .u64 r1, .int .i64 r2, .int .i64 r3]⟩) w') w
def ann147 : Ann := { loops := [], joins := [(2, [(16, .one (.bool))])] }
theorem Z147 (c0 : Y72) (c1 : Y2) : Tie Tryz.prog [(172, ent (G172 c0)), (173, ent (G173 c1))] ann147 Tryz.f147 (G147 (T0.pcache_Cache_Alloc env c0 c1)) := fun x K Kp w => by kernel_rfl
theorem fits147 : FitsOne Tryz.prog 147 (ent (G147 (F.pcache_Cache_Alloc env))) := fits_of (fits_cons fits172 (fits_cons fits173 fits_nil)) mixed Tryz.func147 Tryz.call147 (by kernel_rfl) (by kernel_rfl) (by kernel_rfl) (Z147 _ _)
def G122 (c : Y73) : Sem [.one (.ptr), .one (.int .u64)] := fun x K Kp w => c x.1 x.2.1 (fun r1 r2 r3 w' => K (.tuple ⟨[.int .u64 r1, .int .u64 r2, .int .i64 r3]⟩) w') w
noncomputable def C122 : Entry := ent (G122 (F.radix_Tree_Alloc env))
theorem Z122 (c0 : Y34) (c1 : Y60) : Tie Tryz.prog [(151, ent (G151 c0)), (152, ent (G152 c1))] ann0 Tryz.f122 (G122 (T0.radix_Tree_Alloc env c0 c1)) := fun x K Kp w => by kernel_rfl
theorem fits122 : FitsOne Tryz.prog 122 (ent (G122 (F.radix_Tree_Alloc env))) := fits_of (fits_cons fits151 (fits_cons fits152 fits_nil)) mixed Tryz.func122 Tryz.call122 (by kernel_rfl) (by kernel_rfl) (by kernel_rfl) (Z122 _ _)
def G120 (c : Y74) : Sem [.one (.ptr), .one (.int .i64), .one (.int .u64)] := fun x K Kp w => c x.1 x.2.1 x.2.2.1 (fun r1 r2 w' => K (.tuple ⟨[.int .u64 r1, .bool r2]⟩) w') w
noncomputable def C120 : Entry := ent (G120 (F.mheap_Heap_got env))
def ann120 : Ann := { loops := [], joins := [(2, [(20, .one (.bool))]), (5, []), (8, [])] }
theorem Z120 (c0 : Y0) (c1 : Y31) (c2 : Y71) (c3 : Y73) (c4 : Y73) : Tie Tryz.prog [(145, ent (G145 c0)), (87, ent (G87 c1)), (146, ent (G146 c2)), (147, ent (G147 c3)), (122, ent (G122 c4))] ann120 Tryz.f120 (G120 (T0.mheap_Heap_got env c0 c1 c2 c3 c4)) := fun x K Kp w => by kernel_rfl
theorem fits120 : FitsOne Tryz.prog 120 (ent (G120 (F.mheap_Heap_got env))) := fits_of (fits_cons fits145 (fits_cons fits87 (fits_cons fits146 (fits_cons fits147 (fits_cons fits122 fits_nil))))) mixed Tryz.func120 Tryz.call120 (by kernel_rfl) (by kernel_rfl) (by kernel_rfl) (Z120 _ _ _ _ _)
def G157 (c : Y75) : Sem [.one (.ptr)] := fun x K Kp w => c x.1 (fun r1 r2 w' => K (.tuple ⟨[.bool r1, .bool r2]⟩) w') w
theorem Z157 : Tie Tryz.prog [] ann0 Tryz.f157 (G157 (F.vmem_used_bool_ env)) := fun x K Kp w => by kernel_rfl
theorem fits157 : FitsOne Tryz.prog 157 (ent (G157 (F.vmem_used_bool_ env))) := fits_of fits_nil mixed Tryz.func157 Tryz.call157 (by kernel_rfl) (by kernel_rfl) (by kernel_rfl) (Z157)
def G159 (c : Y76) : Sem [.one (.ptr)] := fun x K Kp w => c x.1 (fun r1 r2 w' => K (.tuple ⟨[.int .u64 r1, .bool r2]⟩) w') w
theorem Z159 : Tie Tryz.prog [] ann0 Tryz.f159 (G159 (F.vmem_used_uint64_ env)) := fun x K Kp w => by kernel_rfl
theorem fits159 : FitsOne Tryz.prog 159 (ent (G159 (F.vmem_used_uint64_ env))) := fits_of fits_nil mixed Tryz.func159 Tryz.call159 (by kernel_rfl) (by kernel_rfl) (by kernel_rfl) (Z159)
def G174 (c : Y59) : Sem [.one (.ptr), .one (.int .u64), .one (.int .u64)] := fun x K Kp w => c x.1 x.2.1 x.2.2.1 (fun r1 w' => K (.bool r1) w') w
theorem Z174 (c0 : Y64) : Tie Tryz.prog [(156, ent (G156 c0))] ann0 Tryz.f174 (G174 (T0.vmem_Mem_fits env c0)) := fun x K Kp w => by kernel_rfl
theorem fits174 : FitsOne Tryz.prog 174 (ent (G174 (F.vmem_Mem_fits env))) := fits_of (fits_cons fits156 fits_nil) mixed Tryz.func174 Tryz.call174 (by kernel_rfl) (by kernel_rfl) (by kernel_rfl) (Z174 _)
def G175 (c : Y74) : Sem [.one (.ptr), .one (.int .u64), .one (.int .u64)] := fun x K Kp w => c x.1 x.2.1 x.2.2.1 (fun r1 r2 w' => K (.tuple ⟨[.int .u64 r1, .bool r2]⟩) w') w
def ann175 : Ann := { loops := [(5, [(8, .one (.int .u64)), (24, .one (.int .i64))])], joins := [(9, []), (11, [(8, .one (.int .u64))])] }
theorem Z175 (c0 : Y50) (c1 : Y59) : Tie Tryz.prog [(176, ent (G176 c0)), (174, ent (G174 c1))] ann175 Tryz.f175 (G175 (T0.vmem_Mem_place env c0 c1)) := fun x K Kp w => by kernel_rfl
theorem fits175 : FitsOne Tryz.prog 175 (ent (G175 (F.vmem_Mem_place env))) := fits_of (fits_cons fits176 (fits_cons fits174 fits_nil)) mixed Tryz.func175 Tryz.call175 (by kernel_rfl) (by kernel_rfl) (by kernel_rfl) (Z175 _ _)
def G148 (c : Y60) : Sem [.one (.ptr), .one (.int .u64), .one (.int .u64)] := fun x K Kp w => c x.1 x.2.1 x.2.2.1 (fun r1 r2 w' => K (.tuple ⟨[.int .u64 r1, .int .i64 r2]⟩) w') w
def ann148 : Ann := { loops := [(9, [(10, .one (.int .u64)), (11, .one (.bool)), (52, .one (.int .i64))])], joins := [(2, [(24, .one (.bool))]), (8, [(11, .one (.bool))])] }
theorem Z148 (c0 : Y75) (c1 : Y76) (c2 : Y59) (c3 : Y74) (c4 : Y38) : Tie Tryz.prog [(157, ent (G157 c0)), (159, ent (G159 c1)), (174, ent (G174 c2)), (175, ent (G175 c3)), (161, ent (G161 c4))] ann148 Tryz.f148 (G148 (T0.vmem_Mem_Reserve env c0 c1 c2 c3 c4)) := fun x K Kp w => by kernel_rfl
theorem fits148 : FitsOne Tryz.prog 148 (ent (G148 (F.vmem_Mem_Reserve env))) := fits_of (fits_cons fits157 (fits_cons fits159 (fits_cons fits174 (fits_cons fits175 (fits_cons fits161 fits_nil))))) mixed Tryz.func148 Tryz.call148 (by kernel_rfl) (by kernel_rfl) (by kernel_rfl) (Z148 _ _ _ _ _)
def G149 (c : Y64) : Sem [.one (.ptr), .one (.int .u64), .one (.int .u64)] := fun x K Kp w => c x.1 x.2.1 x.2.2.1 (fun r1 w' => K (.int .i64 r1) w') w
def ann149 : Ann := { loops := [], joins := [(2, [(24, .one (.bool))])] }
theorem Z149 (c0 : Y64) (c1 : Y38) (c2 : Y7) : Tie Tryz.prog [(156, ent (G156 c0)), (161, ent (G161 c1)), (96, ent (G96 c2))] ann149 Tryz.f149 (G149 (T0.radix_Tree_Grow env c0 c1 c2)) := fun x K Kp w => by kernel_rfl
theorem fits149 : FitsOne Tryz.prog 149 (ent (G149 (F.radix_Tree_Grow env))) := fits_of (fits_cons fits156 (fits_cons fits161 (fits_cons fits96 fits_nil))) mixed Tryz.func149 Tryz.call149 (by kernel_rfl) (by kernel_rfl) (by kernel_rfl) (Z149 _ _ _)
def G150 (c : Y38) : Sem [.one (.ptr), .one (.int .u64), .one (.int .u64)] := fun x K Kp w => c x.1 x.2.1 x.2.2.1 (fun  w' => K (.tuple ⟨[]⟩) w') w
theorem Z150 (c0 : Y38) : Tie Tryz.prog [(161, ent (G161 c0))] ann0 Tryz.f150 (G150 (T0.arena_Map_Many env c0)) := fun x K Kp w => by kernel_rfl
theorem fits150 : FitsOne Tryz.prog 150 (ent (G150 (F.arena_Map_Many env))) := fits_of (fits_cons fits161 fits_nil) mixed Tryz.func150 Tryz.call150 (by kernel_rfl) (by kernel_rfl) (by kernel_rfl) (Z150 _)
def G121 (c : Y20) : Sem [.one (.ptr), .one (.int .u64)] := fun x K Kp w => c x.1 x.2.1 (fun r1 w' => K (.int .i64 r1) w') w
noncomputable def C121 : Entry := ent (G121 (F.mheap_Heap_grow env))
theorem Z121 (c0 : Y60) (c1 : Y64) (c2 : Y38) : Tie Tryz.prog [(148, ent (G148 c0)), (149, ent (G149 c1)), (150, ent (G150 c2))] ann0 Tryz.f121 (G121 (T0.mheap_Heap_grow env c0 c1 c2)) := fun x K Kp w => by kernel_rfl
theorem fits121 : FitsOne Tryz.prog 121 (ent (G121 (F.mheap_Heap_grow env))) := fits_of (fits_cons fits148 (fits_cons fits149 (fits_cons fits150 fits_nil))) mixed Tryz.func121 Tryz.call121 (by kernel_rfl) (by kernel_rfl) (by kernel_rfl) (Z121 _ _ _)
def G155 (c : Y51) : Sem [.one (.int .u64), .one (.int .u64)] := fun x K Kp w => c x.1 x.2.1 (fun r1 w' => K (.bool r1) w') w
theorem Z155 : Tie Tryz.prog [] ann0 Tryz.f155 (G155 (F.vmem_right env)) := fun x K Kp w => by kernel_rfl
theorem fits155 : FitsOne Tryz.prog 155 (ent (G155 (F.vmem_right env))) := fits_of fits_nil mixed Tryz.func155 Tryz.call155 (by kernel_rfl) (by kernel_rfl) (by kernel_rfl) (Z155)
def G158 (c : Y57) : Sem [.one (.ptr), .one (.int .u64), .one (.int .u64)] := fun x K Kp w => c x.1 x.2.1 x.2.2.1 (fun r1 w' => K (.slice r1.base r1.len r1.cap) w') w
def ann158 : Ann := { loops := [(3, [(7, .one (.sl)), (8, .one (.int .i64))])], joins := [] }
theorem Z158 (c0 : Y20) : Tie Tryz.prog [(178, ent (G178 c0))] ann158 Tryz.f158 (G158 (T0.stretch_Set_Within env c0)) := fun x K Kp w => by kernel_rfl
theorem fits158 : FitsOne Tryz.prog 158 (ent (G158 (F.stretch_Set_Within env))) := fits_of (fits_cons fits178 fits_nil) mixed Tryz.func158 Tryz.call158 (by kernel_rfl) (by kernel_rfl) (by kernel_rfl) (Z158 _)
def G125 (c : Y64) : Sem [.one (.ptr), .one (.int .u64), .one (.int .u64)] := fun x K Kp w => c x.1 x.2.1 x.2.2.1 (fun r1 w' => K (.int .i64 r1) w') w
noncomputable def C125 : Entry := ent (G125 (F.vmem_Mem_Commit env))
def ann125 : Ann := { loops := [(12, [(56, .one (.int .i64))]), (15, [(12, .one (.int .u64))])], joins := [(22, [])] }
theorem Z125 (c0 : Y51) (c1 : Y64) (c2 : Y75) (c3 : Y57) (c4 : Y76) (c5 : Y38) (c6 : Y38) : Tie Tryz.prog [(155, ent (G155 c0)), (156, ent (G156 c1)), (157, ent (G157 c2)), (158, ent (G158 c3)), (159, ent (G159 c4)), (160, ent (G160 c5)), (161, ent (G161 c6))] ann125 Tryz.f125 (G125 (T0.vmem_Mem_Commit env c0 c1 c2 c3 c4 c5 c6)) := fun x K Kp w => by kernel_rfl
theorem fits125 : FitsOne Tryz.prog 125 (ent (G125 (F.vmem_Mem_Commit env))) := fits_of (fits_cons fits155 (fits_cons fits156 (fits_cons fits157 (fits_cons fits158 (fits_cons fits159 (fits_cons fits160 (fits_cons fits161 fits_nil))))))) mixed Tryz.func125 Tryz.call125 (by kernel_rfl) (by kernel_rfl) (by kernel_rfl) (Z125 _ _ _ _ _ _ _)
def G153 (c : Y57) : Sem [.one (.ptr), .one (.int .u64), .one (.int .u64)] := fun x K Kp w => c x.1 x.2.1 x.2.2.1 (fun r1 w' => K (.slice r1.base r1.len r1.cap) w') w
theorem Z153 (c0 : Y57) : Tie Tryz.prog [(158, ent (G158 c0))] ann0 Tryz.f153 (G153 (T0.vmem_Mem_Ready env c0)) := fun x K Kp w => by kernel_rfl
theorem fits153 : FitsOne Tryz.prog 153 (ent (G153 (F.vmem_Mem_Ready env))) := fits_of (fits_cons fits158 fits_nil) mixed Tryz.func153 Tryz.call153 (by kernel_rfl) (by kernel_rfl) (by kernel_rfl) (Z153 _)
def G154 (c : Y64) : Sem [.one (.ptr), .one (.int .u64), .one (.int .u64)] := fun x K Kp w => c x.1 x.2.1 x.2.2.1 (fun r1 w' => K (.int .i64 r1) w') w
theorem Z154 (c0 : Y67) : Tie Tryz.prog [(169, ent (G169 c0))] ann0 Tryz.f154 (G154 (T0.radix_Tree_Back env c0)) := fun x K Kp w => by kernel_rfl
theorem fits154 : FitsOne Tryz.prog 154 (ent (G154 (F.radix_Tree_Back env))) := fits_of (fits_cons fits169 fits_nil) mixed Tryz.func154 Tryz.call154 (by kernel_rfl) (by kernel_rfl) (by kernel_rfl) (Z154 _)
def G124 (c : Y38) : Sem [.one (.ptr), .one (.int .u64), .one (.int .u64)] := fun x K Kp w => c x.1 x.2.1 x.2.2.1 (fun  w' => K (.tuple ⟨[]⟩) w') w
noncomputable def C124 : Entry := ent (G124 (F.mheap_Heap_back env))
def ann124 : Ann := { loops := [(2, [(6, .one (.int .u64)), (20, .one (.int .i64))])], joins := [] }
theorem Z124 (c0 : Y57) (c1 : Y64) (c2 : Y64) : Tie Tryz.prog [(153, ent (G153 c0)), (154, ent (G154 c1)), (138, ent (G138 c2))] ann124 Tryz.f124 (G124 (T0.mheap_Heap_back env c0 c1 c2)) := fun x K Kp w => by kernel_rfl
theorem fits124 : FitsOne Tryz.prog 124 (ent (G124 (F.mheap_Heap_back env))) := fits_of (fits_cons fits153 (fits_cons fits154 (fits_cons fits138 fits_nil))) mixed Tryz.func124 Tryz.call124 (by kernel_rfl) (by kernel_rfl) (by kernel_rfl) (Z124 _ _ _)
noncomputable def body123 : Code := (Tryz.f123.body).getD .skip
def ann123 : Ann := { loops := [], joins := [] }
theorem tieZ123 (c_mheap_Heap_back : ∀ (a0 : (Option Addr)) (a1 : Int) (a2 : Int) (K : World -> Prop) (w : World), Prop) (x : ArgsV [.one (.ptr), .one (.ptr), .one (.ptr), .one (.ptr)]) (K Kp : Value -> World -> Prop) (w : World) : T0.mheap_Heap_find_1 env c_mheap_Heap_back x.1 x.2.1 x.2.2.1 x.2.2.2.1 (fun  w' => K (.tuple ⟨[]⟩) w') w =
 ev Tryz.prog (tabC [(124, fun args w K Kp => unArgs [.one (.ptr), .one (.int .u64), .one (.int .u64)] args.toList fun x => c_mheap_Heap_back x.1 x.2.1 x.2.2.1 (fun  w' => K (.tuple ⟨[]⟩) w') w)]) (ground Tryz.prog) ann123 body123 (finQ Tryz.prog Tryz.f123 K Kp) (initF (mkArgs [.one (.ptr), .one (.ptr), .one (.ptr), .one (.ptr)] x)) w := by kernel_rfl
theorem tie123 (x : ArgsV [.one (.ptr), .one (.ptr), .one (.ptr), .one (.ptr)]) (K Kp : Value -> World -> Prop) (w : World) : F.mheap_Heap_find_1 env x.1 x.2.1 x.2.2.1 x.2.2.2.1 (fun  w' => K (.tuple ⟨[]⟩) w') w =
 ev Tryz.prog (tabC [(124, C124)]) (ground Tryz.prog) ann123 body123 (finQ Tryz.prog Tryz.f123 K Kp) (initF (mkArgs [.one (.ptr), .one (.ptr), .one (.ptr), .one (.ptr)] x)) w := tieZ123 (F.mheap_Heap_back env) x K Kp w
noncomputable def D123 : EntryD := fun args pv w K => unArgs [.one (.ptr), .one (.ptr), .one (.ptr), .one (.ptr)] args.toList fun x => F.mheap_Heap_find_1 env x.1 x.2.1 x.2.2.1 x.2.2.2.1 (fun w' => K false w') w
theorem fitsD123 : FitsDOne Tryz.prog 123 D123 :=
 fitsD_plain (T := [(124, C124)]) (A := ann123) (fn := Tryz.f123) (c := body123) (l := [.one (.ptr), .one (.ptr), .one (.ptr), .one (.ptr)]) (F := fun (x : ArgsV [.one (.ptr), .one (.ptr), .one (.ptr), .one (.ptr)]) K w => F.mheap_Heap_find_1 env x.1 x.2.1 x.2.2.1 x.2.2.2.1 K w) (fits_cons fits124 fits_nil) mixed Tryz.func123 Tryz.call123 (by kernel_rfl) (by kernel_rfl) (by kernel_rfl) (fun x K w => tie123 x (fun _ w' => K w') noP w)
noncomputable def C100 : Entry := fun args w K Kp => unArgs [.one (.ptr), .one (.int .i64), .one (.int .u64)] args.toList fun x => F.mheap_Heap_find env x.1 x.2.1 x.2.2.1 (fun r1 r2 w' => K (.tuple ⟨[.int .u64 r1, .int .i64 r2]⟩) w') w
noncomputable def body100 : Code := (Tryz.f100.body).getD .skip
def ann100 : Ann := { loops := [], joins := [(7, [(6, .one (.int .u64))])] }
theorem tieZ100 (c_mheap_Heap_got : ∀ (a0 : (Option Addr)) (a1 : Int) (a2 : Int) (K : Int -> Bool -> World -> Prop) (w : World), Prop) (c_mheap_Heap_grow : ∀ (a0 : (Option Addr)) (a1 : Int) (K : Int -> World -> Prop) (w : World), Prop) (c_radix_Tree_Alloc : ∀ (a0 : (Option Addr)) (a1 : Int) (K : Int -> Int -> Int -> World -> Prop) (w : World), Prop) (c_vmem_Mem_Commit : ∀ (a0 : (Option Addr)) (a1 : Int) (a2 : Int) (K : Int -> World -> Prop) (w : World), Prop) (x : ArgsV [.one (.ptr), .one (.int .i64), .one (.int .u64)]) (K : Value -> World -> Prop) (w : World) : T0.mheap_Heap_find env c_mheap_Heap_got c_mheap_Heap_grow c_radix_Tree_Alloc c_vmem_Mem_Commit x.1 x.2.1 x.2.2.1 (fun r1 r2 w' => K (.tuple ⟨[.int .u64 r1, .int .i64 r2]⟩) w') w =
 evD Tryz.prog (tabC [(120, fun args w K Kp => unArgs [.one (.ptr), .one (.int .i64), .one (.int .u64)] args.toList fun x => c_mheap_Heap_got x.1 x.2.1 x.2.2.1 (fun r1 r2 w' => K (.tuple ⟨[.int .u64 r1, .bool r2]⟩) w') w), (121, fun args w K Kp => unArgs [.one (.ptr), .one (.int .u64)] args.toList fun x => c_mheap_Heap_grow x.1 x.2.1 (fun r1 w' => K (.int .i64 r1) w') w), (122, fun args w K Kp => unArgs [.one (.ptr), .one (.int .u64)] args.toList fun x => c_radix_Tree_Alloc x.1 x.2.1 (fun r1 r2 r3 w' => K (.tuple ⟨[.int .u64 r1, .int .u64 r2, .int .i64 r3]⟩) w') w), (125, fun args w K Kp => unArgs [.one (.ptr), .one (.int .u64), .one (.int .u64)] args.toList fun x => c_vmem_Mem_Commit x.1 x.2.1 x.2.2.1 (fun r1 w' => K (.int .i64 r1) w') w)]) (ground Tryz.prog) ann100 (finQ Tryz.prog Tryz.f100 K noP) (finD Tryz.prog Tryz.f100 (tabD [(123, D123)]) K noP) body100 (initF (mkArgs [.one (.ptr), .one (.int .i64), .one (.int .u64)] x)) w := by kernel_rfl
theorem tie100 (x : ArgsV [.one (.ptr), .one (.int .i64), .one (.int .u64)]) (K : Value -> World -> Prop) (w : World) : F.mheap_Heap_find env x.1 x.2.1 x.2.2.1 (fun r1 r2 w' => K (.tuple ⟨[.int .u64 r1, .int .i64 r2]⟩) w') w =
 evD Tryz.prog (tabC [(120, C120), (121, C121), (122, C122), (125, C125)]) (ground Tryz.prog) ann100 (finQ Tryz.prog Tryz.f100 K noP) (finD Tryz.prog Tryz.f100 (tabD [(123, D123)]) K noP) body100 (initF (mkArgs [.one (.ptr), .one (.int .i64), .one (.int .u64)] x)) w := tieZ100 (F.mheap_Heap_got env) (F.mheap_Heap_grow env) (F.radix_Tree_Alloc env) (F.vmem_Mem_Commit env) x K w
theorem fits100 : FitsOne Tryz.prog 100 C100 :=
 fits_of_tieD (T := [(120, C120), (121, C121), (122, C122), (125, C125)]) (TD := [(123, D123)]) (A := ann100) (fn := Tryz.f100) (c := body100) (fits_cons fits120 (fits_cons fits121 (fits_cons fits122 (fits_cons fits125 fits_nil)))) (fitsD_cons fitsD123 fitsD_nil) mixed Tryz.func100 Tryz.call100 (by kernel_rfl) (by kernel_rfl) (by kernel_rfl) tie100
def G126 (c : Y29) : Sem [.one (.ptr)] := fun x K Kp w => c x.1 (fun r1 w' => K (.int .i64 r1) w') w
def ann126 : Ann := { loops := [], joins := [(6, [(3, .one (.ptr))])] }
theorem Z126 : Tie Tryz.prog [] ann126 Tryz.f126 (G126 (F.fix_Fix_Take env)) := fun x K Kp w => by kernel_rfl
theorem fits126 : FitsOne Tryz.prog 126 (ent (G126 (F.fix_Fix_Take env))) := fits_of fits_nil mixed Tryz.func126 Tryz.call126 (by kernel_rfl) (by kernel_rfl) (by kernel_rfl) (Z126)
def G101 (c : Y71) : Sem [.one (.ptr), .one (.ptr)] := fun x K Kp w => c x.1 x.2.1 (fun r1 w' => K (.int .i64 r1) w') w
theorem Z101 (c0 : Y29) (c1 : Y14) (c2 : Y65) : Tie Tryz.prog [(126, ent (G126 c0)), (16, ent (G16 c1)), (127, ent (G127 c2))] ann0 Tryz.f101 (G101 (T0.mheap_Heap_keep env c0 c1 c2)) := fun x K Kp w => by kernel_rfl
theorem fits101 : FitsOne Tryz.prog 101 (ent (G101 (F.mheap_Heap_keep env))) := fits_of (fits_cons fits126 (fits_cons fits16 (fits_cons fits127 fits_nil))) mixed Tryz.func101 Tryz.call101 (by kernel_rfl) (by kernel_rfl) (by kernel_rfl) (Z101 _ _ _)
def G81 (c : Y78) : Sem [.one (.ptr), .one (.int .i64), .one (.int .u64), .one (.int .i64), .one (.bool)] := fun x K Kp w => c x.1 x.2.1 x.2.2.1 x.2.2.2.1 x.2.2.2.2.1 (fun r1 r2 w' => K (.tuple ⟨[.int .i64 r1, .int .i64 r2]⟩) w') w
theorem Z81 (c0 : Y70) (c1 : Y60) (c2 : Y71) : Tie Tryz.prog [(99, ent (G99 c0)), (100, fun args w K Kp => unArgs [.one (.ptr), .one (.int .i64), .one (.int .u64)] args.toList fun x => c1 x.1 x.2.1 x.2.2.1 (fun r1 r2 w' => K (.tuple ⟨[.int .u64 r1, .int .i64 r2]⟩) w') w), (101, ent (G101 c2))] ann0 Tryz.f81 (G81 (T0.mheap_Heap_Alloc env c0 c1 c2)) := fun x K Kp w => by kernel_rfl
theorem fits81 : FitsOne Tryz.prog 81 (ent (G81 (F.mheap_Heap_Alloc env))) := fits_of (fits_cons fits99 (fits_cons fits100 (fits_cons fits101 fits_nil))) mixed Tryz.func81 Tryz.call81 (by kernel_rfl) (by kernel_rfl) (by kernel_rfl) (Z81 _ _ _)
def G42 (c : Y55) : Sem [.one (.ptr), .agg [.int .i64, .int .i64, .bool]] := fun x K Kp w => c x.1 x.2.1.1 x.2.1.2.1 x.2.1.2.2.1 (fun r1 r2 r3 w' => K (.tuple ⟨[.int .i64 r1, .bool r2, .int .i64 r3]⟩) w') w
theorem Z42 (c0 : Y10) (c1 : Y4) (c2 : Y78) : Tie Tryz.prog [(13, ent (G13 c0)), (9, ent (G9 c1)), (81, ent (G81 c2))] ann0 Tryz.f42 (G42 (T0.central_Central_fresh env c0 c1 c2)) := fun x K Kp w => by kernel_rfl
theorem fits42 : FitsOne Tryz.prog 42 (ent (G42 (F.central_Central_fresh env))) := fits_of (fits_cons fits13 (fits_cons fits9 (fits_cons fits81 fits_nil))) mixed Tryz.func42 Tryz.call42 (by kernel_rfl) (by kernel_rfl) (by kernel_rfl) (Z42 _ _ _)
def G129 (c : Y87) : Sem [.one (.int .i64), .one (.ptr), .one (.ptr)] := fun x K Kp w => c x.1 x.2.1 x.2.2.1 (fun r1 w' => K (.bool r1) w') w
theorem Z129 : Tie Tryz.prog [] ann0 Tryz.f129 (G129 (F.sets_Sets_place_1 env)) := fun x K Kp w => by kernel_rfl
theorem fits129 : FitsOne Tryz.prog 129 (ent (G129 (F.sets_Sets_place_1 env))) := fits_of fits_nil mixed Tryz.func129 Tryz.call129 (by kernel_rfl) (by kernel_rfl) (by kernel_rfl) (Z129)
def G164 (c : Y40) : Sem [.one (.ptr), .one (.int .u64)] := fun x K Kp w => c x.1 x.2.1 (fun r1 w' => K (.pointer r1) w') w
def ann164 : Ann := { loops := [(7, [(25, .one (.int .i64))])], joins := [] }
theorem Z164 (c0 : Y20) (c1 : Y38) : Tie Tryz.prog [(103, ent (G103 c0)), (162, ent (G162 c1))] ann164 Tryz.f164 (G164 (T0.arena_Map_leaf env c0 c1)) := fun x K Kp w => by kernel_rfl
theorem fits164 : FitsOne Tryz.prog 164 (ent (G164 (F.arena_Map_leaf env))) := fits_of (fits_cons fits103 (fits_cons fits162 fits_nil)) mixed Tryz.func164 Tryz.call164 (by kernel_rfl) (by kernel_rfl) (by kernel_rfl) (Z164 _ _)
def G163 (c : Y83) : Sem [.one (.int .u64), .one (.int .u64), .one (.ptr), .one (.ptr)] := fun x K Kp w => c x.1 x.2.1 x.2.2.1 x.2.2.2.1 (fun  w' => K (.tuple ⟨[]⟩) w') w
def ann163 : Ann := { loops := [(1, [(6, .one (.int .u64))])], joins := [] }
theorem Z163 (c0 : Y40) : Tie Tryz.prog [(164, ent (G164 c0))] ann163 Tryz.f163 (G163 (T0.arena_Map_Set_1 env c0)) := fun x K Kp w => by kernel_rfl
theorem fits163 : FitsOne Tryz.prog 163 (ent (G163 (F.arena_Map_Set_1 env))) := fits_of (fits_cons fits164 fits_nil) mixed Tryz.func163 Tryz.call163 (by kernel_rfl) (by kernel_rfl) (by kernel_rfl) (Z163 _)
def G179 (c : Y87) : Sem [.one (.int .i64), .one (.ptr), .one (.ptr)] := fun x K Kp w => c x.1 x.2.1 x.2.2.1 (fun r1 w' => K (.bool r1) w') w
theorem Z179 : Tie Tryz.prog [] ann0 Tryz.f179 (G179 (F.stretch_Set_at_1 env)) := fun x K Kp w => by kernel_rfl
theorem fits179 : FitsOne Tryz.prog 179 (ent (G179 (F.stretch_Set_at_1 env))) := fits_of fits_nil mixed Tryz.func179 Tryz.call179 (by kernel_rfl) (by kernel_rfl) (by kernel_rfl) (Z179)
end Go.Sh

set_option linter.all false
namespace Go.Sh
theorem at1_mono {E : Env} {i : Int} {p1 p2 : Option Addr} {w : World} {K K' : Bool -> World -> Prop} (hk : ∀ b w', K b w' -> K' b w') (h : F.stretch_Set_at_1 E i p1 p2 K w) : F.stretch_Set_at_1 E i p1 p2 K' w := by
  unfold F.stretch_Set_at_1 at h ⊢
  obtain ⟨q1, rfl, x2, h2, h⟩ := NC_elim h
  obtain ⟨q3, rfl, x4, h4, h⟩ := NC_elim h
  obtain ⟨q5, h5, hi, x6, h6, h⟩ := NC_elim h
  obtain ⟨q7, rfl, x8, h8, h⟩ := NC_elim h
  refine ⟨some q3, h2, x4, h4, ?_⟩
  rw [h5]
  exact ⟨hi, x6, h6, x8, h8, hk _ _ h⟩
theorem ground_mono {P : Program} (g : FuncId) (args : Array Value) (w : World) (K K' : Value -> World -> Prop) (hk : ∀ v w', K v w' -> K' v w') (h : ground P g args w K noP) : ground P g args w K' noP :=
  ⟨h.1, h.2.mono fun e w' hE => let ⟨v, hv, h⟩ := hE.val; .inl ⟨v, hv, hk v w' h⟩⟩
end Go.Sh
