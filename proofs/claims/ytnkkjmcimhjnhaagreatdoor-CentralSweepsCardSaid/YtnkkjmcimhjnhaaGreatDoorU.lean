/- Each shallow form is what the code of its function comes to, piece 2. No further condition. -/
import Derived.Test.YtnkkjmcimhjnhaaGreatDoorT
import Derived.Test.YtnkkjmcimhjnhaaGreatDoorProg
import Derived.KernelRfl
set_option linter.all false
set_option maxRecDepth 100000
set_option maxHeartbeats 4000000
namespace Go.Sh
open Go.Proofs
def G30 (c : Y10) : Sem [.one (.ptr)] := fun x K Kp w => c x.1 (fun r1 w' => K (.pointer r1) w') w
theorem Z30 : Tie Tryz.prog [] ann0 Tryz.f30 (G30 (F.sweep_Sweeper_Sets env)) := fun x K Kp w => by kernel_rfl
theorem fits30 : FitsOne Tryz.prog 30 (ent (G30 (F.sweep_Sweeper_Sets env))) := fits_of fits_nil mixed Tryz.func30 Tryz.call30 (by kernel_rfl) (by kernel_rfl) (by kernel_rfl) (Z30)
def G97 (c : Y20) : Sem [.one (.ptr), .one (.int .i64)] := fun x K Kp w => c x.1 x.2.1 (fun r1 w' => K (.int .i64 r1) w') w
theorem Z97 (c0 : Y17) : Tie Tryz.prog [(102, ent (G102 c0))] ann0 Tryz.f97 (G97 (T0.sets_Sets_Remove env c0)) := fun x K Kp w => by kernel_rfl
theorem fits97 : FitsOne Tryz.prog 97 (ent (G97 (F.sets_Sets_Remove env))) := fits_of (fits_cons fits102 fits_nil) mixed Tryz.func97 Tryz.call97 (by kernel_rfl) (by kernel_rfl) (by kernel_rfl) (Z97 _)
def G79 (c : Y54) : Sem [.one (.ptr), .one (.int .i64), .one (.bool), .one (.bool), .one (.bool)] := fun x K Kp w => c x.1 x.2.1 x.2.2.1 x.2.2.2.1 x.2.2.2.2.1 (fun r1 r2 w' => K (.tuple ⟨[.int .i64 r1, .bool r2]⟩) w') w
theorem Z79 (c0 : Y20) : Tie Tryz.prog [(97, ent (G97 c0))] ann0 Tryz.f79 (G79 (T0.sets_Sets_Take env c0)) := fun x K Kp w => by kernel_rfl
theorem fits79 : FitsOne Tryz.prog 79 (ent (G79 (F.sets_Sets_Take env))) := fits_of (fits_cons fits97 fits_nil) mixed Tryz.func79 Tryz.call79 (by kernel_rfl) (by kernel_rfl) (by kernel_rfl) (Z79 _)
def G39 (c : Y55) : Sem [.one (.ptr), .agg [.int .i64, .int .i64, .bool]] := fun x K Kp w => c x.1 x.2.1.1 x.2.1.2.1 x.2.1.2.2.1 (fun r1 r2 r3 w' => K (.tuple ⟨[.int .i64 r1, .bool r2, .int .i64 r3]⟩) w') w
theorem Z39 (c0 : Y10) (c1 : Y54) : Tie Tryz.prog [(30, ent (G30 c0)), (79, ent (G79 c1))] ann0 Tryz.f39 (G39 (T0.central_Central_swept env c0 c1)) := fun x K Kp w => by kernel_rfl
theorem fits39 : FitsOne Tryz.prog 39 (ent (G39 (F.central_Central_swept env))) := fits_of (fits_cons fits30 (fits_cons fits79 fits_nil)) mixed Tryz.func39 Tryz.call39 (by kernel_rfl) (by kernel_rfl) (by kernel_rfl) (Z39 _ _)
def G131 (c : Y31) : Sem [.one (.ptr)] := fun x K Kp w => c x.1 (fun r1 w' => K (.bool r1) w') w
def ann131 : Ann := { loops := [(2, [(10, .one (.int .i64))])], joins := [(6, [(4, .one (.int .u64))])] }
theorem Z131 : Tie Tryz.prog [] ann131 Tryz.f131 (G131 (F.span_Span_Zombie env)) := fun x K Kp w => by kernel_rfl
theorem fits131 : FitsOne Tryz.prog 131 (ent (G131 (F.span_Span_Zombie env))) := fits_of fits_nil mixed Tryz.func131 Tryz.call131 (by kernel_rfl) (by kernel_rfl) (by kernel_rfl) (Z131)
def G165 (c : Y56) : Sem [.one (.ptr), .one (.int .u64), .one (.int .i64)] := fun x K Kp w => c x.1 x.2.1 x.2.2.1 (fun r1 w' => K (.pointer r1) w') w
def ann165 : Ann := { loops := [(2, [(7, .one (.ptr))])], joins := [(3, [])] }
theorem Z165 : Tie Tryz.prog [] ann165 Tryz.f165 (G165 (F.special_Specials_at env)) := fun x K Kp w => by kernel_rfl
theorem fits165 : FitsOne Tryz.prog 165 (ent (G165 (F.special_Specials_at env))) := fits_of fits_nil mixed Tryz.func165 Tryz.call165 (by kernel_rfl) (by kernel_rfl) (by kernel_rfl) (Z165)
def G132 (c : Y57) : Sem [.one (.ptr), .one (.int .u64), .one (.int .u64)] := fun x K Kp w => c x.1 x.2.1 x.2.2.1 (fun r1 w' => K (.slice r1.base r1.len r1.cap) w') w
def ann132 : Ann := { loops := [(3, [(7, .one (.sl)), (8, .one (.ptr))])], joins := [] }
theorem Z132 (c0 : Y56) : Tie Tryz.prog [(165, ent (G165 c0))] ann132 Tryz.f132 (G132 (T0.special_Specials_Between env c0)) := fun x K Kp w => by kernel_rfl
theorem fits132 : FitsOne Tryz.prog 132 (ent (G132 (F.special_Specials_Between env))) := fits_of (fits_cons fits165 fits_nil) mixed Tryz.func132 Tryz.call132 (by kernel_rfl) (by kernel_rfl) (by kernel_rfl) (Z132 _)
def G166 (c : Y58) : Sem [.one (.sl), .one (.int .i64)] := fun x K Kp w => c x.1 x.2.1 (fun r1 w' => K (.bool r1) w') w
theorem Z166 : Tie Tryz.prog [] ann0 Tryz.f166 (G166 (F._span_row_get env)) := fun x K Kp w => by kernel_rfl
theorem fits166 : FitsOne Tryz.prog 166 (ent (G166 (F._span_row_get env))) := fits_of fits_nil mixed Tryz.func166 Tryz.call166 (by kernel_rfl) (by kernel_rfl) (by kernel_rfl) (Z166)
def G133 (c : Y26) : Sem [.one (.ptr), .one (.int .i64)] := fun x K Kp w => c x.1 x.2.1 (fun r1 w' => K (.bool r1) w') w
theorem Z133 (c0 : Y26) (c1 : Y58) : Tie Tryz.prog [(46, ent (G46 c0)), (166, ent (G166 c1))] ann0 Tryz.f133 (G133 (T0.span_Span_Used env c0 c1)) := fun x K Kp w => by kernel_rfl
theorem fits133 : FitsOne Tryz.prog 133 (ent (G133 (F.span_Span_Used env))) := fits_of (fits_cons fits46 (fits_cons fits166 fits_nil)) mixed Tryz.func133 Tryz.call133 (by kernel_rfl) (by kernel_rfl) (by kernel_rfl) (Z133 _ _)
def G134 (c : Y26) : Sem [.one (.ptr), .one (.int .i64)] := fun x K Kp w => c x.1 x.2.1 (fun r1 w' => K (.bool r1) w') w
theorem Z134 (c0 : Y26) (c1 : Y58) : Tie Tryz.prog [(46, ent (G46 c0)), (166, ent (G166 c1))] ann0 Tryz.f134 (G134 (T0.span_Span_Marked env c0 c1)) := fun x K Kp w => by kernel_rfl
theorem fits134 : FitsOne Tryz.prog 134 (ent (G134 (F.span_Span_Marked env))) := fits_of (fits_cons fits46 (fits_cons fits166 fits_nil)) mixed Tryz.func134 Tryz.call134 (by kernel_rfl) (by kernel_rfl) (by kernel_rfl) (Z134 _ _)
def G167 (c : Y59) : Sem [.one (.ptr), .one (.int .u64), .one (.int .i64)] := fun x K Kp w => c x.1 x.2.1 x.2.2.1 (fun r1 w' => K (.bool r1) w') w
theorem Z167 : Tie Tryz.prog [] ann0 Tryz.f167 (G167 (F.special_is env)) := fun x K Kp w => by kernel_rfl
theorem fits167 : FitsOne Tryz.prog 167 (ent (G167 (F.special_is env))) := fits_of fits_nil mixed Tryz.func167 Tryz.call167 (by kernel_rfl) (by kernel_rfl) (by kernel_rfl) (Z167)
def G135 (c : Y60) : Sem [.one (.ptr), .one (.int .u64), .one (.int .i64)] := fun x K Kp w => c x.1 x.2.1 x.2.2.1 (fun r1 r2 w' => K (.tuple ⟨[.int .u64 r1, .int .i64 r2]⟩) w') w
theorem Z135 (c0 : Y56) (c1 : Y59) : Tie Tryz.prog [(165, ent (G165 c0)), (167, ent (G167 c1))] ann0 Tryz.f135 (G135 (T0.special_Specials_Remove env c0 c1)) := fun x K Kp w => by kernel_rfl
theorem fits135 : FitsOne Tryz.prog 135 (ent (G135 (F.special_Specials_Remove env))) := fits_of (fits_cons fits165 (fits_cons fits167 fits_nil)) mixed Tryz.func135 Tryz.call135 (by kernel_rfl) (by kernel_rfl) (by kernel_rfl) (Z135 _ _)
def G168 (c : Y61) : Sem [.one (.ptr), .one (.int .u64)] := fun x K Kp w => c x.1 x.2.1 (fun r1 w' => K (.slice r1.base r1.len r1.cap) w') w
def ann168 : Ann := { loops := [(3, [(5, .one (.sl)), (6, .one (.ptr))])], joins := [] }
theorem Z168 (c0 : Y56) : Tie Tryz.prog [(165, ent (G165 c0))] ann168 Tryz.f168 (G168 (T0.special_Specials_Of env c0)) := fun x K Kp w => by kernel_rfl
theorem fits168 : FitsOne Tryz.prog 168 (ent (G168 (F.special_Specials_Of env))) := fits_of (fits_cons fits165 fits_nil) mixed Tryz.func168 Tryz.call168 (by kernel_rfl) (by kernel_rfl) (by kernel_rfl) (Z168 _)
def G136 (c : Y61) : Sem [.one (.ptr), .one (.int .u64)] := fun x K Kp w => c x.1 x.2.1 (fun r1 w' => K (.slice r1.base r1.len r1.cap) w') w
def ann136 : Ann := { loops := [(4, [(15, .one (.int .i64))])], joins := [] }
theorem Z136 (c0 : Y61) (c1 : Y56) : Tie Tryz.prog [(168, ent (G168 c0)), (165, ent (G165 c1))] ann136 Tryz.f136 (G136 (T0.special_Specials_Take env c0 c1)) := fun x K Kp w => by kernel_rfl
theorem fits136 : FitsOne Tryz.prog 136 (ent (G136 (F.special_Specials_Take env))) := fits_of (fits_cons fits168 (fits_cons fits165 fits_nil)) mixed Tryz.func136 Tryz.call136 (by kernel_rfl) (by kernel_rfl) (by kernel_rfl) (Z136 _ _)
def G107 (c : Y62) : Sem [.one (.ptr), .one (.ptr), .agg [.int .u64, .int .i64, .int .i64, .int .i64, .bool, .int .i64, .int .i64, .int .i64, .bool, .bool]] := fun x K Kp w => c x.1 x.2.1 x.2.2.1.1 x.2.2.1.2.1 x.2.2.1.2.2.1 x.2.2.1.2.2.2.1 x.2.2.1.2.2.2.2.1 x.2.2.1.2.2.2.2.2.1 x.2.2.1.2.2.2.2.2.2.1 x.2.2.1.2.2.2.2.2.2.2.1 x.2.2.1.2.2.2.2.2.2.2.2.1 x.2.2.1.2.2.2.2.2.2.2.2.2.1 (fun  w' => K (.tuple ⟨[]⟩) w') Kp w
noncomputable def C107 : Entry := ent (G107 (F.sweep_Sweeper_specials env))
def ann107 : Ann := { loops := [(5, [(33, .one (.int .i64))])], joins := [] }
theorem Z107 (c0 : Y31) (c1 : Y57) (c2 : Y26) (c3 : Y26) (c4 : Y27) (c5 : Y60) (c6 : Y20) (c7 : Y61) : Tie Tryz.prog [(131, ent (G131 c0)), (132, ent (G132 c1)), (133, ent (G133 c2)), (134, ent (G134 c3)), (19, ent (G19 c4)), (135, ent (G135 c5)), (50, ent (G50 c6)), (136, ent (G136 c7))] ann107 Tryz.f107 (G107 (T0.sweep_Sweeper_specials env c0 c1 c2 c3 c4 c5 c6 c7)) := fun x K Kp w => by kernel_rfl
theorem fits107 : FitsOne Tryz.prog 107 (ent (G107 (F.sweep_Sweeper_specials env))) := fits_of (fits_cons fits131 (fits_cons fits132 (fits_cons fits133 (fits_cons fits134 (fits_cons fits19 (fits_cons fits135 (fits_cons fits50 (fits_cons fits136 fits_nil)))))))) mixed Tryz.func107 Tryz.call107 (by kernel_rfl) (by kernel_rfl) (by kernel_rfl) (Z107 _ _ _ _ _ _ _ _)
def G108 (c : Y63) : Sem [.one (.ptr)] := fun x K Kp w => c x.1 (fun r1 r2 w' => K (.tuple ⟨[.slice r1.base r1.len r1.cap, .int .i64 r2]⟩) w') w
noncomputable def C108 : Entry := ent (G108 (F.span_Span_Sweep env))
def ann108 : Ann := { loops := [(7, [(4, .one (.sl)), (22, .one (.int .i64))]), (13, [(4, .one (.sl)), (6, .one (.int .u64))])], joins := [(12, [(6, .one (.int .u64))])] }
theorem Z108 (c0 : Y31) (c1 : Y2) : Tie Tryz.prog [(131, ent (G131 c0)), (82, ent (G82 c1))] ann108 Tryz.f108 (G108 (T0.span_Span_Sweep env c0 c1)) := fun x K Kp w => by kernel_rfl
theorem fits108 : FitsOne Tryz.prog 108 (ent (G108 (F.span_Span_Sweep env))) := fits_of (fits_cons fits131 (fits_cons fits82 fits_nil)) mixed Tryz.func108 Tryz.call108 (by kernel_rfl) (by kernel_rfl) (by kernel_rfl) (Z108 _ _)
def G137 (c : Y29) : Sem [.one (.ptr)] := fun x K Kp w => c x.1 (fun r1 w' => K (.int .i64 r1) w') w
def ann137 : Ann := { loops := [], joins := [(2, [(16, .one (.bool))])] }
theorem Z137 : Tie Tryz.prog [] ann137 Tryz.f137 (G137 (F.span_Span_Die env)) := fun x K Kp w => by kernel_rfl
theorem fits137 : FitsOne Tryz.prog 137 (ent (G137 (F.span_Span_Die env))) := fits_of fits_nil mixed Tryz.func137 Tryz.call137 (by kernel_rfl) (by kernel_rfl) (by kernel_rfl) (Z137)
def G178 (c : Y20) : Sem [.one (.ptr), .one (.int .u64)] := fun x K Kp w => c x.1 x.2.1 (fun r1 w' => K (.int .i64 r1) w') w
theorem Z178 (c0 : Y16) : Tie Tryz.prog [(128, ent (G128 c0))] ann0 Tryz.f178 (G178 (T0.stretch_Set_at env c0)) := fun x K Kp w => by kernel_rfl
theorem fits178 : FitsOne Tryz.prog 178 (ent (G178 (F.stretch_Set_at env))) := fits_of (fits_cons fits128 fits_nil) mixed Tryz.func178 Tryz.call178 (by kernel_rfl) (by kernel_rfl) (by kernel_rfl) (Z178 _)
def G156 (c : Y64) : Sem [.one (.ptr), .one (.int .u64), .one (.int .u64)] := fun x K Kp w => c x.1 x.2.1 x.2.2.1 (fun r1 w' => K (.int .u64 r1) w') w
def ann156 : Ann := { loops := [(3, [(7, .one (.int .u64)), (8, .one (.int .i64))])], joins := [] }
theorem Z156 (c0 : Y20) : Tie Tryz.prog [(178, ent (G178 c0))] ann156 Tryz.f156 (G156 (T0.stretch_Set_Count env c0)) := fun x K Kp w => by kernel_rfl
theorem fits156 : FitsOne Tryz.prog 156 (ent (G156 (F.stretch_Set_Count env))) := fits_of (fits_cons fits178 fits_nil) mixed Tryz.func156 Tryz.call156 (by kernel_rfl) (by kernel_rfl) (by kernel_rfl) (Z156 _)
def G162 (c : Y38) : Sem [.one (.ptr), .one (.int .u64), .one (.int .u64)] := fun x K Kp w => c x.1 x.2.1 x.2.2.1 (fun  w' => K (.tuple ⟨[]⟩) w') w
def ann162 : Ann := { loops := [(2, [(6, .one (.sl)), (16, .one (.int .i64))]), (14, []), (19, [(10, .one (.int .u64))])], joins := [(5, [(29, .one (.bool))]), (8, [(6, .one (.sl))]), (15, [(81, .one (.bool))]), (17, [(91, .one (.bool))])] }
theorem Z162 : Tie Tryz.prog [] ann162 Tryz.f162 (G162 (F.arena_Map_cut env)) := fun x K Kp w => by kernel_rfl
theorem fits162 : FitsOne Tryz.prog 162 (ent (G162 (F.arena_Map_cut env))) := fits_of fits_nil mixed Tryz.func162 Tryz.call162 (by kernel_rfl) (by kernel_rfl) (by kernel_rfl) (Z162)
def G127 (c : Y65) : Sem [.one (.ptr), .one (.int .u64), .one (.int .u64), .one (.int .i64)] := fun x K Kp w => c x.1 x.2.1 x.2.2.1 x.2.2.2.1 (fun r1 w' => K (.int .i64 r1) w') w
def ann127 : Ann := { loops := [], joins := [(2, [(20, .one (.bool))]), (4, [(28, .one (.bool))]), (14, [])] }
theorem Z127 (c0 : Y64) (c1 : Y38) : Tie Tryz.prog [(156, ent (G156 c0)), (162, ent (G162 c1))] ann127 Tryz.f127 (G127 (T0.arena_Map_Set env c0 c1)) := fun x K Kp w => by kernel_rfl
theorem fits127 : FitsOne Tryz.prog 127 (ent (G127 (F.arena_Map_Set env))) := fits_of (fits_cons fits156 (fits_cons fits162 fits_nil)) mixed Tryz.func127 Tryz.call127 (by kernel_rfl) (by kernel_rfl) (by kernel_rfl) (Z127 _ _)
def G177 (c : Y66) : Sem [.one (.ptr), .one (.int .u64), .one (.int .u64), .one (.bool), .one (.int .i64)] := fun x K Kp w => c x.1 x.2.1 x.2.2.1 x.2.2.2.1 x.2.2.2.2.1 (fun r1 w' => K (.int .i64 r1) w') w
def ann177 : Ann := { loops := [], joins := [(4, [(11, .one (.int .u64))]), (5, [(14, .one (.bool))])] }
theorem Z177 (c0 : Y64) : Tie Tryz.prog [(156, ent (G156 c0))] ann177 Tryz.f177 (G177 (T0.radix_Tree_looked env c0)) := fun x K Kp w => by kernel_rfl
theorem fits177 : FitsOne Tryz.prog 177 (ent (G177 (F.radix_Tree_looked env))) := fits_of (fits_cons fits156 fits_nil) mixed Tryz.func177 Tryz.call177 (by kernel_rfl) (by kernel_rfl) (by kernel_rfl) (Z177 _)
def G160 (c : Y38) : Sem [.one (.ptr), .one (.int .u64), .one (.int .u64)] := fun x K Kp w => c x.1 x.2.1 x.2.2.1 (fun  w' => K (.tuple ⟨[]⟩) w') w
def ann160 : Ann := { loops := [(5, [(7, .one (.int .i64)), (8, .one (.sl))])], joins := [(10, [(8, .one (.sl))]), (12, [(7, .one (.int .i64)), (8, .one (.sl))])] }
theorem Z160 (c0 : Y64) (c1 : Y20) : Tie Tryz.prog [(156, ent (G156 c0)), (178, ent (G178 c1))] ann160 Tryz.f160 (G160 (T0.stretch_Set_Cut env c0 c1)) := fun x K Kp w => by kernel_rfl
theorem fits160 : FitsOne Tryz.prog 160 (ent (G160 (F.stretch_Set_Cut env))) := fits_of (fits_cons fits156 (fits_cons fits178 fits_nil)) mixed Tryz.func160 Tryz.call160 (by kernel_rfl) (by kernel_rfl) (by kernel_rfl) (Z160 _ _)
def G161 (c : Y38) : Sem [.one (.ptr), .one (.int .u64), .one (.int .u64)] := fun x K Kp w => c x.1 x.2.1 x.2.2.1 (fun  w' => K (.tuple ⟨[]⟩) w') w
def ann161 : Ann := { loops := [], joins := [(7, [(51, .one (.bool))]), (9, [(8, .one (.int .i64))]), (10, [(77, .one (.bool))]), (12, [(6, .one (.int .i64))])] }
theorem Z161 (c0 : Y38) (c1 : Y20) : Tie Tryz.prog [(160, ent (G160 c0)), (178, ent (G178 c1))] ann161 Tryz.f161 (G161 (T0.stretch_Set_Add env c0 c1)) := fun x K Kp w => by kernel_rfl
theorem fits161 : FitsOne Tryz.prog 161 (ent (G161 (F.stretch_Set_Add env))) := fits_of (fits_cons fits160 (fits_cons fits178 fits_nil)) mixed Tryz.func161 Tryz.call161 (by kernel_rfl) (by kernel_rfl) (by kernel_rfl) (Z161 _ _)
def G169 (c : Y67) : Sem [.one (.ptr), .one (.int .u64), .one (.int .u64), .one (.ptr)] := fun x K Kp w => c x.1 x.2.1 x.2.2.1 x.2.2.2.1 (fun r1 w' => K (.int .i64 r1) w') w
theorem Z169 (c0 : Y66) (c1 : Y38) (c2 : Y7) : Tie Tryz.prog [(177, ent (G177 c0)), (161, ent (G161 c1)), (96, ent (G96 c2))] ann0 Tryz.f169 (G169 (T0.radix_Tree_freed env c0 c1 c2)) := fun x K Kp w => by kernel_rfl
theorem fits169 : FitsOne Tryz.prog 169 (ent (G169 (F.radix_Tree_freed env))) := fits_of (fits_cons fits177 (fits_cons fits161 (fits_cons fits96 fits_nil))) mixed Tryz.func169 Tryz.call169 (by kernel_rfl) (by kernel_rfl) (by kernel_rfl) (Z169 _ _ _)
def G138 (c : Y64) : Sem [.one (.ptr), .one (.int .u64), .one (.int .u64)] := fun x K Kp w => c x.1 x.2.1 x.2.2.1 (fun r1 w' => K (.int .i64 r1) w') w
theorem Z138 (c0 : Y67) : Tie Tryz.prog [(169, ent (G169 c0))] ann0 Tryz.f138 (G138 (T0.radix_Tree_Give env c0)) := fun x K Kp w => by kernel_rfl
theorem fits138 : FitsOne Tryz.prog 138 (ent (G138 (F.radix_Tree_Give env))) := fits_of (fits_cons fits169 fits_nil) mixed Tryz.func138 Tryz.call138 (by kernel_rfl) (by kernel_rfl) (by kernel_rfl) (Z138 _)
def G170 (c : Y26) : Sem [.one (.ptr), .one (.int .i64)] := fun x K Kp w => c x.1 x.2.1 (fun r1 w' => K (.bool r1) w') w
theorem Z170 : Tie Tryz.prog [] ann0 Tryz.f170 (G170 (F.fix_Fix_Live env)) := fun x K Kp w => by kernel_rfl
theorem fits170 : FitsOne Tryz.prog 170 (ent (G170 (F.fix_Fix_Live env))) := fits_of fits_nil mixed Tryz.func170 Tryz.call170 (by kernel_rfl) (by kernel_rfl) (by kernel_rfl) (Z170)
def G139 (c : Y20) : Sem [.one (.ptr), .one (.int .i64)] := fun x K Kp w => c x.1 x.2.1 (fun r1 w' => K (.int .i64 r1) w') w
theorem Z139 (c0 : Y26) : Tie Tryz.prog [(170, ent (G170 c0))] ann0 Tryz.f139 (G139 (T0.fix_Fix_Give env c0)) := fun x K Kp w => by kernel_rfl
theorem fits139 : FitsOne Tryz.prog 139 (ent (G139 (F.fix_Fix_Give env))) := fits_of (fits_cons fits170 fits_nil) mixed Tryz.func139 Tryz.call139 (by kernel_rfl) (by kernel_rfl) (by kernel_rfl) (Z139 _)
def G109 (c : Y20) : Sem [.one (.ptr), .one (.int .i64)] := fun x K Kp w => c x.1 x.2.1 (fun r1 w' => K (.int .i64 r1) w') w
noncomputable def C109 : Entry := ent (G109 (F.mheap_Heap_Free env))
theorem Z109 (c0 : Y29) (c1 : Y14) (c2 : Y65) (c3 : Y64) (c4 : Y20) : Tie Tryz.prog [(137, ent (G137 c0)), (16, ent (G16 c1)), (127, ent (G127 c2)), (138, ent (G138 c3)), (139, ent (G139 c4))] ann0 Tryz.f109 (G109 (T0.mheap_Heap_Free env c0 c1 c2 c3 c4)) := fun x K Kp w => by kernel_rfl
theorem fits109 : FitsOne Tryz.prog 109 (ent (G109 (F.mheap_Heap_Free env))) := fits_of (fits_cons fits137 (fits_cons fits16 (fits_cons fits127 (fits_cons fits138 (fits_cons fits139 fits_nil))))) mixed Tryz.func109 Tryz.call109 (by kernel_rfl) (by kernel_rfl) (by kernel_rfl) (Z109 _ _ _ _ _)
noncomputable def D106 : EntryD := fun args pv w K => unArgs [.one (.ptr), .one (.ptr), .one (.ptr)] args.toList fun x => F.sweep_Sweeper_One_1 env x.1 x.2.1 x.2.2.1 (pv.getD .nilIface) (fun w' => K pv.isSome w') w
noncomputable def body106 : Code := (Tryz.f106.body).getD .skip
def ann106 : Ann := { loops := [], joins := [] }
noncomputable def rest106 : Code := ((recOf body106).map (·.2)).getD .skip
theorem tie106 (x : ArgsV [.one (.ptr), .one (.ptr), .one (.ptr)]) (v : Value) (K : World -> Prop) (w : World) : F.sweep_Sweeper_One_1 env x.1 x.2.1 x.2.2.1 v K w =
 ev Tryz.prog (tabC []) (ground Tryz.prog) ann106 rest106 (finQ Tryz.prog Tryz.f106 (fun _ w' => K w') noP) ((initF (mkArgs [.one (.ptr), .one (.ptr), .one (.ptr)] x)).put 6 v) w := by kernel_rfl
theorem fitsD106 : FitsDOne Tryz.prog 106 D106 :=
 fitsD_rec (T := []) (A := ann106) (fn := Tryz.f106) (c := body106) (y := rest106) (d := 6) (l := [.one (.ptr), .one (.ptr), .one (.ptr)]) (F := fun (x : ArgsV [.one (.ptr), .one (.ptr), .one (.ptr)]) v K w => F.sweep_Sweeper_One_1 env x.1 x.2.1 x.2.2.1 v K w) fits_nil mixed Tryz.func106 Tryz.call106 (by kernel_rfl) (by kernel_rfl) (by kernel_rfl) (by kernel_rfl) (by kernel_rfl) tie106
noncomputable def C92 : Entry := fun args w K Kp => unArgs [.one (.ptr), .one (.int .i64), .one (.bool)] args.toList fun x => F.sweep_Sweeper_One env x.1 x.2.1 x.2.2.1 (fun r1 r2 r3 w' => K (.tuple ⟨[.int .i64 r1, .bool r2, .int .i64 r3]⟩) w') w
noncomputable def body92 : Code := (Tryz.f92.body).getD .skip
def ann92 : Ann := { loops := [], joins := [(13, [(59, .one (.bool))]), (16, [])] }
theorem tieZ92 (c_sweep_Sweeper_use : ∀ (a0 : (Option Addr)) (a1 : Int) (K : (Option Addr) -> Int -> Int -> Int -> Int -> Bool -> Int -> Int -> Int -> Bool -> Bool -> Int -> World -> Prop) (w : World), Prop) (c_sweep_Sweeper_specials : ∀ (a0 : (Option Addr)) (a1 : (Option Addr)) (a2_0 : Int) (a2_1 : Int) (a2_2 : Int) (a2_3 : Int) (a2_4 : Bool) (a2_5 : Int) (a2_6 : Int) (a2_7 : Int) (a2_8 : Bool) (a2_9 : Bool) (K : World -> Prop) (Kp : Value -> World -> Prop) (w : World), Prop) (c_span_Span_Sweep : ∀ (a0 : (Option Addr)) (K : SlV -> Int -> World -> Prop) (w : World), Prop) (c_span_Span_Info : ∀ (a0 : (Option Addr)) (K : Int -> Int -> Int -> Int -> Bool -> Int -> Int -> Int -> Bool -> Bool -> World -> Prop) (w : World), Prop) (c_mheap_Heap_Free : ∀ (a0 : (Option Addr)) (a1 : Int) (K : Int -> World -> Prop) (w : World), Prop) (c_sweep_Sweeper_Put : ∀ (a0 : (Option Addr)) (a1 : Int) (a2 : Bool) (K : Int -> World -> Prop) (w : World), Prop) (x : ArgsV [.one (.ptr), .one (.int .i64), .one (.bool)]) (K : Value -> World -> Prop) (w : World) : T0.sweep_Sweeper_One env c_sweep_Sweeper_use c_sweep_Sweeper_specials c_span_Span_Sweep c_span_Span_Info c_mheap_Heap_Free c_sweep_Sweeper_Put x.1 x.2.1 x.2.2.1 (fun r1 r2 r3 w' => K (.tuple ⟨[.int .i64 r1, .bool r2, .int .i64 r3]⟩) w') w =
 evD Tryz.prog (tabC [(47, fun args w K Kp => unArgs [.one (.ptr), .one (.int .i64)] args.toList fun x => c_sweep_Sweeper_use x.1 x.2.1 (fun r1 r2 r3 r4 r5 r6 r7 r8 r9 r10 r11 r12 w' => K (.tuple ⟨[.pointer r1, .agg ⟨[.int .u64 r2, .int .i64 r3, .int .i64 r4, .int .i64 r5, .bool r6, .int .i64 r7, .int .i64 r8, .int .i64 r9, .bool r10, .bool r11]⟩, .int .i64 r12]⟩) w') w), (107, fun args w K Kp => unArgs [.one (.ptr), .one (.ptr), .agg [.int .u64, .int .i64, .int .i64, .int .i64, .bool, .int .i64, .int .i64, .int .i64, .bool, .bool]] args.toList fun x => c_sweep_Sweeper_specials x.1 x.2.1 x.2.2.1.1 x.2.2.1.2.1 x.2.2.1.2.2.1 x.2.2.1.2.2.2.1 x.2.2.1.2.2.2.2.1 x.2.2.1.2.2.2.2.2.1 x.2.2.1.2.2.2.2.2.2.1 x.2.2.1.2.2.2.2.2.2.2.1 x.2.2.1.2.2.2.2.2.2.2.2.1 x.2.2.1.2.2.2.2.2.2.2.2.2.1 (fun  w' => K (.tuple ⟨[]⟩) w') Kp w), (108, fun args w K Kp => unArgs [.one (.ptr)] args.toList fun x => c_span_Span_Sweep x.1 (fun r1 r2 w' => K (.tuple ⟨[.slice r1.base r1.len r1.cap, .int .i64 r2]⟩) w') w), (16, fun args w K Kp => unArgs [.one (.ptr)] args.toList fun x => c_span_Span_Info x.1 (fun r1 r2 r3 r4 r5 r6 r7 r8 r9 r10 w' => K (.agg ⟨[.int .u64 r1, .int .i64 r2, .int .i64 r3, .int .i64 r4, .bool r5, .int .i64 r6, .int .i64 r7, .int .i64 r8, .bool r9, .bool r10]⟩) w') w), (109, fun args w K Kp => unArgs [.one (.ptr), .one (.int .i64)] args.toList fun x => c_mheap_Heap_Free x.1 x.2.1 (fun r1 w' => K (.int .i64 r1) w') w), (45, fun args w K Kp => unArgs [.one (.ptr), .one (.int .i64), .one (.bool)] args.toList fun x => c_sweep_Sweeper_Put x.1 x.2.1 x.2.2.1 (fun r1 w' => K (.int .i64 r1) w') w)]) (ground Tryz.prog) ann92 (finQ Tryz.prog Tryz.f92 K noP) (finD Tryz.prog Tryz.f92 (tabD [(106, D106)]) K noP) body92 (initF (mkArgs [.one (.ptr), .one (.int .i64), .one (.bool)] x)) w := by kernel_rfl
theorem tie92 (x : ArgsV [.one (.ptr), .one (.int .i64), .one (.bool)]) (K : Value -> World -> Prop) (w : World) : F.sweep_Sweeper_One env x.1 x.2.1 x.2.2.1 (fun r1 r2 r3 w' => K (.tuple ⟨[.int .i64 r1, .bool r2, .int .i64 r3]⟩) w') w =
 evD Tryz.prog (tabC [(47, C47), (107, C107), (108, C108), (16, C16), (109, C109), (45, C45)]) (ground Tryz.prog) ann92 (finQ Tryz.prog Tryz.f92 K noP) (finD Tryz.prog Tryz.f92 (tabD [(106, D106)]) K noP) body92 (initF (mkArgs [.one (.ptr), .one (.int .i64), .one (.bool)] x)) w := tieZ92 (F.sweep_Sweeper_use env) (F.sweep_Sweeper_specials env) (F.span_Span_Sweep env) (F.span_Span_Info env) (F.mheap_Heap_Free env) (F.sweep_Sweeper_Put env) x K w
theorem fits92 : FitsOne Tryz.prog 92 C92 :=
 fits_of_tieD (T := [(47, C47), (107, C107), (108, C108), (16, C16), (109, C109), (45, C45)]) (TD := [(106, D106)]) (A := ann92) (fn := Tryz.f92) (c := body92) (fits_cons fits47 (fits_cons fits107 (fits_cons fits108 (fits_cons fits16 (fits_cons fits109 (fits_cons fits45 fits_nil)))))) (fitsD_cons fitsD106 fitsD_nil) mixed Tryz.func92 Tryz.call92 (by kernel_rfl) (by kernel_rfl) (by kernel_rfl) tie92
def G98 (c : Y31) : Sem [.one (.ptr)] := fun x K Kp w => c x.1 (fun r1 w' => K (.bool r1) w') w
theorem Z98 : Tie Tryz.prog [] ann0 Tryz.f98 (G98 (F.span_Span_Full env)) := fun x K Kp w => by kernel_rfl
theorem fits98 : FitsOne Tryz.prog 98 (ent (G98 (F.span_Span_Full env))) := fits_of fits_nil mixed Tryz.func98 Tryz.call98 (by kernel_rfl) (by kernel_rfl) (by kernel_rfl) (Z98)
def G80 (c : Y69) : Sem [.one (.ptr), .agg [.int .i64, .int .i64, .bool], .one (.bool)] := fun x K Kp w => c x.1 x.2.1.1 x.2.1.2.1 x.2.1.2.2.1 x.2.2.1 (fun r1 r2 r3 w' => K (.tuple ⟨[.int .i64 r1, .bool r2, .int .i64 r3]⟩) w') w
def ann80 : Ann := { loops := [(1, [])], joins := [(9, [(61, .one (.bool))])] }
theorem Z80 (c0 : Y10) (c1 : Y54) (c2 : Y68) (c3 : Y10) (c4 : Y13) (c5 : Y31) : Tie Tryz.prog [(30, ent (G30 c0)), (79, ent (G79 c1)), (92, fun args w K Kp => unArgs [.one (.ptr), .one (.int .i64), .one (.bool)] args.toList fun x => c2 x.1 x.2.1 x.2.2.1 (fun r1 r2 r3 w' => K (.tuple ⟨[.int .i64 r1, .bool r2, .int .i64 r3]⟩) w') w), (13, ent (G13 c3)), (15, ent (G15 c4)), (98, ent (G98 c5))] ann80 Tryz.f80 (G80 (T0.central_Central_cleaned env c0 c1 c2 c3 c4 c5)) := fun x K Kp w => by kernel_rfl
theorem fits80 : FitsOne Tryz.prog 80 (ent (G80 (F.central_Central_cleaned env))) := fits_of (fits_cons fits30 (fits_cons fits79 (fits_cons fits92 (fits_cons fits13 (fits_cons fits15 (fits_cons fits98 fits_nil)))))) mixed Tryz.func80 Tryz.call80 (by kernel_rfl) (by kernel_rfl) (by kernel_rfl) (Z80 _ _ _ _ _ _)
end Go.Sh
