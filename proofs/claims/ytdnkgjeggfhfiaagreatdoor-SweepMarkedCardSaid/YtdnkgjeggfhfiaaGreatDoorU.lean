/- Each shallow form is what the code of its function comes to, piece 2. No further condition. -/
import Derived.Test.YtdnkgjeggfhfiaaGreatDoorT
import Derived.Test.YtdnkgjeggfhfiaaGreatDoorProg
import Derived.KernelRfl
set_option linter.all false
set_option maxRecDepth 100000
set_option maxHeartbeats 4000000
namespace Go.Sh
open Go.Proofs
def G48 (c : Y45) : Sem [.one (.ptr), .one (.int .i64), .one (.int .u64), .one (.int .i64), .one (.bool), .one (.bool), .one (.bool)] := fun x K Kp w => c x.1 x.2.1 x.2.2.1 x.2.2.2.1 x.2.2.2.2.1 x.2.2.2.2.2.1 x.2.2.2.2.2.2.1 (fun r1 w' => K (.int .i64 r1) w') w
def ann48 : Ann := { loops := [], joins := [(2, [(27, .one (.bool))]), (4, [(43, .one (.bool))])] }
theorem Z48 (c0 : Y44) : Tie Tryz.prog [(90, ent (G90 c0))] ann48 Tryz.f48 (G48 (T0.sets_Sets_Put env c0)) := fun x K Kp w => by kernel_rfl
theorem fits48 : FitsOne Tryz.prog 48 (ent (G48 (F.sets_Sets_Put env))) := fits_of (fits_cons fits90 fits_nil) mixed Tryz.func48 Tryz.call48 (by kernel_rfl) (by kernel_rfl) (by kernel_rfl) (Z48 _)
def G17 (c : Y46) : Sem [.one (.ptr), .one (.int .i64), .one (.bool)] := fun x K Kp w => c x.1 x.2.1 x.2.2.1 (fun r1 w' => K (.int .i64 r1) w') w
noncomputable def C17 : Entry := ent (G17 (F.sweep_Sweeper_Put env))
theorem Z17 (c0 : Y43) (c1 : Y45) : Tie Tryz.prog [(47, ent (G47 c0)), (48, ent (G48 c1))] ann0 Tryz.f17 (G17 (T0.sweep_Sweeper_Put env c0 c1)) := fun x K Kp w => by kernel_rfl
theorem fits17 : FitsOne Tryz.prog 17 (ent (G17 (F.sweep_Sweeper_Put env))) := fits_of (fits_cons fits47 (fits_cons fits48 fits_nil)) mixed Tryz.func17 Tryz.call17 (by kernel_rfl) (by kernel_rfl) (by kernel_rfl) (Z17 _ _)
def G22 (c : Y49) : Sem [.one (.ptr), .one (.bool)] := fun x K Kp w => c x.1 x.2.1 (fun r1 w' => K (.int .i64 r1) w') w
def ann22 : Ann := { loops := [(3, [(5, .one (.int .i64))])], joins := [(4, [(14, .one (.bool))])] }
theorem Z22 : Tie Tryz.prog [] ann22 Tryz.f22 (G22 (F.sets_Sets_Count env)) := fun x K Kp w => by kernel_rfl
theorem fits22 : FitsOne Tryz.prog 22 (ent (G22 (F.sets_Sets_Count env))) := fits_of fits_nil mixed Tryz.func22 Tryz.call22 (by kernel_rfl) (by kernel_rfl) (by kernel_rfl) (Z22)
def G100 (c : Y17) : Sem [.one (.ptr), .one (.int .u64)] := fun x K Kp w => c x.1 x.2.1 (fun r1 w' => K (.int .i64 r1) w') w
def ann100 : Ann := { loops := [(2, [(12, .one (.int .i64))])], joins := [(5, [(25, .one (.bool))])] }
theorem Z100 : Tie Tryz.prog [] ann100 Tryz.f100 (G100 (F.arena_Map_whole env)) := fun x K Kp w => by kernel_rfl
theorem fits100 : FitsOne Tryz.prog 100 (ent (G100 (F.arena_Map_whole env))) := fits_of fits_nil mixed Tryz.func100 Tryz.call100 (by kernel_rfl) (by kernel_rfl) (by kernel_rfl) (Z100)
def G58 (c : Y17) : Sem [.one (.ptr), .one (.int .u64)] := fun x K Kp w => c x.1 x.2.1 (fun r1 w' => K (.int .i64 r1) w') w
theorem Z58 (c0 : Y17) : Tie Tryz.prog [(100, ent (G100 c0))] ann0 Tryz.f58 (G58 (T0.arena_Map_At env c0)) := fun x K Kp w => by kernel_rfl
theorem fits58 : FitsOne Tryz.prog 58 (ent (G58 (F.arena_Map_At env))) := fits_of (fits_cons fits100 fits_nil) mixed Tryz.func58 Tryz.call58 (by kernel_rfl) (by kernel_rfl) (by kernel_rfl) (Z58 _)
def G23 (c : Y17) : Sem [.one (.ptr), .one (.int .u64)] := fun x K Kp w => c x.1 x.2.1 (fun r1 w' => K (.int .i64 r1) w') w
theorem Z23 (c0 : Y17) : Tie Tryz.prog [(58, ent (G58 c0))] ann0 Tryz.f23 (G23 (T0.mheap_Heap_Of env c0)) := fun x K Kp w => by kernel_rfl
theorem fits23 : FitsOne Tryz.prog 23 (ent (G23 (F.mheap_Heap_Of env))) := fits_of (fits_cons fits58 fits_nil) mixed Tryz.func23 Tryz.call23 (by kernel_rfl) (by kernel_rfl) (by kernel_rfl) (Z23 _)
def G91 (c : Y1) : Sem [.one (.int .u32), .one (.int .u32)] := fun x K Kp w => c x.1 x.2.1 (fun r1 w' => K (.int .u32 r1) w') w
theorem Z91 : Tie Tryz.prog [] ann0 Tryz.f91 (G91 (F.num_Quot env)) := fun x K Kp w => by kernel_rfl
theorem fits91 : FitsOne Tryz.prog 91 (ent (G91 (F.num_Quot env))) := fits_of fits_nil mixed Tryz.func91 Tryz.call91 (by kernel_rfl) (by kernel_rfl) (by kernel_rfl) (Z91)
def G49 (c : Y47) : Sem [.one (.ptr), .one (.int .u64)] := fun x K Kp w => c x.1 x.2.1 (fun r1 r2 w' => K (.tuple ⟨[.int .i64 r1, .int .i64 r2]⟩) w') w
def ann49 : Ann := { loops := [], joins := [(2, [(36, .one (.bool))])] }
theorem Z49 (c0 : Y1) : Tie Tryz.prog [(91, ent (G91 c0))] ann49 Tryz.f49 (G49 (T0.span_Span_Index env c0)) := fun x K Kp w => by kernel_rfl
theorem fits49 : FitsOne Tryz.prog 49 (ent (G49 (F.span_Span_Index env))) := fits_of (fits_cons fits91 fits_nil) mixed Tryz.func49 Tryz.call49 (by kernel_rfl) (by kernel_rfl) (by kernel_rfl) (Z49 _)
def G46 (c : Y48) : Sem [.one (.ptr), .one (.int .i64)] := fun x K Kp w => c x.1 x.2.1 (fun r1 w' => K (.bool r1) w') w
theorem Z46 : Tie Tryz.prog [] ann0 Tryz.f46 (G46 (F.span_Span_there env)) := fun x K Kp w => by kernel_rfl
theorem fits46 : FitsOne Tryz.prog 46 (ent (G46 (F.span_Span_there env))) := fits_of fits_nil mixed Tryz.func46 Tryz.call46 (by kernel_rfl) (by kernel_rfl) (by kernel_rfl) (Z46)
def G50 (c : Y17) : Sem [.one (.ptr), .one (.int .i64)] := fun x K Kp w => c x.1 x.2.1 (fun r1 w' => K (.int .i64 r1) w') w
theorem Z50 (c0 : Y48) (c1 : Y39) : Tie Tryz.prog [(46, ent (G46 c0)), (45, ent (G45 c1))] ann0 Tryz.f50 (G50 (T0.span_Span_Mark env c0 c1)) := fun x K Kp w => by kernel_rfl
theorem fits50 : FitsOne Tryz.prog 50 (ent (G50 (F.span_Span_Mark env))) := fits_of (fits_cons fits46 (fits_cons fits45 fits_nil)) mixed Tryz.func50 Tryz.call50 (by kernel_rfl) (by kernel_rfl) (by kernel_rfl) (Z50 _ _)
def G51 (c : Y35) : Sem [.one (.ptr)] := fun x K Kp w => c x.1 (fun r1 w' => K (.int .i64 r1) w') w
def ann51 : Ann := { loops := [(5, []), (9, [(25, .one (.int .i64))])], joins := [(6, [(18, .one (.bool))])] }
theorem Z51 (c0 : Y49) : Tie Tryz.prog [(22, ent (G22 c0))] ann51 Tryz.f51 (G51 (T0.sets_Sets_Flip env c0)) := fun x K Kp w => by kernel_rfl
theorem fits51 : FitsOne Tryz.prog 51 (ent (G51 (F.sets_Sets_Flip env))) := fits_of (fits_cons fits22 fits_nil) mixed Tryz.func51 Tryz.call51 (by kernel_rfl) (by kernel_rfl) (by kernel_rfl) (Z51 _)
def G18 (c : Y50) : Sem [.one (.ptr), .one (.sl)] := fun x K Kp w => c x.1 x.2.1 (fun r1 w' => K (.int .i64 r1) w') w
def ann18 : Ann := { loops := [(4, [(20, .one (.int .i64))])], joins := [] }
theorem Z18 (c0 : Y49) (c1 : Y17) (c2 : Y43) (c3 : Y47) (c4 : Y17) (c5 : Y35) : Tie Tryz.prog [(22, ent (G22 c0)), (23, ent (G23 c1)), (47, ent (G47 c2)), (49, ent (G49 c3)), (50, ent (G50 c4)), (51, ent (G51 c5))] ann18 Tryz.f18 (G18 (T0.sweep_Sweeper_Mark env c0 c1 c2 c3 c4 c5)) := fun x K Kp w => by kernel_rfl
theorem fits18 : FitsOne Tryz.prog 18 (ent (G18 (F.sweep_Sweeper_Mark env))) := fits_of (fits_cons fits22 (fits_cons fits23 (fits_cons fits47 (fits_cons fits49 (fits_cons fits50 (fits_cons fits51 fits_nil)))))) mixed Tryz.func18 Tryz.call18 (by kernel_rfl) (by kernel_rfl) (by kernel_rfl) (Z18 _ _ _ _ _ _)
def G52 (c : Y29) : Sem [.one (.ptr)] := fun x K Kp w => c x.1 (fun r1 r2 w' => K (.tuple ⟨[.int .i64 r1, .bool r2]⟩) w') w
def ann52 : Ann := { loops := [(3, [(4, .one (.ptr))])], joins := [(4, [(13, .one (.bool))]), (6, [(41, .one (.bool))])] }
theorem Z52 : Tie Tryz.prog [] ann52 Tryz.f52 (G52 (F.sets_Sets_Least env)) := fun x K Kp w => by kernel_rfl
theorem fits52 : FitsOne Tryz.prog 52 (ent (G52 (F.sets_Sets_Least env))) := fits_of fits_nil mixed Tryz.func52 Tryz.call52 (by kernel_rfl) (by kernel_rfl) (by kernel_rfl) (Z52)
def G53 (c : Y17) : Sem [.one (.ptr), .one (.int .i64)] := fun x K Kp w => c x.1 x.2.1 (fun r1 w' => K (.int .i64 r1) w') w
theorem Z53 (c0 : Y44) : Tie Tryz.prog [(90, ent (G90 c0))] ann0 Tryz.f53 (G53 (T0.sets_Sets_Remove env c0)) := fun x K Kp w => by kernel_rfl
theorem fits53 : FitsOne Tryz.prog 53 (ent (G53 (F.sets_Sets_Remove env))) := fits_of (fits_cons fits90 fits_nil) mixed Tryz.func53 Tryz.call53 (by kernel_rfl) (by kernel_rfl) (by kernel_rfl) (Z53 _)
def G19 (c : Y29) : Sem [.one (.ptr)] := fun x K Kp w => c x.1 (fun r1 r2 w' => K (.tuple ⟨[.int .i64 r1, .bool r2]⟩) w') w
theorem Z19 (c0 : Y29) (c1 : Y17) : Tie Tryz.prog [(52, ent (G52 c0)), (53, ent (G53 c1))] ann0 Tryz.f19 (G19 (T0.sweep_Sweeper_Next env c0 c1)) := fun x K Kp w => by kernel_rfl
theorem fits19 : FitsOne Tryz.prog 19 (ent (G19 (F.sweep_Sweeper_Next env))) := fits_of (fits_cons fits52 (fits_cons fits53 fits_nil)) mixed Tryz.func19 Tryz.call19 (by kernel_rfl) (by kernel_rfl) (by kernel_rfl) (Z19 _ _)
def G92 (c : Y22) : Sem [.one (.ptr)] := fun x K Kp w => c x.1 (fun r1 w' => K (.bool r1) w') w
def ann92 : Ann := { loops := [(2, [(10, .one (.int .i64))])], joins := [(6, [(4, .one (.int .u64))])] }
theorem Z92 : Tie Tryz.prog [] ann92 Tryz.f92 (G92 (F.span_Span_Zombie env)) := fun x K Kp w => by kernel_rfl
theorem fits92 : FitsOne Tryz.prog 92 (ent (G92 (F.span_Span_Zombie env))) := fits_of fits_nil mixed Tryz.func92 Tryz.call92 (by kernel_rfl) (by kernel_rfl) (by kernel_rfl) (Z92)
def G93 (c : Y30) : Sem [.one (.ptr), .one (.int .u64), .one (.int .u64)] := fun x K Kp w => c x.1 x.2.1 x.2.2.1 (fun r1 w' => K (.slice r1.base r1.len r1.cap) w') w
def ann93 : Ann := { loops := [(3, [(7, .one (.sl)), (8, .one (.ptr))])], joins := [] }
theorem Z93 (c0 : Y41) : Tie Tryz.prog [(59, ent (G59 c0))] ann93 Tryz.f93 (G93 (T0.special_Specials_Between env c0)) := fun x K Kp w => by kernel_rfl
theorem fits93 : FitsOne Tryz.prog 93 (ent (G93 (F.special_Specials_Between env))) := fits_of (fits_cons fits59 fits_nil) mixed Tryz.func93 Tryz.call93 (by kernel_rfl) (by kernel_rfl) (by kernel_rfl) (Z93 _)
def G62 (c : Y51) : Sem [.one (.sl), .one (.int .i64)] := fun x K Kp w => c x.1 x.2.1 (fun r1 w' => K (.bool r1) w') w
theorem Z62 : Tie Tryz.prog [] ann0 Tryz.f62 (G62 (F._span_row_get env)) := fun x K Kp w => by kernel_rfl
theorem fits62 : FitsOne Tryz.prog 62 (ent (G62 (F._span_row_get env))) := fits_of fits_nil mixed Tryz.func62 Tryz.call62 (by kernel_rfl) (by kernel_rfl) (by kernel_rfl) (Z62)
def G28 (c : Y48) : Sem [.one (.ptr), .one (.int .i64)] := fun x K Kp w => c x.1 x.2.1 (fun r1 w' => K (.bool r1) w') w
theorem Z28 (c0 : Y48) (c1 : Y51) : Tie Tryz.prog [(46, ent (G46 c0)), (62, ent (G62 c1))] ann0 Tryz.f28 (G28 (T0.span_Span_Used env c0 c1)) := fun x K Kp w => by kernel_rfl
theorem fits28 : FitsOne Tryz.prog 28 (ent (G28 (F.span_Span_Used env))) := fits_of (fits_cons fits46 (fits_cons fits62 fits_nil)) mixed Tryz.func28 Tryz.call28 (by kernel_rfl) (by kernel_rfl) (by kernel_rfl) (Z28 _ _)
def G94 (c : Y48) : Sem [.one (.ptr), .one (.int .i64)] := fun x K Kp w => c x.1 x.2.1 (fun r1 w' => K (.bool r1) w') w
theorem Z94 (c0 : Y48) (c1 : Y51) : Tie Tryz.prog [(46, ent (G46 c0)), (62, ent (G62 c1))] ann0 Tryz.f94 (G94 (T0.span_Span_Marked env c0 c1)) := fun x K Kp w => by kernel_rfl
theorem fits94 : FitsOne Tryz.prog 94 (ent (G94 (F.span_Span_Marked env))) := fits_of (fits_cons fits46 (fits_cons fits62 fits_nil)) mixed Tryz.func94 Tryz.call94 (by kernel_rfl) (by kernel_rfl) (by kernel_rfl) (Z94 _ _)
def G16 (c : Y47) : Sem [.one (.ptr), .one (.int .i64)] := fun x K Kp w => c x.1 x.2.1 (fun r1 r2 w' => K (.tuple ⟨[.int .u64 r1, .int .i64 r2]⟩) w') w
theorem Z16 (c0 : Y48) : Tie Tryz.prog [(46, ent (G46 c0))] ann0 Tryz.f16 (G16 (T0.span_Span_Slot env c0)) := fun x K Kp w => by kernel_rfl
theorem fits16 : FitsOne Tryz.prog 16 (ent (G16 (F.span_Span_Slot env))) := fits_of (fits_cons fits46 fits_nil) mixed Tryz.func16 Tryz.call16 (by kernel_rfl) (by kernel_rfl) (by kernel_rfl) (Z16 _)
def G95 (c : Y21) : Sem [.one (.ptr), .one (.int .u64), .one (.int .i64)] := fun x K Kp w => c x.1 x.2.1 x.2.2.1 (fun r1 r2 w' => K (.tuple ⟨[.int .u64 r1, .int .i64 r2]⟩) w') w
theorem Z95 (c0 : Y41) (c1 : Y27) : Tie Tryz.prog [(59, ent (G59 c0)), (60, ent (G60 c1))] ann0 Tryz.f95 (G95 (T0.special_Specials_Remove env c0 c1)) := fun x K Kp w => by kernel_rfl
theorem fits95 : FitsOne Tryz.prog 95 (ent (G95 (F.special_Specials_Remove env))) := fits_of (fits_cons fits59 (fits_cons fits60 fits_nil)) mixed Tryz.func95 Tryz.call95 (by kernel_rfl) (by kernel_rfl) (by kernel_rfl) (Z95 _ _)
def G130 (c : Y52) : Sem [.one (.ptr), .one (.int .u64)] := fun x K Kp w => c x.1 x.2.1 (fun r1 w' => K (.slice r1.base r1.len r1.cap) w') w
def ann130 : Ann := { loops := [(3, [(5, .one (.sl)), (6, .one (.ptr))])], joins := [] }
theorem Z130 (c0 : Y41) : Tie Tryz.prog [(59, ent (G59 c0))] ann130 Tryz.f130 (G130 (T0.special_Specials_Of env c0)) := fun x K Kp w => by kernel_rfl
theorem fits130 : FitsOne Tryz.prog 130 (ent (G130 (F.special_Specials_Of env))) := fits_of (fits_cons fits59 fits_nil) mixed Tryz.func130 Tryz.call130 (by kernel_rfl) (by kernel_rfl) (by kernel_rfl) (Z130 _)
def G96 (c : Y52) : Sem [.one (.ptr), .one (.int .u64)] := fun x K Kp w => c x.1 x.2.1 (fun r1 w' => K (.slice r1.base r1.len r1.cap) w') w
def ann96 : Ann := { loops := [(4, [(15, .one (.int .i64))])], joins := [] }
theorem Z96 (c0 : Y52) (c1 : Y41) : Tie Tryz.prog [(130, ent (G130 c0)), (59, ent (G59 c1))] ann96 Tryz.f96 (G96 (T0.special_Specials_Take env c0 c1)) := fun x K Kp w => by kernel_rfl
theorem fits96 : FitsOne Tryz.prog 96 (ent (G96 (F.special_Specials_Take env))) := fits_of (fits_cons fits130 (fits_cons fits59 fits_nil)) mixed Tryz.func96 Tryz.call96 (by kernel_rfl) (by kernel_rfl) (by kernel_rfl) (Z96 _ _)
def G55 (c : Y53) : Sem [.one (.ptr), .one (.ptr), .agg [.int .u64, .int .i64, .int .i64, .int .i64, .bool, .int .i64, .int .i64, .int .i64, .bool, .bool]] := fun x K Kp w => c x.1 x.2.1 x.2.2.1.1 x.2.2.1.2.1 x.2.2.1.2.2.1 x.2.2.1.2.2.2.1 x.2.2.1.2.2.2.2.1 x.2.2.1.2.2.2.2.2.1 x.2.2.1.2.2.2.2.2.2.1 x.2.2.1.2.2.2.2.2.2.2.1 x.2.2.1.2.2.2.2.2.2.2.2.1 x.2.2.1.2.2.2.2.2.2.2.2.2.1 (fun  w' => K (.tuple ⟨[]⟩) w') Kp w
noncomputable def C55 : Entry := ent (G55 (F.sweep_Sweeper_specials env))
def ann55 : Ann := { loops := [(5, [(33, .one (.int .i64))])], joins := [] }
theorem Z55 (c0 : Y22) (c1 : Y30) (c2 : Y48) (c3 : Y48) (c4 : Y47) (c5 : Y21) (c6 : Y17) (c7 : Y52) : Tie Tryz.prog [(92, ent (G92 c0)), (93, ent (G93 c1)), (28, ent (G28 c2)), (94, ent (G94 c3)), (16, ent (G16 c4)), (95, ent (G95 c5)), (50, ent (G50 c6)), (96, ent (G96 c7))] ann55 Tryz.f55 (G55 (T0.sweep_Sweeper_specials env c0 c1 c2 c3 c4 c5 c6 c7)) := fun x K Kp w => by kernel_rfl
theorem fits55 : FitsOne Tryz.prog 55 (ent (G55 (F.sweep_Sweeper_specials env))) := fits_of (fits_cons fits92 (fits_cons fits93 (fits_cons fits28 (fits_cons fits94 (fits_cons fits16 (fits_cons fits95 (fits_cons fits50 (fits_cons fits96 fits_nil)))))))) mixed Tryz.func55 Tryz.call55 (by kernel_rfl) (by kernel_rfl) (by kernel_rfl) (Z55 _ _ _ _ _ _ _ _)
def G56 (c : Y54) : Sem [.one (.ptr)] := fun x K Kp w => c x.1 (fun r1 r2 w' => K (.tuple ⟨[.slice r1.base r1.len r1.cap, .int .i64 r2]⟩) w') w
noncomputable def C56 : Entry := ent (G56 (F.span_Span_Sweep env))
def ann56 : Ann := { loops := [(7, [(4, .one (.sl)), (22, .one (.int .i64))]), (13, [(4, .one (.sl)), (6, .one (.int .u64))])], joins := [(12, [(6, .one (.int .u64))])] }
theorem Z56 (c0 : Y22) (c1 : Y2) : Tie Tryz.prog [(92, ent (G92 c0)), (89, ent (G89 c1))] ann56 Tryz.f56 (G56 (T0.span_Span_Sweep env c0 c1)) := fun x K Kp w => by kernel_rfl
theorem fits56 : FitsOne Tryz.prog 56 (ent (G56 (F.span_Span_Sweep env))) := fits_of (fits_cons fits92 (fits_cons fits89 fits_nil)) mixed Tryz.func56 Tryz.call56 (by kernel_rfl) (by kernel_rfl) (by kernel_rfl) (Z56 _ _)
def G97 (c : Y35) : Sem [.one (.ptr)] := fun x K Kp w => c x.1 (fun r1 w' => K (.int .i64 r1) w') w
def ann97 : Ann := { loops := [], joins := [(2, [(16, .one (.bool))])] }
theorem Z97 : Tie Tryz.prog [] ann97 Tryz.f97 (G97 (F.span_Span_Die env)) := fun x K Kp w => by kernel_rfl
theorem fits97 : FitsOne Tryz.prog 97 (ent (G97 (F.span_Span_Die env))) := fits_of fits_nil mixed Tryz.func97 Tryz.call97 (by kernel_rfl) (by kernel_rfl) (by kernel_rfl) (Z97)
def G132 (c : Y48) : Sem [.one (.ptr), .one (.int .i64)] := fun x K Kp w => c x.1 x.2.1 (fun r1 w' => K (.bool r1) w') w
theorem Z132 : Tie Tryz.prog [] ann0 Tryz.f132 (G132 (F.fix_Fix_Live env)) := fun x K Kp w => by kernel_rfl
theorem fits132 : FitsOne Tryz.prog 132 (ent (G132 (F.fix_Fix_Live env))) := fits_of fits_nil mixed Tryz.func132 Tryz.call132 (by kernel_rfl) (by kernel_rfl) (by kernel_rfl) (Z132)
def G99 (c : Y17) : Sem [.one (.ptr), .one (.int .i64)] := fun x K Kp w => c x.1 x.2.1 (fun r1 w' => K (.int .i64 r1) w') w
theorem Z99 (c0 : Y48) : Tie Tryz.prog [(132, ent (G132 c0))] ann0 Tryz.f99 (G99 (T0.fix_Fix_Give env c0)) := fun x K Kp w => by kernel_rfl
theorem fits99 : FitsOne Tryz.prog 99 (ent (G99 (F.fix_Fix_Give env))) := fits_of (fits_cons fits132 fits_nil) mixed Tryz.func99 Tryz.call99 (by kernel_rfl) (by kernel_rfl) (by kernel_rfl) (Z99 _)
def G57 (c : Y17) : Sem [.one (.ptr), .one (.int .i64)] := fun x K Kp w => c x.1 x.2.1 (fun r1 w' => K (.int .i64 r1) w') w
noncomputable def C57 : Entry := ent (G57 (F.mheap_Heap_Free env))
theorem Z57 (c0 : Y35) (c1 : Y36) (c2 : Y34) (c3 : Y18) (c4 : Y17) : Tie Tryz.prog [(97, ent (G97 c0)), (24, ent (G24 c1)), (88, ent (G88 c2)), (98, ent (G98 c3)), (99, ent (G99 c4))] ann0 Tryz.f57 (G57 (T0.mheap_Heap_Free env c0 c1 c2 c3 c4)) := fun x K Kp w => by kernel_rfl
theorem fits57 : FitsOne Tryz.prog 57 (ent (G57 (F.mheap_Heap_Free env))) := fits_of (fits_cons fits97 (fits_cons fits24 (fits_cons fits88 (fits_cons fits98 (fits_cons fits99 fits_nil))))) mixed Tryz.func57 Tryz.call57 (by kernel_rfl) (by kernel_rfl) (by kernel_rfl) (Z57 _ _ _ _ _)
noncomputable def D54 : EntryD := fun args pv w K => unArgs [.one (.ptr), .one (.ptr), .one (.ptr)] args.toList fun x => F.sweep_Sweeper_One_1 env x.1 x.2.1 x.2.2.1 (pv.getD .nilIface) (fun w' => K pv.isSome w') w
noncomputable def body54 : Code := (Tryz.f54.body).getD .skip
def ann54 : Ann := { loops := [], joins := [] }
noncomputable def rest54 : Code := ((recOf body54).map (·.2)).getD .skip
theorem tie54 (x : ArgsV [.one (.ptr), .one (.ptr), .one (.ptr)]) (v : Value) (K : World -> Prop) (w : World) : F.sweep_Sweeper_One_1 env x.1 x.2.1 x.2.2.1 v K w =
 ev Tryz.prog (tabC []) (ground Tryz.prog) ann54 rest54 (finQ Tryz.prog Tryz.f54 (fun _ w' => K w') noP) ((initF (mkArgs [.one (.ptr), .one (.ptr), .one (.ptr)] x)).put 6 v) w := by kernel_rfl
theorem fitsD54 : FitsDOne Tryz.prog 54 D54 :=
 fitsD_rec (T := []) (A := ann54) (fn := Tryz.f54) (c := body54) (y := rest54) (d := 6) (l := [.one (.ptr), .one (.ptr), .one (.ptr)]) (F := fun (x : ArgsV [.one (.ptr), .one (.ptr), .one (.ptr)]) v K w => F.sweep_Sweeper_One_1 env x.1 x.2.1 x.2.2.1 v K w) fits_nil mixed Tryz.func54 Tryz.call54 (by kernel_rfl) (by kernel_rfl) (by kernel_rfl) (by kernel_rfl) (by kernel_rfl) tie54
noncomputable def C20 : Entry := fun args w K Kp => unArgs [.one (.ptr), .one (.int .i64), .one (.bool)] args.toList fun x => F.sweep_Sweeper_One env x.1 x.2.1 x.2.2.1 (fun r1 r2 r3 w' => K (.tuple ⟨[.int .i64 r1, .bool r2, .int .i64 r3]⟩) w') w
noncomputable def body20 : Code := (Tryz.f20.body).getD .skip
def ann20 : Ann := { loops := [], joins := [(13, [(59, .one (.bool))]), (16, [])] }
theorem tieZ20 (c_sweep_Sweeper_use : ∀ (a0 : (Option Addr)) (a1 : Int) (K : (Option Addr) -> Int -> Int -> Int -> Int -> Bool -> Int -> Int -> Int -> Bool -> Bool -> Int -> World -> Prop) (w : World), Prop) (c_sweep_Sweeper_specials : ∀ (a0 : (Option Addr)) (a1 : (Option Addr)) (a2_0 : Int) (a2_1 : Int) (a2_2 : Int) (a2_3 : Int) (a2_4 : Bool) (a2_5 : Int) (a2_6 : Int) (a2_7 : Int) (a2_8 : Bool) (a2_9 : Bool) (K : World -> Prop) (Kp : Value -> World -> Prop) (w : World), Prop) (c_span_Span_Sweep : ∀ (a0 : (Option Addr)) (K : SlV -> Int -> World -> Prop) (w : World), Prop) (c_span_Span_Info : ∀ (a0 : (Option Addr)) (K : Int -> Int -> Int -> Int -> Bool -> Int -> Int -> Int -> Bool -> Bool -> World -> Prop) (w : World), Prop) (c_mheap_Heap_Free : ∀ (a0 : (Option Addr)) (a1 : Int) (K : Int -> World -> Prop) (w : World), Prop) (c_sweep_Sweeper_Put : ∀ (a0 : (Option Addr)) (a1 : Int) (a2 : Bool) (K : Int -> World -> Prop) (w : World), Prop) (x : ArgsV [.one (.ptr), .one (.int .i64), .one (.bool)]) (K : Value -> World -> Prop) (w : World) : T0.sweep_Sweeper_One env c_sweep_Sweeper_use c_sweep_Sweeper_specials c_span_Span_Sweep c_span_Span_Info c_mheap_Heap_Free c_sweep_Sweeper_Put x.1 x.2.1 x.2.2.1 (fun r1 r2 r3 w' => K (.tuple ⟨[.int .i64 r1, .bool r2, .int .i64 r3]⟩) w') w =
 evD Tryz.prog (tabC [(47, fun args w K Kp => unArgs [.one (.ptr), .one (.int .i64)] args.toList fun x => c_sweep_Sweeper_use x.1 x.2.1 (fun r1 r2 r3 r4 r5 r6 r7 r8 r9 r10 r11 r12 w' => K (.tuple ⟨[.pointer r1, .agg ⟨[.int .u64 r2, .int .i64 r3, .int .i64 r4, .int .i64 r5, .bool r6, .int .i64 r7, .int .i64 r8, .int .i64 r9, .bool r10, .bool r11]⟩, .int .i64 r12]⟩) w') w), (55, fun args w K Kp => unArgs [.one (.ptr), .one (.ptr), .agg [.int .u64, .int .i64, .int .i64, .int .i64, .bool, .int .i64, .int .i64, .int .i64, .bool, .bool]] args.toList fun x => c_sweep_Sweeper_specials x.1 x.2.1 x.2.2.1.1 x.2.2.1.2.1 x.2.2.1.2.2.1 x.2.2.1.2.2.2.1 x.2.2.1.2.2.2.2.1 x.2.2.1.2.2.2.2.2.1 x.2.2.1.2.2.2.2.2.2.1 x.2.2.1.2.2.2.2.2.2.2.1 x.2.2.1.2.2.2.2.2.2.2.2.1 x.2.2.1.2.2.2.2.2.2.2.2.2.1 (fun  w' => K (.tuple ⟨[]⟩) w') Kp w), (56, fun args w K Kp => unArgs [.one (.ptr)] args.toList fun x => c_span_Span_Sweep x.1 (fun r1 r2 w' => K (.tuple ⟨[.slice r1.base r1.len r1.cap, .int .i64 r2]⟩) w') w), (24, fun args w K Kp => unArgs [.one (.ptr)] args.toList fun x => c_span_Span_Info x.1 (fun r1 r2 r3 r4 r5 r6 r7 r8 r9 r10 w' => K (.agg ⟨[.int .u64 r1, .int .i64 r2, .int .i64 r3, .int .i64 r4, .bool r5, .int .i64 r6, .int .i64 r7, .int .i64 r8, .bool r9, .bool r10]⟩) w') w), (57, fun args w K Kp => unArgs [.one (.ptr), .one (.int .i64)] args.toList fun x => c_mheap_Heap_Free x.1 x.2.1 (fun r1 w' => K (.int .i64 r1) w') w), (17, fun args w K Kp => unArgs [.one (.ptr), .one (.int .i64), .one (.bool)] args.toList fun x => c_sweep_Sweeper_Put x.1 x.2.1 x.2.2.1 (fun r1 w' => K (.int .i64 r1) w') w)]) (ground Tryz.prog) ann20 (finQ Tryz.prog Tryz.f20 K noP) (finD Tryz.prog Tryz.f20 (tabD [(54, D54)]) K noP) body20 (initF (mkArgs [.one (.ptr), .one (.int .i64), .one (.bool)] x)) w := by kernel_rfl
theorem tie20 (x : ArgsV [.one (.ptr), .one (.int .i64), .one (.bool)]) (K : Value -> World -> Prop) (w : World) : F.sweep_Sweeper_One env x.1 x.2.1 x.2.2.1 (fun r1 r2 r3 w' => K (.tuple ⟨[.int .i64 r1, .bool r2, .int .i64 r3]⟩) w') w =
 evD Tryz.prog (tabC [(47, C47), (55, C55), (56, C56), (24, C24), (57, C57), (17, C17)]) (ground Tryz.prog) ann20 (finQ Tryz.prog Tryz.f20 K noP) (finD Tryz.prog Tryz.f20 (tabD [(54, D54)]) K noP) body20 (initF (mkArgs [.one (.ptr), .one (.int .i64), .one (.bool)] x)) w := tieZ20 (F.sweep_Sweeper_use env) (F.sweep_Sweeper_specials env) (F.span_Span_Sweep env) (F.span_Span_Info env) (F.mheap_Heap_Free env) (F.sweep_Sweeper_Put env) x K w
theorem fits20 : FitsOne Tryz.prog 20 C20 :=
 fits_of_tieD (T := [(47, C47), (55, C55), (56, C56), (24, C24), (57, C57), (17, C17)]) (TD := [(54, D54)]) (A := ann20) (fn := Tryz.f20) (c := body20) (fits_cons fits47 (fits_cons fits55 (fits_cons fits56 (fits_cons fits24 (fits_cons fits57 (fits_cons fits17 fits_nil)))))) (fitsD_cons fitsD54 fitsD_nil) mixed Tryz.func20 Tryz.call20 (by kernel_rfl) (by kernel_rfl) (by kernel_rfl) tie20
def G61 (c : Y5) : Sem [.one (.sl)] := fun x K Kp w => c x.1 (fun r1 w' => K (.slice r1.base r1.len r1.cap) w') w
theorem Z61 : Tie Tryz.prog [] ann0 Tryz.f61 (G61 (F.slices_Clone___api_Special_api_Special_ env)) := fun x K Kp w => by kernel_rfl
theorem fits61 : FitsOne Tryz.prog 61 (ent (G61 (F.slices_Clone___api_Special_api_Special_ env))) := fits_of fits_nil mixed Tryz.func61 Tryz.call61 (by kernel_rfl) (by kernel_rfl) (by kernel_rfl) (Z61)
def G26 (c : Y14) : Sem [.one (.ptr)] := fun x K Kp w => c x.1 (fun r1 w' => K (.slice r1.base r1.len r1.cap) w') w
theorem Z26 (c0 : Y5) : Tie Tryz.prog [(61, ent (G61 c0))] ann0 Tryz.f26 (G26 (T0.sweep_Sweeper_Emitted env c0)) := fun x K Kp w => by kernel_rfl
theorem fits26 : FitsOne Tryz.prog 26 (ent (G26 (F.sweep_Sweeper_Emitted env))) := fits_of (fits_cons fits61 fits_nil) mixed Tryz.func26 Tryz.call26 (by kernel_rfl) (by kernel_rfl) (by kernel_rfl) (Z26 _)
def G10 (c : Y56) : Sem [] := fun x K Kp w => c  (fun r1 w' => K (.bool r1) w') w
def ann10 : Ann := { loops := [], joins := [(7, [(41, .one (.bool))]), (11, [(62, .one (.bool))])] }
theorem Z10 (c0 : Y12) (c1 : Y10) (c2 : Y37) (c3 : Y42) (c4 : Y40) (c5 : Y36) (c6 : Y34) (c7 : Y46) (c8 : Y50) (c9 : Y29) (c10 : Y55) (c11 : Y14) : Tie Tryz.prog [(11, ent (G11 c0)), (12, ent (G12 c1)), (13, ent (G13 c2)), (14, ent (G14 c3)), (15, ent (G15 c4)), (24, ent (G24 c5)), (25, ent (G25 c6)), (17, ent (G17 c7)), (18, ent (G18 c8)), (19, ent (G19 c9)), (20, fun args w K Kp => unArgs [.one (.ptr), .one (.int .i64), .one (.bool)] args.toList fun x => c10 x.1 x.2.1 x.2.2.1 (fun r1 r2 r3 w' => K (.tuple ⟨[.int .i64 r1, .bool r2, .int .i64 r3]⟩) w') w), (26, ent (G26 c11))] ann10 Tryz.f10 (G10 (T0.mallowlaw18_awake env c0 c1 c2 c3 c4 c5 c6 c7 c8 c9 c10 c11)) := fun x K Kp w => by kernel_rfl
theorem fits10 : FitsOne Tryz.prog 10 (ent (G10 (F.mallowlaw18_awake env))) := fits_of (fits_cons fits11 (fits_cons fits12 (fits_cons fits13 (fits_cons fits14 (fits_cons fits15 (fits_cons fits24 (fits_cons fits25 (fits_cons fits17 (fits_cons fits18 (fits_cons fits19 (fits_cons fits20 (fits_cons fits26 fits_nil)))))))))))) mixed Tryz.func10 Tryz.call10 (by kernel_rfl) (by kernel_rfl) (by kernel_rfl) (Z10 _ _ _ _ _ _ _ _ _ _ _ _)
def G27 (c : Y35) : Sem [.one (.ptr)] := fun x K Kp w => c x.1 (fun r1 w' => K (.int .i64 r1) w') w
theorem Z27 : Tie Tryz.prog [] ann0 Tryz.f27 (G27 (F.special_Specials_Count env)) := fun x K Kp w => by kernel_rfl
theorem fits27 : FitsOne Tryz.prog 27 (ent (G27 (F.special_Specials_Count env))) := fits_of fits_nil mixed Tryz.func27 Tryz.call27 (by kernel_rfl) (by kernel_rfl) (by kernel_rfl) (Z27)
def G4 (c : Y58) : Sem [.one (.int .i64), .one (.int .i64), .one (.sl), .one (.sl), .one (.bool)] := fun x K Kp w => c x.1 x.2.1 x.2.2.1 x.2.2.2.1 x.2.2.2.2.1 (fun r1 w' => K (.bool r1) w') w
def ann4 : Ann := { loops := [(13, [(19, .one (.int .i64))]), (21, [(24, .one (.sl)), (25, .one (.int .i64))]), (28, [(27, .one (.int .i64))]), (36, [(26, .one (.int .i64)), (29, .one (.int .i64))]), (46, [(35, .one (.int .i64)), (36, .one (.int .i64)), (37, .one (.int .i64)), (38, .one (.int .i64))]), (58, [(39, .one (.int .i64))])], joins := [(3, [(75, .one (.bool))]), (10, [(113, .one (.bool))]), (17, [(133, .one (.bool))]), (19, [(22, .one (.sl)), (23, .one (.sl))]), (24, [(156, .one (.bool))]), (31, [(208, .one (.bool))]), (41, [(265, .one (.bool))]), (49, [(294, .one (.bool))]), (51, [(35, .one (.int .i64)), (36, .one (.int .i64))]), (52, [(309, .one (.bool))]), (54, [(348, .one (.bool))]), (56, [(353, .one (.bool))]), (61, [(373, .one (.bool))])] }
theorem Z4 (c0 : Y4) (c1 : Y56) (c2 : Y12) (c3 : Y10) (c4 : Y37) (c5 : Y42) (c6 : Y36) (c7 : Y40) (c8 : Y34) (c9 : Y46) (c10 : Y50) (c11 : Y29) (c12 : Y55) (c13 : Y14) (c14 : Y35) (c15 : Y48) : Tie Tryz.prog [(9, ent (G9 c0)), (10, ent (G10 c1)), (11, ent (G11 c2)), (12, ent (G12 c3)), (13, ent (G13 c4)), (14, ent (G14 c5)), (24, ent (G24 c6)), (15, ent (G15 c7)), (25, ent (G25 c8)), (17, ent (G17 c9)), (18, ent (G18 c10)), (19, ent (G19 c11)), (20, fun args w K Kp => unArgs [.one (.ptr), .one (.int .i64), .one (.bool)] args.toList fun x => c12 x.1 x.2.1 x.2.2.1 (fun r1 r2 r3 w' => K (.tuple ⟨[.int .i64 r1, .bool r2, .int .i64 r3]⟩) w') w), (26, ent (G26 c13)), (27, ent (G27 c14)), (28, ent (G28 c15))] ann4 Tryz.f4 (G4 (T0.mallowlaw18_SweepMarked env c0 c1 c2 c3 c4 c5 c6 c7 c8 c9 c10 c11 c12 c13 c14 c15)) := fun x K Kp w => by kernel_rfl
theorem fits4 : FitsOne Tryz.prog 4 (ent (G4 (F.mallowlaw18_SweepMarked env))) := fits_of (fits_cons fits9 (fits_cons fits10 (fits_cons fits11 (fits_cons fits12 (fits_cons fits13 (fits_cons fits14 (fits_cons fits24 (fits_cons fits15 (fits_cons fits25 (fits_cons fits17 (fits_cons fits18 (fits_cons fits19 (fits_cons fits20 (fits_cons fits26 (fits_cons fits27 (fits_cons fits28 fits_nil)))))))))))))))) mixed Tryz.func4 Tryz.call4 (by kernel_rfl) (by kernel_rfl) (by kernel_rfl) (Z4 _ _ _ _ _ _ _ _ _ _ _ _ _ _ _ _)
end Go.Sh
