/- Each shallow form is what the code of its function comes to, piece 3. No further condition. -/
import Derived.Test.YtdnkgjeggfhfiaaGreatDoorU
import Derived.Test.YtdnkgjeggfhfiaaGreatDoorProg
import Derived.KernelRfl
import Derived.Test.YtdnkgjeggfhfiaaGreatDoorS
import Derived.Test.YtdnkgjeggfhfiaaGreatDoorA
import Derived.Calls
set_option linter.all false
set_option maxRecDepth 100000
set_option maxHeartbeats 4000000
namespace Go.Sh
open Go.Proofs
def G127 (c : Y74) : Sem [.one (.ptr), .one (.int .u64)] := fun x K Kp w => c x.1 x.2.1 (fun r1 w' => K (.pointer r1) w') w
def ann127 : Ann := { loops := [(7, [(25, .one (.int .i64))])], joins := [] }
theorem Z127 (c0 : Y17) (c1 : Y20) : Tie Tryz.prog [(100, ent (G100 c0)), (125, ent (G125 c1))] ann127 Tryz.f127 (G127 (T0.arena_Map_leaf env c0 c1)) := fun x K Kp w => by kernel_rfl
theorem fits127 : FitsOne Tryz.prog 127 (ent (G127 (F.arena_Map_leaf env))) := fits_of (fits_cons fits100 (fits_cons fits125 fits_nil)) mixed Tryz.func127 Tryz.call127 (by kernel_rfl) (by kernel_rfl) (by kernel_rfl) (Z127 _ _)
def G126 (c : Y75) : Sem [.one (.int .u64), .one (.int .u64), .one (.ptr), .one (.ptr)] := fun x K Kp w => c x.1 x.2.1 x.2.2.1 x.2.2.2.1 (fun  w' => K (.tuple ⟨[]⟩) w') w
def ann126 : Ann := { loops := [(1, [(6, .one (.int .u64))])], joins := [] }
theorem Z126 (c0 : Y74) : Tie Tryz.prog [(127, ent (G127 c0))] ann126 Tryz.f126 (G126 (T0.arena_Map_Set_1 env c0)) := fun x K Kp w => by kernel_rfl
theorem fits126 : FitsOne Tryz.prog 126 (ent (G126 (F.arena_Map_Set_1 env))) := fits_of (fits_cons fits127 fits_nil) mixed Tryz.func126 Tryz.call126 (by kernel_rfl) (by kernel_rfl) (by kernel_rfl) (Z126 _)
def G129 (c : Y79) : Sem [.one (.int .i64), .one (.ptr), .one (.ptr)] := fun x K Kp w => c x.1 x.2.1 x.2.2.1 (fun r1 w' => K (.bool r1) w') w
theorem Z129 : Tie Tryz.prog [] ann0 Tryz.f129 (G129 (F.sets_Sets_place_1 env)) := fun x K Kp w => by kernel_rfl
theorem fits129 : FitsOne Tryz.prog 129 (ent (G129 (F.sets_Sets_place_1 env))) := fits_of fits_nil mixed Tryz.func129 Tryz.call129 (by kernel_rfl) (by kernel_rfl) (by kernel_rfl) (Z129)
def G155 (c : Y79) : Sem [.one (.int .i64), .one (.ptr), .one (.ptr)] := fun x K Kp w => c x.1 x.2.1 x.2.2.1 (fun r1 w' => K (.bool r1) w') w
theorem Z155 : Tie Tryz.prog [] ann0 Tryz.f155 (G155 (F.stretch_Set_at_1 env)) := fun x K Kp w => by kernel_rfl
theorem fits155 : FitsOne Tryz.prog 155 (ent (G155 (F.stretch_Set_at_1 env))) := fits_of fits_nil mixed Tryz.func155 Tryz.call155 (by kernel_rfl) (by kernel_rfl) (by kernel_rfl) (Z155)
end Go.Sh

set_option linter.all false
namespace Go.Sh
theorem at1_mono {E : Env} {i : Int} {p1 p2 : Option Addr} {w : World} {K K' : Bool -> World -> Prop} (hk : ∀ b w', K b w' -> K' b w') (h : F.stretch_Set_at_1 E i p1 p2 K w) : F.stretch_Set_at_1 E i p1 p2 K' w := by
 unfold F.stretch_Set_at_1 at h ⊢
 obtain ⟨q1, rfl, x2, h2, h⟩ := NC_elim h
 obtain ⟨q3, rfl, x4, h4, h⟩ := NC_elim h
 obtain ⟨q5, h5, hi, x6, h6, h⟩ := NC_elim h
 obtain ⟨q7, rfl, x8, h8, h⟩ := NC_elim h
 refine ⟨some q3, h2, x4, h4, ?_⟩
 rw [h5]
 exact ⟨hi, x6, h6, x8, h8, hk _ _ h⟩
theorem ground_mono {P : Program} (g : FuncId) (args : Array Value) (w : World) (K K' : Value -> World -> Prop) (hk : ∀ v w', K v w' -> K' v w') (h : ground P g args w K noP) : ground P g args w K' noP :=
 ⟨h.1, h.2.mono fun e w' hE => let ⟨v, hv, h⟩ := hE.val; .inl ⟨v, hv, hk v w' h⟩⟩
end Go.Sh
