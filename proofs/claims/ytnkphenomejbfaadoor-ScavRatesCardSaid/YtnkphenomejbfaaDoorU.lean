/- Each shallow form is what the code of its function comes to: the second half. No further condition. -/
import Derived.Test.YtnkphenomejbfaaDoorT
import Derived.Test.YtnkphenomejbfaaDoorProg
import Derived.KernelRfl
import Derived.Test.YtnkphenomejbfaaDoorS
import Derived.Test.YtnkphenomejbfaaDoorA
import Derived.Calls
set_option linter.all false
set_option maxRecDepth 100000
set_option maxHeartbeats 4000000
namespace Go.Sh
open Go.Proofs

noncomputable def C76 : Entry := fun args w K Kp => unArgs [.one (.ptr), .one (.int .u64), .one (.int .u64)] args.toList fun x => F.vmem_Mem_Ready env x.1 x.2.1 x.2.2.1 (fun r1 w' => K (.slice r1.base r1.len r1.cap) w') w
noncomputable def body76 : Code := (Go.Proofs.Tryd.f76.body).getD .skip
def ann76 : Ann := { loops := [], joins := [] }
def T0.vmem_Mem_Ready (E : Env) (c_stretch_Set_Within : ∀ (a0 : (Option Addr)) (a1 : Int) (a2 : Int) (K : SlV → World → Prop) (w : World), Prop) (a0 : (Option Addr)) (a1 : Int) (a2 : Int) (K : SlV → World → Prop) (w : World) : Prop :=
 NC a0 fun p1 =>
 c_stretch_Set_Within (some (p1.add 5)) a1 a2 (fun r2 w3 =>
 K r2 w3
 ) w

theorem tieZ76 (c_stretch_Set_Within : ∀ (a0 : (Option Addr)) (a1 : Int) (a2 : Int) (K : SlV → World → Prop) (w : World), Prop) (x : ArgsV [.one (.ptr), .one (.int .u64), .one (.int .u64)]) (K Kp : Value → World → Prop) (w : World) : T0.vmem_Mem_Ready env c_stretch_Set_Within x.1 x.2.1 x.2.2.1 (fun r1 w' => K (.slice r1.base r1.len r1.cap) w') w =
 ev Go.Proofs.Tryd.prog (tabC [(80, fun args w K Kp => unArgs [.one (.ptr), .one (.int .u64), .one (.int .u64)] args.toList fun x => c_stretch_Set_Within x.1 x.2.1 x.2.2.1 (fun r1 w' => K (.slice r1.base r1.len r1.cap) w') w)]) (ground Go.Proofs.Tryd.prog) ann76 body76 (finQ Go.Proofs.Tryd.prog Go.Proofs.Tryd.f76 K Kp) (initF (mkArgs [.one (.ptr), .one (.int .u64), .one (.int .u64)] x)) w := by kernel_rfl
theorem tie76 (x : ArgsV [.one (.ptr), .one (.int .u64), .one (.int .u64)]) (K Kp : Value → World → Prop) (w : World) : F.vmem_Mem_Ready env x.1 x.2.1 x.2.2.1 (fun r1 w' => K (.slice r1.base r1.len r1.cap) w') w =
 ev Go.Proofs.Tryd.prog (tabC [(80, C80)]) (ground Go.Proofs.Tryd.prog) ann76 body76 (finQ Go.Proofs.Tryd.prog Go.Proofs.Tryd.f76 K Kp) (initF (mkArgs [.one (.ptr), .one (.int .u64), .one (.int .u64)] x)) w := tieZ76 (F.stretch_Set_Within env) x K Kp w
theorem fits76 : FitsOne Go.Proofs.Tryd.prog 76 C76 :=
 fits_of_tie (T := [(80, C80)]) (A := ann76) (fn := Go.Proofs.Tryd.f76) (c := body76) (fits_cons fits80 fits_nil) mixed Go.Proofs.Tryd.func76 Go.Proofs.Tryd.call76 (by kernel_rfl) (by kernel_rfl) (by kernel_rfl) tie76

noncomputable def C56 : Entry := fun args w K Kp => unArgs [.one (.ptr), .one (.int .u64), .one (.int .u64), .one (.ptr)] args.toList fun x => F.radix_Tree_freed env x.1 x.2.1 x.2.2.1 x.2.2.2.1 (fun r1 w' => K (.int .i64 r1) w') w
noncomputable def body56 : Code := (Go.Proofs.Tryd.f56.body).getD .skip
def ann56 : Ann := { loops := [], joins := [] }
def T0.radix_Tree_freed (E : Env) (c_radix_Tree_looked : ∀ (a0 : (Option Addr)) (a1 : Int) (a2 : Int) (a3 : Bool) (a4 : Int) (K : Int → World → Prop) (w : World), Prop) (c_stretch_Set_Add : ∀ (a0 : (Option Addr)) (a1 : Int) (a2 : Int) (K : World → Prop) (w : World), Prop) (c_radix_Tree_changed : ∀ (a0 : (Option Addr)) (K : World → Prop) (w : World), Prop) (a0 : (Option Addr)) (a1 : Int) (a2 : Int) (a3 : (Option Addr)) (K : Int → World → Prop) (w : World) : Prop :=
 c_radix_Tree_looked a0 a1 a2 false 31 (fun r1 w2 =>
 CND ((r1 : Int) != 0) (
 K r1 w2
 ) (
 NC a0 fun p3 =>
 c_stretch_Set_Add (some (p3.add 2)) a1 (u64 (a1 + a2)) (fun  w4 =>
 c_stretch_Set_Add a3 a1 (u64 (a1 + a2)) (fun  w5 =>
 c_radix_Tree_changed a0 (fun  w6 =>
 K 0 w6
 ) w5
 ) w4
 ) w2
 )
 ) w

theorem tieZ56 (c_radix_Tree_looked : ∀ (a0 : (Option Addr)) (a1 : Int) (a2 : Int) (a3 : Bool) (a4 : Int) (K : Int → World → Prop) (w : World), Prop) (c_stretch_Set_Add : ∀ (a0 : (Option Addr)) (a1 : Int) (a2 : Int) (K : World → Prop) (w : World), Prop) (c_radix_Tree_changed : ∀ (a0 : (Option Addr)) (K : World → Prop) (w : World), Prop) (x : ArgsV [.one (.ptr), .one (.int .u64), .one (.int .u64), .one (.ptr)]) (K Kp : Value → World → Prop) (w : World) : T0.radix_Tree_freed env c_radix_Tree_looked c_stretch_Set_Add c_radix_Tree_changed x.1 x.2.1 x.2.2.1 x.2.2.2.1 (fun r1 w' => K (.int .i64 r1) w') w =
 ev Go.Proofs.Tryd.prog (tabC [(85, fun args w K Kp => unArgs [.one (.ptr), .one (.int .u64), .one (.int .u64), .one (.bool), .one (.int .i64)] args.toList fun x => c_radix_Tree_looked x.1 x.2.1 x.2.2.1 x.2.2.2.1 x.2.2.2.2.1 (fun r1 w' => K (.int .i64 r1) w') w), (83, fun args w K Kp => unArgs [.one (.ptr), .one (.int .u64), .one (.int .u64)] args.toList fun x => c_stretch_Set_Add x.1 x.2.1 x.2.2.1 (fun  w' => K (.tuple ⟨[]⟩) w') w), (65, fun args w K Kp => unArgs [.one (.ptr)] args.toList fun x => c_radix_Tree_changed x.1 (fun  w' => K (.tuple ⟨[]⟩) w') w)]) (ground Go.Proofs.Tryd.prog) ann56 body56 (finQ Go.Proofs.Tryd.prog Go.Proofs.Tryd.f56 K Kp) (initF (mkArgs [.one (.ptr), .one (.int .u64), .one (.int .u64), .one (.ptr)] x)) w := by kernel_rfl
theorem tie56 (x : ArgsV [.one (.ptr), .one (.int .u64), .one (.int .u64), .one (.ptr)]) (K Kp : Value → World → Prop) (w : World) : F.radix_Tree_freed env x.1 x.2.1 x.2.2.1 x.2.2.2.1 (fun r1 w' => K (.int .i64 r1) w') w =
 ev Go.Proofs.Tryd.prog (tabC [(85, C85), (83, C83), (65, C65)]) (ground Go.Proofs.Tryd.prog) ann56 body56 (finQ Go.Proofs.Tryd.prog Go.Proofs.Tryd.f56 K Kp) (initF (mkArgs [.one (.ptr), .one (.int .u64), .one (.int .u64), .one (.ptr)] x)) w := tieZ56 (F.radix_Tree_looked env) (F.stretch_Set_Add env) (F.radix_Tree_changed env) x K Kp w
theorem fits56 : FitsOne Go.Proofs.Tryd.prog 56 C56 :=
 fits_of_tie (T := [(85, C85), (83, C83), (65, C65)]) (A := ann56) (fn := Go.Proofs.Tryd.f56) (c := body56) (fits_cons fits85 (fits_cons fits83 (fits_cons fits65 fits_nil))) mixed Go.Proofs.Tryd.func56 Go.Proofs.Tryd.call56 (by kernel_rfl) (by kernel_rfl) (by kernel_rfl) tie56

noncomputable def C77 : Entry := fun args w K Kp => unArgs [.one (.ptr), .one (.int .u64), .one (.int .u64)] args.toList fun x => F.radix_Tree_Back env x.1 x.2.1 x.2.2.1 (fun r1 w' => K (.int .i64 r1) w') w
noncomputable def body77 : Code := (Go.Proofs.Tryd.f77.body).getD .skip
def ann77 : Ann := { loops := [], joins := [] }
def T0.radix_Tree_Back (E : Env) (c_radix_Tree_freed : ∀ (a0 : (Option Addr)) (a1 : Int) (a2 : Int) (a3 : (Option Addr)) (K : Int → World → Prop) (w : World), Prop) (a0 : (Option Addr)) (a1 : Int) (a2 : Int) (K : Int → World → Prop) (w : World) : Prop :=
 NC a0 fun p1 =>
 c_radix_Tree_freed a0 a1 a2 (some (p1.add 4)) (fun r2 w3 =>
 K r2 w3
 ) w

theorem tieZ77 (c_radix_Tree_freed : ∀ (a0 : (Option Addr)) (a1 : Int) (a2 : Int) (a3 : (Option Addr)) (K : Int → World → Prop) (w : World), Prop) (x : ArgsV [.one (.ptr), .one (.int .u64), .one (.int .u64)]) (K Kp : Value → World → Prop) (w : World) : T0.radix_Tree_Back env c_radix_Tree_freed x.1 x.2.1 x.2.2.1 (fun r1 w' => K (.int .i64 r1) w') w =
 ev Go.Proofs.Tryd.prog (tabC [(56, fun args w K Kp => unArgs [.one (.ptr), .one (.int .u64), .one (.int .u64), .one (.ptr)] args.toList fun x => c_radix_Tree_freed x.1 x.2.1 x.2.2.1 x.2.2.2.1 (fun r1 w' => K (.int .i64 r1) w') w)]) (ground Go.Proofs.Tryd.prog) ann77 body77 (finQ Go.Proofs.Tryd.prog Go.Proofs.Tryd.f77 K Kp) (initF (mkArgs [.one (.ptr), .one (.int .u64), .one (.int .u64)] x)) w := by kernel_rfl
theorem tie77 (x : ArgsV [.one (.ptr), .one (.int .u64), .one (.int .u64)]) (K Kp : Value → World → Prop) (w : World) : F.radix_Tree_Back env x.1 x.2.1 x.2.2.1 (fun r1 w' => K (.int .i64 r1) w') w =
 ev Go.Proofs.Tryd.prog (tabC [(56, C56)]) (ground Go.Proofs.Tryd.prog) ann77 body77 (finQ Go.Proofs.Tryd.prog Go.Proofs.Tryd.f77 K Kp) (initF (mkArgs [.one (.ptr), .one (.int .u64), .one (.int .u64)] x)) w := tieZ77 (F.radix_Tree_freed env) x K Kp w
theorem fits77 : FitsOne Go.Proofs.Tryd.prog 77 C77 :=
 fits_of_tie (T := [(56, C56)]) (A := ann77) (fn := Go.Proofs.Tryd.f77) (c := body77) (fits_cons fits56 fits_nil) mixed Go.Proofs.Tryd.func77 Go.Proofs.Tryd.call77 (by kernel_rfl) (by kernel_rfl) (by kernel_rfl) tie77

noncomputable def C28 : Entry := fun args w K Kp => unArgs [.one (.ptr), .one (.int .u64), .one (.int .u64)] args.toList fun x => F.radix_Tree_Give env x.1 x.2.1 x.2.2.1 (fun r1 w' => K (.int .i64 r1) w') w
noncomputable def body28 : Code := (Go.Proofs.Tryd.f28.body).getD .skip
def ann28 : Ann := { loops := [], joins := [] }
def T0.radix_Tree_Give (E : Env) (c_radix_Tree_freed : ∀ (a0 : (Option Addr)) (a1 : Int) (a2 : Int) (a3 : (Option Addr)) (K : Int → World → Prop) (w : World), Prop) (a0 : (Option Addr)) (a1 : Int) (a2 : Int) (K : Int → World → Prop) (w : World) : Prop :=
 NC a0 fun p1 =>
 c_radix_Tree_freed a0 a1 a2 (some (p1.add 6)) (fun r2 w3 =>
 K r2 w3
 ) w

theorem tieZ28 (c_radix_Tree_freed : ∀ (a0 : (Option Addr)) (a1 : Int) (a2 : Int) (a3 : (Option Addr)) (K : Int → World → Prop) (w : World), Prop) (x : ArgsV [.one (.ptr), .one (.int .u64), .one (.int .u64)]) (K Kp : Value → World → Prop) (w : World) : T0.radix_Tree_Give env c_radix_Tree_freed x.1 x.2.1 x.2.2.1 (fun r1 w' => K (.int .i64 r1) w') w =
 ev Go.Proofs.Tryd.prog (tabC [(56, fun args w K Kp => unArgs [.one (.ptr), .one (.int .u64), .one (.int .u64), .one (.ptr)] args.toList fun x => c_radix_Tree_freed x.1 x.2.1 x.2.2.1 x.2.2.2.1 (fun r1 w' => K (.int .i64 r1) w') w)]) (ground Go.Proofs.Tryd.prog) ann28 body28 (finQ Go.Proofs.Tryd.prog Go.Proofs.Tryd.f28 K Kp) (initF (mkArgs [.one (.ptr), .one (.int .u64), .one (.int .u64)] x)) w := by kernel_rfl
theorem tie28 (x : ArgsV [.one (.ptr), .one (.int .u64), .one (.int .u64)]) (K Kp : Value → World → Prop) (w : World) : F.radix_Tree_Give env x.1 x.2.1 x.2.2.1 (fun r1 w' => K (.int .i64 r1) w') w =
 ev Go.Proofs.Tryd.prog (tabC [(56, C56)]) (ground Go.Proofs.Tryd.prog) ann28 body28 (finQ Go.Proofs.Tryd.prog Go.Proofs.Tryd.f28 K Kp) (initF (mkArgs [.one (.ptr), .one (.int .u64), .one (.int .u64)] x)) w := tieZ28 (F.radix_Tree_freed env) x K Kp w
theorem fits28 : FitsOne Go.Proofs.Tryd.prog 28 C28 :=
 fits_of_tie (T := [(56, C56)]) (A := ann28) (fn := Go.Proofs.Tryd.f28) (c := body28) (fits_cons fits56 fits_nil) mixed Go.Proofs.Tryd.func28 Go.Proofs.Tryd.call28 (by kernel_rfl) (by kernel_rfl) (by kernel_rfl) tie28

noncomputable def C49 : Entry := fun args w K Kp => unArgs [.one (.ptr), .one (.int .u64), .one (.int .u64)] args.toList fun x => F.mheap_Heap_back env x.1 x.2.1 x.2.2.1 (fun  w' => K (.tuple ⟨[]⟩) w') w
noncomputable def body49 : Code := (Go.Proofs.Tryd.f49.body).getD .skip
def ann49 : Ann := { loops := [(2, [(6, .one (.int .u64)), (20, .one (.int .i64))])], joins := [] }
def T0.mheap_Heap_back (E : Env) (c_vmem_Mem_Ready : ∀ (a0 : (Option Addr)) (a1 : Int) (a2 : Int) (K : SlV → World → Prop) (w : World), Prop) (c_radix_Tree_Back : ∀ (a0 : (Option Addr)) (a1 : Int) (a2 : Int) (K : Int → World → Prop) (w : World), Prop) (c_radix_Tree_Give : ∀ (a0 : (Option Addr)) (a1 : Int) (a2 : Int) (K : Int → World → Prop) (w : World), Prop) (a0 : (Option Addr)) (a1 : Int) (a2 : Int) (K : World → Prop) (w : World) : Prop :=
 NC a0 fun p1 =>
 ∃ x2 : (Option Addr), w.cell? p1 = some (.pointer x2) ∧
 c_vmem_Mem_Ready x2 a1 (u64 (a1 + a2)) (fun r3 w4 =>
 LOOP (Int × Int × Unit) (a1, 0, ()) w4 fun s5 _ w6 next7 =>
 CND (decide ((s5.2.1 : Int) < ((r3.len : Nat) : Int))) (
 NC r3.base fun p8 =>
 ((0 : Int) ≤ s5.2.1 ∧ (s5.2.1 : Int) < (r3.len : Nat)) ∧
 ∃ c9 : Int, w6.cell? ((p8.add (Int.toNat s5.2.1 * 2)).add 0) = some (.int .u64 c9) ∧
 ∃ c10 : Int, w6.cell? ((p8.add (Int.toNat s5.2.1 * 2)).add 1) = some (.int .u64 c10) ∧
 AL (.cells #[.int .u64 0, .int .u64 0] E.t_stretch_One) w6 fun b11 w12 =>
 stCells (Addr.mk b11 0 none) 0 [.int .u64 c9, .int .u64 c10] w12 fun w13 =>
 NC a0 fun p14 =>
 ∃ x15 : (Option Addr), w13.drew.cell? (p14.add 1) = some (.pointer x15) ∧
 ∃ x16 : Int, w13.drew.cell? (Addr.mk b11 0 none) = some (.int .u64 x16) ∧
 c_radix_Tree_Back x15 s5.1 (u64 (x16 - s5.1)) (fun r17 w18 =>
 w18.cell? (Addr.mk b11 0 none) = some (.int .u64 x16) ∧
 NC a0 fun p19 =>
 ∃ x20 : (Option Addr), w18.drew.cell? (p19.add 1) = some (.pointer x20) ∧
 ∃ x21 : Int, w18.drew.cell? (Addr.mk b11 0 none) = some (.int .u64 x21) ∧
 ∃ x22 : Int, w18.drew.cell? ((Addr.mk b11 0 none).add 1) = some (.int .u64 x22) ∧
 ∃ x23 : Int, w18.drew.cell? (Addr.mk b11 0 none) = some (.int .u64 x23) ∧
 c_radix_Tree_Give x20 x21 (u64 (x22 - x23)) (fun r24 w25 =>
 w25.cell? (Addr.mk b11 0 none) = some (.int .u64 x23) ∧
 w25.cell? ((Addr.mk b11 0 none).add 1) = some (.int .u64 x22) ∧
 ∃ x26 : Int, w25.cell? ((Addr.mk b11 0 none).add 1) = some (.int .u64 x26) ∧
 next7 (x26, i64 (s5.2.1 + 1), ()) w25
 ) w18.drew
 ) w13.drew
 ) (
 NC a0 fun p27 =>
 ∃ x28 : (Option Addr), w6.cell? (p27.add 1) = some (.pointer x28) ∧
 c_radix_Tree_Back x28 s5.1 (u64 ((u64 (a1 + a2)) - s5.1)) (fun r29 w30 =>
 K  w30
 ) w6
 )
 ) w

theorem tieZ49 (c_vmem_Mem_Ready : ∀ (a0 : (Option Addr)) (a1 : Int) (a2 : Int) (K : SlV → World → Prop) (w : World), Prop) (c_radix_Tree_Back : ∀ (a0 : (Option Addr)) (a1 : Int) (a2 : Int) (K : Int → World → Prop) (w : World), Prop) (c_radix_Tree_Give : ∀ (a0 : (Option Addr)) (a1 : Int) (a2 : Int) (K : Int → World → Prop) (w : World), Prop) (x : ArgsV [.one (.ptr), .one (.int .u64), .one (.int .u64)]) (K Kp : Value → World → Prop) (w : World) : T0.mheap_Heap_back env c_vmem_Mem_Ready c_radix_Tree_Back c_radix_Tree_Give x.1 x.2.1 x.2.2.1 (fun  w' => K (.tuple ⟨[]⟩) w') w =
 ev Go.Proofs.Tryd.prog (tabC [(76, fun args w K Kp => unArgs [.one (.ptr), .one (.int .u64), .one (.int .u64)] args.toList fun x => c_vmem_Mem_Ready x.1 x.2.1 x.2.2.1 (fun r1 w' => K (.slice r1.base r1.len r1.cap) w') w), (77, fun args w K Kp => unArgs [.one (.ptr), .one (.int .u64), .one (.int .u64)] args.toList fun x => c_radix_Tree_Back x.1 x.2.1 x.2.2.1 (fun r1 w' => K (.int .i64 r1) w') w), (28, fun args w K Kp => unArgs [.one (.ptr), .one (.int .u64), .one (.int .u64)] args.toList fun x => c_radix_Tree_Give x.1 x.2.1 x.2.2.1 (fun r1 w' => K (.int .i64 r1) w') w)]) (ground Go.Proofs.Tryd.prog) ann49 body49 (finQ Go.Proofs.Tryd.prog Go.Proofs.Tryd.f49 K Kp) (initF (mkArgs [.one (.ptr), .one (.int .u64), .one (.int .u64)] x)) w := by kernel_rfl
theorem tie49 (x : ArgsV [.one (.ptr), .one (.int .u64), .one (.int .u64)]) (K Kp : Value → World → Prop) (w : World) : F.mheap_Heap_back env x.1 x.2.1 x.2.2.1 (fun  w' => K (.tuple ⟨[]⟩) w') w =
 ev Go.Proofs.Tryd.prog (tabC [(76, C76), (77, C77), (28, C28)]) (ground Go.Proofs.Tryd.prog) ann49 body49 (finQ Go.Proofs.Tryd.prog Go.Proofs.Tryd.f49 K Kp) (initF (mkArgs [.one (.ptr), .one (.int .u64), .one (.int .u64)] x)) w := tieZ49 (F.vmem_Mem_Ready env) (F.radix_Tree_Back env) (F.radix_Tree_Give env) x K Kp w
theorem fits49 : FitsOne Go.Proofs.Tryd.prog 49 C49 :=
 fits_of_tie (T := [(76, C76), (77, C77), (28, C28)]) (A := ann49) (fn := Go.Proofs.Tryd.f49) (c := body49) (fits_cons fits76 (fits_cons fits77 (fits_cons fits28 fits_nil))) mixed Go.Proofs.Tryd.func49 Go.Proofs.Tryd.call49 (by kernel_rfl) (by kernel_rfl) (by kernel_rfl) tie49

noncomputable def body48 : Code := (Go.Proofs.Tryd.f48.body).getD .skip
def ann48 : Ann := { loops := [], joins := [] }
def T0.mheap_Heap_find_1 (E : Env) (c_mheap_Heap_back : ∀ (a0 : (Option Addr)) (a1 : Int) (a2 : Int) (K : World → Prop) (w : World), Prop) (a0 : (Option Addr)) (a1 : (Option Addr)) (a2 : (Option Addr)) (a3 : (Option Addr)) (K : World → Prop) (w : World) : Prop :=
 NC a0 fun p1 =>
 ∃ x2 : Int, w.cell? p1 = some (.int .i64 x2) ∧
 CND ((x2 : Int) != 0) (
 NC a1 fun p3 =>
 ∃ x4 : (Option Addr), w.cell? p3 = some (.pointer x4) ∧
 NC a2 fun p5 =>
 ∃ x6 : Int, w.cell? p5 = some (.int .u64 x6) ∧
 NC a3 fun p7 =>
 ∃ x8 : Int, w.cell? p7 = some (.int .u64 x8) ∧
 c_mheap_Heap_back x4 x6 x8 (fun  w9 =>
 K  w9
 ) w
 ) (
 K  w
 )

theorem tieZ48 (c_mheap_Heap_back : ∀ (a0 : (Option Addr)) (a1 : Int) (a2 : Int) (K : World → Prop) (w : World), Prop) (x : ArgsV [.one (.ptr), .one (.ptr), .one (.ptr), .one (.ptr)]) (K Kp : Value → World → Prop) (w : World) : T0.mheap_Heap_find_1 env c_mheap_Heap_back x.1 x.2.1 x.2.2.1 x.2.2.2.1 (fun  w' => K (.tuple ⟨[]⟩) w') w =
 ev Go.Proofs.Tryd.prog (tabC [(49, fun args w K Kp => unArgs [.one (.ptr), .one (.int .u64), .one (.int .u64)] args.toList fun x => c_mheap_Heap_back x.1 x.2.1 x.2.2.1 (fun  w' => K (.tuple ⟨[]⟩) w') w)]) (ground Go.Proofs.Tryd.prog) ann48 body48 (finQ Go.Proofs.Tryd.prog Go.Proofs.Tryd.f48 K Kp) (initF (mkArgs [.one (.ptr), .one (.ptr), .one (.ptr), .one (.ptr)] x)) w := by kernel_rfl
theorem tie48 (x : ArgsV [.one (.ptr), .one (.ptr), .one (.ptr), .one (.ptr)]) (K Kp : Value → World → Prop) (w : World) : F.mheap_Heap_find_1 env x.1 x.2.1 x.2.2.1 x.2.2.2.1 (fun  w' => K (.tuple ⟨[]⟩) w') w =
 ev Go.Proofs.Tryd.prog (tabC [(49, C49)]) (ground Go.Proofs.Tryd.prog) ann48 body48 (finQ Go.Proofs.Tryd.prog Go.Proofs.Tryd.f48 K Kp) (initF (mkArgs [.one (.ptr), .one (.ptr), .one (.ptr), .one (.ptr)] x)) w := tieZ48 (F.mheap_Heap_back env) x K Kp w
noncomputable def D48 : EntryD := fun args pv w K => unArgs [.one (.ptr), .one (.ptr), .one (.ptr), .one (.ptr)] args.toList fun x => F.mheap_Heap_find_1 env x.1 x.2.1 x.2.2.1 x.2.2.2.1 (fun w' => K false w') w
theorem fitsD48 : FitsDOne Go.Proofs.Tryd.prog 48 D48 :=
 fitsD_plain (T := [(49, C49)]) (A := ann48) (fn := Go.Proofs.Tryd.f48) (c := body48) (l := [.one (.ptr), .one (.ptr), .one (.ptr), .one (.ptr)]) (F := fun (x : ArgsV [.one (.ptr), .one (.ptr), .one (.ptr), .one (.ptr)]) K w => F.mheap_Heap_find_1 env x.1 x.2.1 x.2.2.1 x.2.2.2.1 K w) (fits_cons fits49 fits_nil) mixed Go.Proofs.Tryd.func48 Go.Proofs.Tryd.call48 (by kernel_rfl) (by kernel_rfl) (by kernel_rfl) (fun x K w => tie48 x (fun _ w' => K w') noP w)

noncomputable def C24 : Entry := fun args w K Kp => unArgs [.one (.ptr), .one (.int .i64), .one (.int .u64)] args.toList fun x => F.mheap_Heap_find env x.1 x.2.1 x.2.2.1 (fun r1 r2 w' => K (.tuple ⟨[.int .u64 r1, .int .i64 r2]⟩) w') w
noncomputable def body24 : Code := (Go.Proofs.Tryd.f24.body).getD .skip
def ann24 : Ann := { loops := [], joins := [(7, [(6, .one (.int .u64))])] }
def T0.mheap_Heap_find (E : Env) (c_mheap_Heap_got : ∀ (a0 : (Option Addr)) (a1 : Int) (a2 : Int) (K : Int → Bool → World → Prop) (w : World), Prop) (c_mheap_Heap_grow : ∀ (a0 : (Option Addr)) (a1 : Int) (K : Int → World → Prop) (w : World), Prop) (c_radix_Tree_Alloc : ∀ (a0 : (Option Addr)) (a1 : Int) (K : Int → Int → Int → World → Prop) (w : World), Prop) (c_vmem_Mem_Commit : ∀ (a0 : (Option Addr)) (a1 : Int) (a2 : Int) (K : Int → World → Prop) (w : World), Prop) (a0 : (Option Addr)) (a1 : Int) (a2 : Int) (K : Int → Int → World → Prop) (w : World) : Prop :=
 AL (.cells #[.pointer a0] E.t__mheap_Heap) w fun b1 w2 =>
 AL (.cells #[.int .u64 a2] E.t_uint64) w2 fun b3 w4 =>
 AL (.cells #[.int .i64 0] E.t_api_Errno) w4 fun b5 w6 =>
 ∃ x7 : (Option Addr), w6.cell? (Addr.mk b1 0 none) = some (.pointer x7) ∧
 ∃ x8 : Int, w6.cell? (Addr.mk b3 0 none) = some (.int .u64 x8) ∧
 c_mheap_Heap_got x7 a1 x8 (fun r9 r10 w11 =>
 JOIN (Int × Unit) (fun J12 =>
 CND (!r10) (
 ∃ x15 : (Option Addr), w11.cell? (Addr.mk b1 0 none) = some (.pointer x15) ∧
 ∃ x16 : Int, w11.cell? (Addr.mk b3 0 none) = some (.int .u64 x16) ∧
 c_mheap_Heap_grow x15 x16 (fun r17 w18 =>
 stCells (Addr.mk b5 0 none) 0 [.int .i64 r17] w18 fun w19 =>
 ∃ x20 : Int, w19.cell? (Addr.mk b5 0 none) = some (.int .i64 x20) ∧
 CND ((x20 : Int) != 0) (
 ∃ x21 : Int, w19.drew.cell? (Addr.mk b5 0 none) = some (.int .i64 x21) ∧
 stCells (Addr.mk b5 0 none) 0 [.int .i64 x21] w19.drew fun w22 =>
 ∃ x23 : Int, w22.cell? (Addr.mk b5 0 none) = some (.int .i64 x23) ∧
 K 0 x23 w22
 ) (
 ∃ x24 : (Option Addr), w19.drew.cell? (Addr.mk b1 0 none) = some (.pointer x24) ∧
 NC x24 fun p25 =>
 ∃ x26 : (Option Addr), w19.drew.cell? (p25.add 1) = some (.pointer x26) ∧
 ∃ x27 : Int, w19.drew.cell? (Addr.mk b3 0 none) = some (.int .u64 x27) ∧
 c_radix_Tree_Alloc x26 x27 (fun r28 r29 r30 w31 =>
 w31.cell? (Addr.mk b1 0 none) = some (.pointer x24) ∧
 J12 (r28, ()) w31
 ) w19.drew
 )
 ) w11
 ) (
 J12 (r9, ()) w11
 )
 ) fun s13 _ w14 =>
 AL (.cells #[.int .u64 0] E.t_uint64) w14 fun b32 w33 =>
 stCells (Addr.mk b32 0 none) 0 [.int .u64 s13.1] w33 fun w34 =>
 ∃ x35 : (Option Addr), w34.drew.cell? (Addr.mk b1 0 none) = some (.pointer x35) ∧
 NC x35 fun p36 =>
 ∃ x37 : (Option Addr), w34.drew.cell? p36 = some (.pointer x37) ∧
 ∃ x38 : Int, w34.drew.cell? (Addr.mk b3 0 none) = some (.int .u64 x38) ∧
 c_vmem_Mem_Commit x37 s13.1 x38 (fun r39 w40 =>
 w40.cell? (Addr.mk b1 0 none) = some (.pointer x35) ∧
 CND ((r39 : Int) != 0) (
 stCells (Addr.mk b5 0 none) 0 [.int .i64 13] w40 fun w41 =>
 F.mheap_Heap_find_1 E (some (Addr.mk b5 0 none)) (some (Addr.mk b1 0 none)) (some (Addr.mk b32 0 none)) (some (Addr.mk b3 0 none)) (fun w42 =>
 ∃ x43 : Int, w42.cell? (Addr.mk b5 0 none) = some (.int .i64 x43) ∧
 K 0 x43 w42
 ) w41
 ) (
 stCells (Addr.mk b5 0 none) 0 [.int .i64 0] w40 fun w44 =>
 F.mheap_Heap_find_1 E (some (Addr.mk b5 0 none)) (some (Addr.mk b1 0 none)) (some (Addr.mk b32 0 none)) (some (Addr.mk b3 0 none)) (fun w45 =>
 ∃ x46 : Int, w45.cell? (Addr.mk b5 0 none) = some (.int .i64 x46) ∧
 K s13.1 x46 w45
 ) w44
 )
 ) w34.drew
 ) w6

theorem tieZ24 (c_mheap_Heap_got : ∀ (a0 : (Option Addr)) (a1 : Int) (a2 : Int) (K : Int → Bool → World → Prop) (w : World), Prop) (c_mheap_Heap_grow : ∀ (a0 : (Option Addr)) (a1 : Int) (K : Int → World → Prop) (w : World), Prop) (c_radix_Tree_Alloc : ∀ (a0 : (Option Addr)) (a1 : Int) (K : Int → Int → Int → World → Prop) (w : World), Prop) (c_vmem_Mem_Commit : ∀ (a0 : (Option Addr)) (a1 : Int) (a2 : Int) (K : Int → World → Prop) (w : World), Prop) (x : ArgsV [.one (.ptr), .one (.int .i64), .one (.int .u64)]) (K : Value → World → Prop) (w : World) : T0.mheap_Heap_find env c_mheap_Heap_got c_mheap_Heap_grow c_radix_Tree_Alloc c_vmem_Mem_Commit x.1 x.2.1 x.2.2.1 (fun r1 r2 w' => K (.tuple ⟨[.int .u64 r1, .int .i64 r2]⟩) w') w =
 evD Go.Proofs.Tryd.prog (tabC [(45, fun args w K Kp => unArgs [.one (.ptr), .one (.int .i64), .one (.int .u64)] args.toList fun x => c_mheap_Heap_got x.1 x.2.1 x.2.2.1 (fun r1 r2 w' => K (.tuple ⟨[.int .u64 r1, .bool r2]⟩) w') w), (46, fun args w K Kp => unArgs [.one (.ptr), .one (.int .u64)] args.toList fun x => c_mheap_Heap_grow x.1 x.2.1 (fun r1 w' => K (.int .i64 r1) w') w), (47, fun args w K Kp => unArgs [.one (.ptr), .one (.int .u64)] args.toList fun x => c_radix_Tree_Alloc x.1 x.2.1 (fun r1 r2 r3 w' => K (.tuple ⟨[.int .u64 r1, .int .u64 r2, .int .i64 r3]⟩) w') w), (50, fun args w K Kp => unArgs [.one (.ptr), .one (.int .u64), .one (.int .u64)] args.toList fun x => c_vmem_Mem_Commit x.1 x.2.1 x.2.2.1 (fun r1 w' => K (.int .i64 r1) w') w)]) (ground Go.Proofs.Tryd.prog) ann24 (finQ Go.Proofs.Tryd.prog Go.Proofs.Tryd.f24 K noP) (finD Go.Proofs.Tryd.prog Go.Proofs.Tryd.f24 (tabD [(48, D48)]) K noP) body24 (initF (mkArgs [.one (.ptr), .one (.int .i64), .one (.int .u64)] x)) w := by kernel_rfl
theorem tie24 (x : ArgsV [.one (.ptr), .one (.int .i64), .one (.int .u64)]) (K : Value → World → Prop) (w : World) : F.mheap_Heap_find env x.1 x.2.1 x.2.2.1 (fun r1 r2 w' => K (.tuple ⟨[.int .u64 r1, .int .i64 r2]⟩) w') w =
 evD Go.Proofs.Tryd.prog (tabC [(45, C45), (46, C46), (47, C47), (50, C50)]) (ground Go.Proofs.Tryd.prog) ann24 (finQ Go.Proofs.Tryd.prog Go.Proofs.Tryd.f24 K noP) (finD Go.Proofs.Tryd.prog Go.Proofs.Tryd.f24 (tabD [(48, D48)]) K noP) body24 (initF (mkArgs [.one (.ptr), .one (.int .i64), .one (.int .u64)] x)) w := tieZ24 (F.mheap_Heap_got env) (F.mheap_Heap_grow env) (F.radix_Tree_Alloc env) (F.vmem_Mem_Commit env) x K w
theorem fits24 : FitsOne Go.Proofs.Tryd.prog 24 C24 :=
 fits_of_tieD (T := [(45, C45), (46, C46), (47, C47), (50, C50)]) (TD := [(48, D48)]) (A := ann24) (fn := Go.Proofs.Tryd.f24) (c := body24) (fits_cons fits45 (fits_cons fits46 (fits_cons fits47 (fits_cons fits50 fits_nil)))) (fitsD_cons fitsD48 fitsD_nil) mixed Go.Proofs.Tryd.func24 Go.Proofs.Tryd.call24 (by kernel_rfl) (by kernel_rfl) (by kernel_rfl) tie24

noncomputable def C51 : Entry := fun args w K Kp => unArgs [.one (.ptr)] args.toList fun x => F.fix_Fix_Take env x.1 (fun r1 w' => K (.int .i64 r1) w') w
noncomputable def body51 : Code := (Go.Proofs.Tryd.f51.body).getD .skip
def ann51 : Ann := { loops := [], joins := [(6, [(3, .one (.ptr))])] }
theorem tie51 (x : ArgsV [.one (.ptr)]) (K Kp : Value → World → Prop) (w : World) : F.fix_Fix_Take env x.1 (fun r1 w' => K (.int .i64 r1) w') w =
 ev Go.Proofs.Tryd.prog (tabC []) (ground Go.Proofs.Tryd.prog) ann51 body51 (finQ Go.Proofs.Tryd.prog Go.Proofs.Tryd.f51 K Kp) (initF (mkArgs [.one (.ptr)] x)) w := by kernel_rfl
theorem fits51 : FitsOne Go.Proofs.Tryd.prog 51 C51 :=
 fits_of_tie (T := []) (A := ann51) (fn := Go.Proofs.Tryd.f51) (c := body51) fits_nil mixed Go.Proofs.Tryd.func51 Go.Proofs.Tryd.call51 (by kernel_rfl) (by kernel_rfl) (by kernel_rfl) tie51

noncomputable def C16 : Entry := fun args w K Kp => unArgs [.one (.ptr)] args.toList fun x => F.span_Span_Info env x.1 (fun r1 r2 r3 r4 r5 r6 r7 r8 r9 r10 w' => K (.agg ⟨[.int .u64 r1, .int .i64 r2, .int .i64 r3, .int .i64 r4, .bool r5, .int .i64 r6, .int .i64 r7, .int .i64 r8, .bool r9, .bool r10]⟩) w') w
noncomputable def body16 : Code := (Go.Proofs.Tryd.f16.body).getD .skip
def ann16 : Ann := { loops := [], joins := [] }
theorem tie16 (x : ArgsV [.one (.ptr)]) (K Kp : Value → World → Prop) (w : World) : F.span_Span_Info env x.1 (fun r1 r2 r3 r4 r5 r6 r7 r8 r9 r10 w' => K (.agg ⟨[.int .u64 r1, .int .i64 r2, .int .i64 r3, .int .i64 r4, .bool r5, .int .i64 r6, .int .i64 r7, .int .i64 r8, .bool r9, .bool r10]⟩) w') w =
 ev Go.Proofs.Tryd.prog (tabC []) (ground Go.Proofs.Tryd.prog) ann16 body16 (finQ Go.Proofs.Tryd.prog Go.Proofs.Tryd.f16 K Kp) (initF (mkArgs [.one (.ptr)] x)) w := by kernel_rfl
theorem fits16 : FitsOne Go.Proofs.Tryd.prog 16 C16 :=
 fits_of_tie (T := []) (A := ann16) (fn := Go.Proofs.Tryd.f16) (c := body16) fits_nil mixed Go.Proofs.Tryd.func16 Go.Proofs.Tryd.call16 (by kernel_rfl) (by kernel_rfl) (by kernel_rfl) tie16

noncomputable def C53 : Entry := fun args w K Kp => unArgs [.one (.ptr), .one (.int .u64), .one (.int .u64)] args.toList fun x => F.arena_Map_cut env x.1 x.2.1 x.2.2.1 (fun  w' => K (.tuple ⟨[]⟩) w') w
noncomputable def body53 : Code := (Go.Proofs.Tryd.f53.body).getD .skip
def ann53 : Ann := { loops := [(2, [(6, .one (.sl)), (16, .one (.int .i64))]), (14, []), (19, [(10, .one (.int .u64))])], joins := [(5, [(29, .one (.bool))]), (8, [(6, .one (.sl))]), (15, [(81, .one (.bool))]), (17, [(91, .one (.bool))])] }
theorem tie53 (x : ArgsV [.one (.ptr), .one (.int .u64), .one (.int .u64)]) (K Kp : Value → World → Prop) (w : World) : F.arena_Map_cut env x.1 x.2.1 x.2.2.1 (fun  w' => K (.tuple ⟨[]⟩) w') w =
 ev Go.Proofs.Tryd.prog (tabC []) (ground Go.Proofs.Tryd.prog) ann53 body53 (finQ Go.Proofs.Tryd.prog Go.Proofs.Tryd.f53 K Kp) (initF (mkArgs [.one (.ptr), .one (.int .u64), .one (.int .u64)] x)) w := by kernel_rfl
theorem fits53 : FitsOne Go.Proofs.Tryd.prog 53 C53 :=
 fits_of_tie (T := []) (A := ann53) (fn := Go.Proofs.Tryd.f53) (c := body53) fits_nil mixed Go.Proofs.Tryd.func53 Go.Proofs.Tryd.call53 (by kernel_rfl) (by kernel_rfl) (by kernel_rfl) tie53

noncomputable def C27 : Entry := fun args w K Kp => unArgs [.one (.ptr), .one (.int .u64), .one (.int .u64), .one (.int .i64)] args.toList fun x => F.arena_Map_Set env x.1 x.2.1 x.2.2.1 x.2.2.2.1 (fun r1 w' => K (.int .i64 r1) w') w
noncomputable def body27 : Code := (Go.Proofs.Tryd.f27.body).getD .skip
def ann27 : Ann := { loops := [], joins := [(2, [(20, .one (.bool))]), (4, [(28, .one (.bool))]), (14, [])] }
def T0.arena_Map_Set (E : Env) (c_stretch_Set_Count : ∀ (a0 : (Option Addr)) (a1 : Int) (a2 : Int) (K : Int → World → Prop) (w : World), Prop) (c_arena_Map_cut : ∀ (a0 : (Option Addr)) (a1 : Int) (a2 : Int) (K : World → Prop) (w : World), Prop) (a0 : (Option Addr)) (a1 : Int) (a2 : Int) (a3 : Int) (K : Int → World → Prop) (w : World) : Prop :=
 AL (.cells #[.pointer a0] E.t__arena_Map) w fun b1 w2 =>
 AL (.cells #[.int .i64 a3] E.t_int) w2 fun b3 w4 =>
 JOIN (Bool × Unit) (fun J5 =>
 CND ((a2 : Int) == 0) (
 J5 (true, ()) w4
 ) (
 ∃ x8 : Int, w4.cell? (Addr.mk b3 0 none) = some (.int .i64 x8) ∧
 J5 (decide ((x8 : Int) < 0), ()) w4
 )
 ) fun s6 _ w7 =>
 CND (s6.1) (
 K 1 w7
 ) (
 JOIN (Bool × Unit) (fun J9 =>
 CND (decide ((a1 : Int) ≥ 34359738368)) (
 J9 (true, ()) w7
 ) (
 J9 (decide ((a2 : Int) > (u64 (34359738368 - a1))), ()) w7
 )
 ) fun s10 _ w11 =>
 CND (s10.1) (
 K 10 w11
 ) (
 512 ≠ (0 : Int) ∧
 512 ≠ (0 : Int) ∧
 LET (u64 (Int.tdiv (u64 ((u64 ((u64 (a1 + a2)) + 512)) - 1)) 512) : Int) fun last_12 =>
 ∃ x13 : (Option Addr), w11.cell? (Addr.mk b1 0 none) = some (.pointer x13) ∧
 NC x13 fun p14 =>
 c_stretch_Set_Count (some p14) (u64 (Int.tdiv a1 512)) last_12 (fun r15 w16 =>
 CND ((r15 : Int) != (u64 (last_12 - (u64 (Int.tdiv a1 512))))) (
 K 10 w16
 ) (
 512 ≠ (0 : Int) ∧
 512 ≠ (0 : Int) ∧
 LET (u64 (Int.tdiv (u64 ((u64 (a1 + 512)) - 1)) 512) : Int) fun from_17 =>
 LET (u64 (Int.tdiv (u64 (a1 + a2)) 512) : Int) fun to_18 =>
 JOIN (Unit) (fun J19 =>
 CND (decide ((from_17 : Int) < to_18)) (
 ∃ x22 : (Option Addr), w16.cell? (Addr.mk b1 0 none) = some (.pointer x22) ∧
 c_arena_Map_cut x22 from_17 to_18 (fun  w23 =>
 ∃ x24 : Int, w23.cell? (Addr.mk b3 0 none) = some (.int .i64 x24) ∧
 CND (decide ((x24 : Int) > 0)) (
 ∃ x25 : (Option Addr), w23.drew.cell? (Addr.mk b1 0 none) = some (.pointer x25) ∧
 ∃ x26 : (Option Addr), w23.drew.cell? (Addr.mk b1 0 none) = some (.pointer x26) ∧
 NC x26 fun p27 =>
 ∃ x28 : SlV, w23.drew.cell? (p27.add 2) = some (.slice x28.base x28.len x28.cap) ∧
 ∃ x29 : Int, w23.drew.cell? (Addr.mk b3 0 none) = some (.int .i64 x29) ∧
 AL (.cells ⟨[.int .u64 from_17, .int .u64 to_18, .int .i64 x29]⟩ E.t_arena_wide) w23.drew fun b30 w31 =>
 w31.cell? (Addr.mk b3 0 none) = some (.int .i64 x29) ∧
 w31.cell? (p27.add 2) = some (.slice x28.base x28.len x28.cap) ∧
 w31.cell? (Addr.mk b1 0 none) = some (.pointer x26) ∧
 w31.cell? (Addr.mk b1 0 none) = some (.pointer x25) ∧
 APP E.t_arena_wide 3 24 #[.int .u64 0, .int .u64 0, .int .i64 0] x28 ⟨(some (Addr.mk b30 0 none)), 1, 1⟩ w31 fun s32 w33 =>
 w33.cell? (Addr.mk b3 0 none) = some (.int .i64 x29) ∧
 w33.cell? (Addr.mk b1 0 none) = some (.pointer x26) ∧
 w33.cell? (Addr.mk b1 0 none) = some (.pointer x25) ∧
 NC x25 fun p34 =>
 stCells (p34.add 2) 0 [.slice s32.base s32.len s32.cap] w33 fun w35 =>
 J19 (()) w35
 ) (
 J19 (()) w23
 )
 ) w16
 ) (
 J19 (()) w16
 )
 ) fun s20 _ w21 =>
 CND (decide ((from_17 : Int) > to_18)) (
 CAL E.call E.f_arena_Map_Set_1 #[.int .u64 a1, .int .u64 (u64 (a1 + a2)), .pointer (some (Addr.mk b3 0 none)), .pointer (some (Addr.mk b1 0 none))] w21 fun r36 w37 =>
 r36 = .tuple ⟨[]⟩ ∧
 K 0 w37
 ) (
 CAL E.call E.f_arena_Map_Set_1 #[.int .u64 a1, .int .u64 (u64 (from_17 * 512)), .pointer (some (Addr.mk b3 0 none)), .pointer (some (Addr.mk b1 0 none))] w21 fun r38 w39 =>
 r38 = .tuple ⟨[]⟩ ∧
 CAL E.call E.f_arena_Map_Set_1 #[.int .u64 (u64 (to_18 * 512)), .int .u64 (u64 (a1 + a2)), .pointer (some (Addr.mk b3 0 none)), .pointer (some (Addr.mk b1 0 none))] w39 fun r40 w41 =>
 r40 = .tuple ⟨[]⟩ ∧
 K 0 w41
 )
 )
 ) w11
 )
 )

theorem tieZ27 (c_stretch_Set_Count : ∀ (a0 : (Option Addr)) (a1 : Int) (a2 : Int) (K : Int → World → Prop) (w : World), Prop) (c_arena_Map_cut : ∀ (a0 : (Option Addr)) (a1 : Int) (a2 : Int) (K : World → Prop) (w : World), Prop) (x : ArgsV [.one (.ptr), .one (.int .u64), .one (.int .u64), .one (.int .i64)]) (K Kp : Value → World → Prop) (w : World) : T0.arena_Map_Set env c_stretch_Set_Count c_arena_Map_cut x.1 x.2.1 x.2.2.1 x.2.2.2.1 (fun r1 w' => K (.int .i64 r1) w') w =
 ev Go.Proofs.Tryd.prog (tabC [(52, fun args w K Kp => unArgs [.one (.ptr), .one (.int .u64), .one (.int .u64)] args.toList fun x => c_stretch_Set_Count x.1 x.2.1 x.2.2.1 (fun r1 w' => K (.int .u64 r1) w') w), (53, fun args w K Kp => unArgs [.one (.ptr), .one (.int .u64), .one (.int .u64)] args.toList fun x => c_arena_Map_cut x.1 x.2.1 x.2.2.1 (fun  w' => K (.tuple ⟨[]⟩) w') w)]) (ground Go.Proofs.Tryd.prog) ann27 body27 (finQ Go.Proofs.Tryd.prog Go.Proofs.Tryd.f27 K Kp) (initF (mkArgs [.one (.ptr), .one (.int .u64), .one (.int .u64), .one (.int .i64)] x)) w := by kernel_rfl
theorem tie27 (x : ArgsV [.one (.ptr), .one (.int .u64), .one (.int .u64), .one (.int .i64)]) (K Kp : Value → World → Prop) (w : World) : F.arena_Map_Set env x.1 x.2.1 x.2.2.1 x.2.2.2.1 (fun r1 w' => K (.int .i64 r1) w') w =
 ev Go.Proofs.Tryd.prog (tabC [(52, C52), (53, C53)]) (ground Go.Proofs.Tryd.prog) ann27 body27 (finQ Go.Proofs.Tryd.prog Go.Proofs.Tryd.f27 K Kp) (initF (mkArgs [.one (.ptr), .one (.int .u64), .one (.int .u64), .one (.int .i64)] x)) w := tieZ27 (F.stretch_Set_Count env) (F.arena_Map_cut env) x K Kp w
theorem fits27 : FitsOne Go.Proofs.Tryd.prog 27 C27 :=
 fits_of_tie (T := [(52, C52), (53, C53)]) (A := ann27) (fn := Go.Proofs.Tryd.f27) (c := body27) (fits_cons fits52 (fits_cons fits53 fits_nil)) mixed Go.Proofs.Tryd.func27 Go.Proofs.Tryd.call27 (by kernel_rfl) (by kernel_rfl) (by kernel_rfl) tie27

noncomputable def C25 : Entry := fun args w K Kp => unArgs [.one (.ptr), .one (.ptr)] args.toList fun x => F.mheap_Heap_keep env x.1 x.2.1 (fun r1 w' => K (.int .i64 r1) w') w
noncomputable def body25 : Code := (Go.Proofs.Tryd.f25.body).getD .skip
def ann25 : Ann := { loops := [], joins := [] }
def T0.mheap_Heap_keep (E : Env) (c_fix_Fix_Take : ∀ (a0 : (Option Addr)) (K : Int → World → Prop) (w : World), Prop) (c_span_Span_Info : ∀ (a0 : (Option Addr)) (K : Int → Int → Int → Int → Bool → Int → Int → Int → Bool → Bool → World → Prop) (w : World), Prop) (c_arena_Map_Set : ∀ (a0 : (Option Addr)) (a1 : Int) (a2 : Int) (a3 : Int) (K : Int → World → Prop) (w : World), Prop) (a0 : (Option Addr)) (a1 : (Option Addr)) (K : Int → World → Prop) (w : World) : Prop :=
 NC a0 fun p1 =>
 ∃ x2 : (Option Addr), w.cell? (p1.add 3) = some (.pointer x2) ∧
 c_fix_Fix_Take x2 (fun r3 w4 =>
 NC a0 fun p5 =>
 ∃ x6 : (Option Nat), w4.cell? (p5.add 4) = some (.map x6) ∧
 MUPD .i64 r3 (.pointer a1) x6 w4 fun w7 =>
 c_span_Span_Info a1 (fun r8 r9 r10 r11 r12 r13 r14 r15 r16 r17 w18 =>
 AL (.cells #[.int .u64 0, .int .i64 0, .int .i64 0, .int .i64 0, .bool false, .int .i64 0, .int .i64 0, .int .i64 0, .bool false, .bool false] E.t_api_Info) w18 fun b19 w20 =>
 stCells (Addr.mk b19 0 none) 0 [.int .u64 r8, .int .i64 r9, .int .i64 r10, .int .i64 r11, .bool r12, .int .i64 r13, .int .i64 r14, .int .i64 r15, .bool r16, .bool r17] w20 fun w21 =>
 NC a0 fun p22 =>
 ∃ x23 : (Option Addr), w21.drew.cell? (p22.add 2) = some (.pointer x23) ∧
 ∃ x24 : Int, w21.drew.cell? (Addr.mk b19 0 none) = some (.int .u64 x24) ∧
 8192 ≠ (0 : Int) ∧
 ∃ x25 : Int, w21.drew.cell? ((Addr.mk b19 0 none).add 1) = some (.int .i64 x25) ∧
 c_arena_Map_Set x23 (u64 (Int.tdiv x24 8192)) (u64 (x25)) r3 (fun r26 w27 =>
 w27.cell? ((Addr.mk b19 0 none).add 1) = some (.int .i64 x25) ∧
 w27.cell? (Addr.mk b19 0 none) = some (.int .u64 x24) ∧
 NC a0 fun p28 =>
 ∃ x29 : Int, w27.drew.cell? (p28.add 70) = some (.int .u64 x29) ∧
 ∃ x30 : Int, w27.drew.cell? ((Addr.mk b19 0 none).add 1) = some (.int .i64 x30) ∧
 NC a0 fun p31 =>
 stCells (p31.add 70) 0 [.int .u64 (u64 (x29 + (u64 (x30))))] w27.drew fun w32 =>
 K r3 w32
 ) w21.drew
 ) w7
 ) w

theorem tieZ25 (c_fix_Fix_Take : ∀ (a0 : (Option Addr)) (K : Int → World → Prop) (w : World), Prop) (c_span_Span_Info : ∀ (a0 : (Option Addr)) (K : Int → Int → Int → Int → Bool → Int → Int → Int → Bool → Bool → World → Prop) (w : World), Prop) (c_arena_Map_Set : ∀ (a0 : (Option Addr)) (a1 : Int) (a2 : Int) (a3 : Int) (K : Int → World → Prop) (w : World), Prop) (x : ArgsV [.one (.ptr), .one (.ptr)]) (K Kp : Value → World → Prop) (w : World) : T0.mheap_Heap_keep env c_fix_Fix_Take c_span_Span_Info c_arena_Map_Set x.1 x.2.1 (fun r1 w' => K (.int .i64 r1) w') w =
 ev Go.Proofs.Tryd.prog (tabC [(51, fun args w K Kp => unArgs [.one (.ptr)] args.toList fun x => c_fix_Fix_Take x.1 (fun r1 w' => K (.int .i64 r1) w') w), (16, fun args w K Kp => unArgs [.one (.ptr)] args.toList fun x => c_span_Span_Info x.1 (fun r1 r2 r3 r4 r5 r6 r7 r8 r9 r10 w' => K (.agg ⟨[.int .u64 r1, .int .i64 r2, .int .i64 r3, .int .i64 r4, .bool r5, .int .i64 r6, .int .i64 r7, .int .i64 r8, .bool r9, .bool r10]⟩) w') w), (27, fun args w K Kp => unArgs [.one (.ptr), .one (.int .u64), .one (.int .u64), .one (.int .i64)] args.toList fun x => c_arena_Map_Set x.1 x.2.1 x.2.2.1 x.2.2.2.1 (fun r1 w' => K (.int .i64 r1) w') w)]) (ground Go.Proofs.Tryd.prog) ann25 body25 (finQ Go.Proofs.Tryd.prog Go.Proofs.Tryd.f25 K Kp) (initF (mkArgs [.one (.ptr), .one (.ptr)] x)) w := by kernel_rfl
theorem tie25 (x : ArgsV [.one (.ptr), .one (.ptr)]) (K Kp : Value → World → Prop) (w : World) : F.mheap_Heap_keep env x.1 x.2.1 (fun r1 w' => K (.int .i64 r1) w') w =
 ev Go.Proofs.Tryd.prog (tabC [(51, C51), (16, C16), (27, C27)]) (ground Go.Proofs.Tryd.prog) ann25 body25 (finQ Go.Proofs.Tryd.prog Go.Proofs.Tryd.f25 K Kp) (initF (mkArgs [.one (.ptr), .one (.ptr)] x)) w := tieZ25 (F.fix_Fix_Take env) (F.span_Span_Info env) (F.arena_Map_Set env) x K Kp w
theorem fits25 : FitsOne Go.Proofs.Tryd.prog 25 C25 :=
 fits_of_tie (T := [(51, C51), (16, C16), (27, C27)]) (A := ann25) (fn := Go.Proofs.Tryd.f25) (c := body25) (fits_cons fits51 (fits_cons fits16 (fits_cons fits27 fits_nil))) mixed Go.Proofs.Tryd.func25 Go.Proofs.Tryd.call25 (by kernel_rfl) (by kernel_rfl) (by kernel_rfl) tie25

noncomputable def C7 : Entry := fun args w K Kp => unArgs [.one (.ptr), .one (.int .i64), .one (.int .u64), .one (.int .i64), .one (.bool)] args.toList fun x => F.mheap_Heap_Alloc env x.1 x.2.1 x.2.2.1 x.2.2.2.1 x.2.2.2.2.1 (fun r1 r2 w' => K (.tuple ⟨[.int .i64 r1, .int .i64 r2]⟩) w') w
noncomputable def body7 : Code := (Go.Proofs.Tryd.f7.body).getD .skip
def ann7 : Ann := { loops := [], joins := [] }
def T0.mheap_Heap_Alloc (E : Env) (c_span_New : ∀ (a0 : Int) (a1 : Int) (a2 : Int) (a3 : Bool) (K : (Option Addr) → Int → World → Prop) (w : World), Prop) (c_mheap_Heap_find : ∀ (a0 : (Option Addr)) (a1 : Int) (a2 : Int) (K : Int → Int → World → Prop) (w : World), Prop) (c_mheap_Heap_keep : ∀ (a0 : (Option Addr)) (a1 : (Option Addr)) (K : Int → World → Prop) (w : World), Prop) (a0 : (Option Addr)) (a1 : Int) (a2 : Int) (a3 : Int) (a4 : Bool) (K : Int → Int → World → Prop) (w : World) : Prop :=
 c_span_New 0 a2 a3 a4 (fun r1 r2 w3 =>
 CND ((r2 : Int) != 0) (
 K 0 1 w3
 ) (
 c_mheap_Heap_find a0 a1 a2 (fun r4 r5 w6 =>
 CND ((r5 : Int) != 0) (
 K 0 r5 w6
 ) (
 c_span_New r4 a2 a3 a4 (fun r7 r8 w9 =>
 c_mheap_Heap_keep a0 r7 (fun r10 w11 =>
 K r10 0 w11
 ) w9
 ) w6
 )
 ) w3
 )
 ) w

theorem tieZ7 (c_span_New : ∀ (a0 : Int) (a1 : Int) (a2 : Int) (a3 : Bool) (K : (Option Addr) → Int → World → Prop) (w : World), Prop) (c_mheap_Heap_find : ∀ (a0 : (Option Addr)) (a1 : Int) (a2 : Int) (K : Int → Int → World → Prop) (w : World), Prop) (c_mheap_Heap_keep : ∀ (a0 : (Option Addr)) (a1 : (Option Addr)) (K : Int → World → Prop) (w : World), Prop) (x : ArgsV [.one (.ptr), .one (.int .i64), .one (.int .u64), .one (.int .i64), .one (.bool)]) (K Kp : Value → World → Prop) (w : World) : T0.mheap_Heap_Alloc env c_span_New c_mheap_Heap_find c_mheap_Heap_keep x.1 x.2.1 x.2.2.1 x.2.2.2.1 x.2.2.2.2.1 (fun r1 r2 w' => K (.tuple ⟨[.int .i64 r1, .int .i64 r2]⟩) w') w =
 ev Go.Proofs.Tryd.prog (tabC [(23, fun args w K Kp => unArgs [.one (.int .u64), .one (.int .u64), .one (.int .i64), .one (.bool)] args.toList fun x => c_span_New x.1 x.2.1 x.2.2.1 x.2.2.2.1 (fun r1 r2 w' => K (.tuple ⟨[.pointer r1, .int .i64 r2]⟩) w') w), (24, fun args w K Kp => unArgs [.one (.ptr), .one (.int .i64), .one (.int .u64)] args.toList fun x => c_mheap_Heap_find x.1 x.2.1 x.2.2.1 (fun r1 r2 w' => K (.tuple ⟨[.int .u64 r1, .int .i64 r2]⟩) w') w), (25, fun args w K Kp => unArgs [.one (.ptr), .one (.ptr)] args.toList fun x => c_mheap_Heap_keep x.1 x.2.1 (fun r1 w' => K (.int .i64 r1) w') w)]) (ground Go.Proofs.Tryd.prog) ann7 body7 (finQ Go.Proofs.Tryd.prog Go.Proofs.Tryd.f7 K Kp) (initF (mkArgs [.one (.ptr), .one (.int .i64), .one (.int .u64), .one (.int .i64), .one (.bool)] x)) w := by kernel_rfl
theorem tie7 (x : ArgsV [.one (.ptr), .one (.int .i64), .one (.int .u64), .one (.int .i64), .one (.bool)]) (K Kp : Value → World → Prop) (w : World) : F.mheap_Heap_Alloc env x.1 x.2.1 x.2.2.1 x.2.2.2.1 x.2.2.2.2.1 (fun r1 r2 w' => K (.tuple ⟨[.int .i64 r1, .int .i64 r2]⟩) w') w =
 ev Go.Proofs.Tryd.prog (tabC [(23, C23), (24, C24), (25, C25)]) (ground Go.Proofs.Tryd.prog) ann7 body7 (finQ Go.Proofs.Tryd.prog Go.Proofs.Tryd.f7 K Kp) (initF (mkArgs [.one (.ptr), .one (.int .i64), .one (.int .u64), .one (.int .i64), .one (.bool)] x)) w := tieZ7 (F.span_New env) (F.mheap_Heap_find env) (F.mheap_Heap_keep env) x K Kp w
theorem fits7 : FitsOne Go.Proofs.Tryd.prog 7 C7 :=
 fits_of_tie (T := [(23, C23), (24, C24), (25, C25)]) (A := ann7) (fn := Go.Proofs.Tryd.f7) (c := body7) (fits_cons fits23 (fits_cons fits24 (fits_cons fits25 fits_nil))) mixed Go.Proofs.Tryd.func7 Go.Proofs.Tryd.call7 (by kernel_rfl) (by kernel_rfl) (by kernel_rfl) tie7

noncomputable def C26 : Entry := fun args w K Kp => unArgs [.one (.ptr)] args.toList fun x => F.span_Span_Die env x.1 (fun r1 w' => K (.int .i64 r1) w') w
noncomputable def body26 : Code := (Go.Proofs.Tryd.f26.body).getD .skip
def ann26 : Ann := { loops := [], joins := [(2, [(16, .one (.bool))])] }
theorem tie26 (x : ArgsV [.one (.ptr)]) (K Kp : Value → World → Prop) (w : World) : F.span_Span_Die env x.1 (fun r1 w' => K (.int .i64 r1) w') w =
 ev Go.Proofs.Tryd.prog (tabC []) (ground Go.Proofs.Tryd.prog) ann26 body26 (finQ Go.Proofs.Tryd.prog Go.Proofs.Tryd.f26 K Kp) (initF (mkArgs [.one (.ptr)] x)) w := by kernel_rfl
theorem fits26 : FitsOne Go.Proofs.Tryd.prog 26 C26 :=
 fits_of_tie (T := []) (A := ann26) (fn := Go.Proofs.Tryd.f26) (c := body26) fits_nil mixed Go.Proofs.Tryd.func26 Go.Proofs.Tryd.call26 (by kernel_rfl) (by kernel_rfl) (by kernel_rfl) tie26

noncomputable def C57 : Entry := fun args w K Kp => unArgs [.one (.ptr), .one (.int .i64)] args.toList fun x => F.fix_Fix_Live env x.1 x.2.1 (fun r1 w' => K (.bool r1) w') w
noncomputable def body57 : Code := (Go.Proofs.Tryd.f57.body).getD .skip
def ann57 : Ann := { loops := [], joins := [] }
theorem tie57 (x : ArgsV [.one (.ptr), .one (.int .i64)]) (K Kp : Value → World → Prop) (w : World) : F.fix_Fix_Live env x.1 x.2.1 (fun r1 w' => K (.bool r1) w') w =
 ev Go.Proofs.Tryd.prog (tabC []) (ground Go.Proofs.Tryd.prog) ann57 body57 (finQ Go.Proofs.Tryd.prog Go.Proofs.Tryd.f57 K Kp) (initF (mkArgs [.one (.ptr), .one (.int .i64)] x)) w := by kernel_rfl
theorem fits57 : FitsOne Go.Proofs.Tryd.prog 57 C57 :=
 fits_of_tie (T := []) (A := ann57) (fn := Go.Proofs.Tryd.f57) (c := body57) fits_nil mixed Go.Proofs.Tryd.func57 Go.Proofs.Tryd.call57 (by kernel_rfl) (by kernel_rfl) (by kernel_rfl) tie57

noncomputable def C29 : Entry := fun args w K Kp => unArgs [.one (.ptr), .one (.int .i64)] args.toList fun x => F.fix_Fix_Give env x.1 x.2.1 (fun r1 w' => K (.int .i64 r1) w') w
noncomputable def body29 : Code := (Go.Proofs.Tryd.f29.body).getD .skip
def ann29 : Ann := { loops := [], joins := [] }
def T0.fix_Fix_Give (E : Env) (c_fix_Fix_Live : ∀ (a0 : (Option Addr)) (a1 : Int) (K : Bool → World → Prop) (w : World), Prop) (a0 : (Option Addr)) (a1 : Int) (K : Int → World → Prop) (w : World) : Prop :=
 c_fix_Fix_Live a0 a1 (fun r1 w2 =>
 CND (!r1) (
 K 31 w2
 ) (
 NC a0 fun p3 =>
 ∃ x4 : SlV, w2.cell? (p3.add 1) = some (.slice x4.base x4.len x4.cap) ∧
 NC x4.base fun p5 =>
 ((0 : Int) ≤ (i64 (a1 - 1)) ∧ ((i64 (a1 - 1)) : Int) < (x4.len : Nat)) ∧
 ∃ x6 : (Option Addr), w2.cell? (p5.add (Int.toNat (i64 (a1 - 1)) * 1)) = some (.pointer x6) ∧
 NC a0 fun p7 =>
 ∃ x8 : (Option Addr), w2.cell? (p7.add 2) = some (.pointer x8) ∧
 NC x6 fun p9 =>
 stCells (p9.add 1) 0 [.bool false] w2 fun w10 =>
 NC x6 fun p11 =>
 stCells (p11.add 2) 0 [.pointer x8] w10 fun w12 =>
 NC a0 fun p13 =>
 stCells (p13.add 2) 0 [.pointer x6] w12 fun w14 =>
 NC a0 fun p15 =>
 ∃ x16 : Int, w14.cell? (p15.add 3) = some (.int .i64 x16) ∧
 NC a0 fun p17 =>
 stCells (p17.add 3) 0 [.int .i64 (i64 (x16 - 1))] w14 fun w18 =>
 K 0 w18
 )
 ) w

theorem tieZ29 (c_fix_Fix_Live : ∀ (a0 : (Option Addr)) (a1 : Int) (K : Bool → World → Prop) (w : World), Prop) (x : ArgsV [.one (.ptr), .one (.int .i64)]) (K Kp : Value → World → Prop) (w : World) : T0.fix_Fix_Give env c_fix_Fix_Live x.1 x.2.1 (fun r1 w' => K (.int .i64 r1) w') w =
 ev Go.Proofs.Tryd.prog (tabC [(57, fun args w K Kp => unArgs [.one (.ptr), .one (.int .i64)] args.toList fun x => c_fix_Fix_Live x.1 x.2.1 (fun r1 w' => K (.bool r1) w') w)]) (ground Go.Proofs.Tryd.prog) ann29 body29 (finQ Go.Proofs.Tryd.prog Go.Proofs.Tryd.f29 K Kp) (initF (mkArgs [.one (.ptr), .one (.int .i64)] x)) w := by kernel_rfl
theorem tie29 (x : ArgsV [.one (.ptr), .one (.int .i64)]) (K Kp : Value → World → Prop) (w : World) : F.fix_Fix_Give env x.1 x.2.1 (fun r1 w' => K (.int .i64 r1) w') w =
 ev Go.Proofs.Tryd.prog (tabC [(57, C57)]) (ground Go.Proofs.Tryd.prog) ann29 body29 (finQ Go.Proofs.Tryd.prog Go.Proofs.Tryd.f29 K Kp) (initF (mkArgs [.one (.ptr), .one (.int .i64)] x)) w := tieZ29 (F.fix_Fix_Live env) x K Kp w
theorem fits29 : FitsOne Go.Proofs.Tryd.prog 29 C29 :=
 fits_of_tie (T := [(57, C57)]) (A := ann29) (fn := Go.Proofs.Tryd.f29) (c := body29) (fits_cons fits57 fits_nil) mixed Go.Proofs.Tryd.func29 Go.Proofs.Tryd.call29 (by kernel_rfl) (by kernel_rfl) (by kernel_rfl) tie29

noncomputable def C8 : Entry := fun args w K Kp => unArgs [.one (.ptr), .one (.int .i64)] args.toList fun x => F.mheap_Heap_Free env x.1 x.2.1 (fun r1 w' => K (.int .i64 r1) w') w
noncomputable def body8 : Code := (Go.Proofs.Tryd.f8.body).getD .skip
def ann8 : Ann := { loops := [], joins := [] }
def T0.mheap_Heap_Free (E : Env) (c_span_Span_Die : ∀ (a0 : (Option Addr)) (K : Int → World → Prop) (w : World), Prop) (c_span_Span_Info : ∀ (a0 : (Option Addr)) (K : Int → Int → Int → Int → Bool → Int → Int → Int → Bool → Bool → World → Prop) (w : World), Prop) (c_arena_Map_Set : ∀ (a0 : (Option Addr)) (a1 : Int) (a2 : Int) (a3 : Int) (K : Int → World → Prop) (w : World), Prop) (c_radix_Tree_Give : ∀ (a0 : (Option Addr)) (a1 : Int) (a2 : Int) (K : Int → World → Prop) (w : World), Prop) (c_fix_Fix_Give : ∀ (a0 : (Option Addr)) (a1 : Int) (K : Int → World → Prop) (w : World), Prop) (a0 : (Option Addr)) (a1 : Int) (K : Int → World → Prop) (w : World) : Prop :=
 NC a0 fun p1 =>
 ∃ x2 : (Option Nat), w.cell? (p1.add 4) = some (.map x2) ∧
 LKP .i64 a1 x2 w (.pointer none) fun v3 ok4 es5 =>
 ∃ x6 : (Option Addr), v3 = .pointer x6 ∧
 CND (!ok4) (
 K 35 w
 ) (
 c_span_Span_Die x6 (fun r7 w8 =>
 CND ((r7 : Int) != 0) (
 K r7 w8
 ) (
 c_span_Span_Info x6 (fun r9 r10 r11 r12 r13 r14 r15 r16 r17 r18 w19 =>
 AL (.cells #[.int .u64 0, .int .i64 0, .int .i64 0, .int .i64 0, .bool false, .int .i64 0, .int .i64 0, .int .i64 0, .bool false, .bool false] E.t_api_Info) w19 fun b20 w21 =>
 stCells (Addr.mk b20 0 none) 0 [.int .u64 r9, .int .i64 r10, .int .i64 r11, .int .i64 r12, .bool r13, .int .i64 r14, .int .i64 r15, .int .i64 r16, .bool r17, .bool r18] w21 fun w22 =>
 ∃ x23 : Int, w22.drew.cell? (Addr.mk b20 0 none) = some (.int .u64 x23) ∧
 8192 ≠ (0 : Int) ∧
 ∃ x24 : Int, w22.drew.cell? ((Addr.mk b20 0 none).add 1) = some (.int .i64 x24) ∧
 NC a0 fun p25 =>
 ∃ x26 : (Option Addr), w22.drew.cell? (p25.add 2) = some (.pointer x26) ∧
 c_arena_Map_Set x26 (u64 (Int.tdiv x23 8192)) (u64 (x24)) 0 (fun r27 w28 =>
 NC a0 fun p29 =>
 ∃ x30 : (Option Addr), w28.cell? (p29.add 1) = some (.pointer x30) ∧
 c_radix_Tree_Give x30 (u64 (Int.tdiv x23 8192)) (u64 (x24)) (fun r31 w32 =>
 NC a0 fun p33 =>
 ∃ x34 : (Option Addr), w32.cell? (p33.add 3) = some (.pointer x34) ∧
 c_fix_Fix_Give x34 a1 (fun r35 w36 =>
 NC a0 fun p37 =>
 ∃ x38 : Int, w36.cell? (p37.add 70) = some (.int .u64 x38) ∧
 NC a0 fun p39 =>
 stCells (p39.add 70) 0 [.int .u64 (u64 (x38 - (u64 (x24))))] w36 fun w40 =>
 NC a0 fun p41 =>
 ∃ x42 : (Option Nat), w40.cell? (p41.add 4) = some (.map x42) ∧
 MDEL .i64 a1 x42 w40 fun w43 =>
 K 0 w43
 ) w32
 ) w28
 ) w22.drew
 ) w8
 )
 ) w
 )

theorem tieZ8 (c_span_Span_Die : ∀ (a0 : (Option Addr)) (K : Int → World → Prop) (w : World), Prop) (c_span_Span_Info : ∀ (a0 : (Option Addr)) (K : Int → Int → Int → Int → Bool → Int → Int → Int → Bool → Bool → World → Prop) (w : World), Prop) (c_arena_Map_Set : ∀ (a0 : (Option Addr)) (a1 : Int) (a2 : Int) (a3 : Int) (K : Int → World → Prop) (w : World), Prop) (c_radix_Tree_Give : ∀ (a0 : (Option Addr)) (a1 : Int) (a2 : Int) (K : Int → World → Prop) (w : World), Prop) (c_fix_Fix_Give : ∀ (a0 : (Option Addr)) (a1 : Int) (K : Int → World → Prop) (w : World), Prop) (x : ArgsV [.one (.ptr), .one (.int .i64)]) (K Kp : Value → World → Prop) (w : World) : T0.mheap_Heap_Free env c_span_Span_Die c_span_Span_Info c_arena_Map_Set c_radix_Tree_Give c_fix_Fix_Give x.1 x.2.1 (fun r1 w' => K (.int .i64 r1) w') w =
 ev Go.Proofs.Tryd.prog (tabC [(26, fun args w K Kp => unArgs [.one (.ptr)] args.toList fun x => c_span_Span_Die x.1 (fun r1 w' => K (.int .i64 r1) w') w), (16, fun args w K Kp => unArgs [.one (.ptr)] args.toList fun x => c_span_Span_Info x.1 (fun r1 r2 r3 r4 r5 r6 r7 r8 r9 r10 w' => K (.agg ⟨[.int .u64 r1, .int .i64 r2, .int .i64 r3, .int .i64 r4, .bool r5, .int .i64 r6, .int .i64 r7, .int .i64 r8, .bool r9, .bool r10]⟩) w') w), (27, fun args w K Kp => unArgs [.one (.ptr), .one (.int .u64), .one (.int .u64), .one (.int .i64)] args.toList fun x => c_arena_Map_Set x.1 x.2.1 x.2.2.1 x.2.2.2.1 (fun r1 w' => K (.int .i64 r1) w') w), (28, fun args w K Kp => unArgs [.one (.ptr), .one (.int .u64), .one (.int .u64)] args.toList fun x => c_radix_Tree_Give x.1 x.2.1 x.2.2.1 (fun r1 w' => K (.int .i64 r1) w') w), (29, fun args w K Kp => unArgs [.one (.ptr), .one (.int .i64)] args.toList fun x => c_fix_Fix_Give x.1 x.2.1 (fun r1 w' => K (.int .i64 r1) w') w)]) (ground Go.Proofs.Tryd.prog) ann8 body8 (finQ Go.Proofs.Tryd.prog Go.Proofs.Tryd.f8 K Kp) (initF (mkArgs [.one (.ptr), .one (.int .i64)] x)) w := by kernel_rfl
theorem tie8 (x : ArgsV [.one (.ptr), .one (.int .i64)]) (K Kp : Value → World → Prop) (w : World) : F.mheap_Heap_Free env x.1 x.2.1 (fun r1 w' => K (.int .i64 r1) w') w =
 ev Go.Proofs.Tryd.prog (tabC [(26, C26), (16, C16), (27, C27), (28, C28), (29, C29)]) (ground Go.Proofs.Tryd.prog) ann8 body8 (finQ Go.Proofs.Tryd.prog Go.Proofs.Tryd.f8 K Kp) (initF (mkArgs [.one (.ptr), .one (.int .i64)] x)) w := tieZ8 (F.span_Span_Die env) (F.span_Span_Info env) (F.arena_Map_Set env) (F.radix_Tree_Give env) (F.fix_Fix_Give env) x K Kp w
theorem fits8 : FitsOne Go.Proofs.Tryd.prog 8 C8 :=
 fits_of_tie (T := [(26, C26), (16, C16), (27, C27), (28, C28), (29, C29)]) (A := ann8) (fn := Go.Proofs.Tryd.f8) (c := body8) (fits_cons fits26 (fits_cons fits16 (fits_cons fits27 (fits_cons fits28 (fits_cons fits29 fits_nil))))) mixed Go.Proofs.Tryd.func8 Go.Proofs.Tryd.call8 (by kernel_rfl) (by kernel_rfl) (by kernel_rfl) tie8

noncomputable def C9 : Entry := fun args w K Kp => unArgs [.one (.ptr), .one (.int .u64)] args.toList fun x => F.scav_New env x.1 x.2.1 (fun r1 w' => K (.pointer r1) w') w
noncomputable def body9 : Code := (Go.Proofs.Tryd.f9.body).getD .skip
def ann9 : Ann := { loops := [], joins := [] }
theorem tie9 (x : ArgsV [.one (.ptr), .one (.int .u64)]) (K Kp : Value → World → Prop) (w : World) : F.scav_New env x.1 x.2.1 (fun r1 w' => K (.pointer r1) w') w =
 ev Go.Proofs.Tryd.prog (tabC []) (ground Go.Proofs.Tryd.prog) ann9 body9 (finQ Go.Proofs.Tryd.prog Go.Proofs.Tryd.f9 K Kp) (initF (mkArgs [.one (.ptr), .one (.int .u64)] x)) w := by kernel_rfl
theorem fits9 : FitsOne Go.Proofs.Tryd.prog 9 C9 :=
 fits_of_tie (T := []) (A := ann9) (fn := Go.Proofs.Tryd.f9) (c := body9) fits_nil mixed Go.Proofs.Tryd.func9 Go.Proofs.Tryd.call9 (by kernel_rfl) (by kernel_rfl) (by kernel_rfl) tie9

noncomputable def C37 : Entry := fun args w K Kp => unArgs [.one (.ptr)] args.toList fun x => F.stretch_Set_Sum env x.1 (fun r1 w' => K (.int .u64 r1) w') w
noncomputable def body37 : Code := (Go.Proofs.Tryd.f37.body).getD .skip
def ann37 : Ann := { loops := [], joins := [] }
theorem tie37 (x : ArgsV [.one (.ptr)]) (K Kp : Value → World → Prop) (w : World) : F.stretch_Set_Sum env x.1 (fun r1 w' => K (.int .u64 r1) w') w =
 ev Go.Proofs.Tryd.prog (tabC []) (ground Go.Proofs.Tryd.prog) ann37 body37 (finQ Go.Proofs.Tryd.prog Go.Proofs.Tryd.f37 K Kp) (initF (mkArgs [.one (.ptr)] x)) w := by kernel_rfl
theorem fits37 : FitsOne Go.Proofs.Tryd.prog 37 C37 :=
 fits_of_tie (T := []) (A := ann37) (fn := Go.Proofs.Tryd.f37) (c := body37) fits_nil mixed Go.Proofs.Tryd.func37 Go.Proofs.Tryd.call37 (by kernel_rfl) (by kernel_rfl) (by kernel_rfl) tie37

noncomputable def C58 : Entry := fun args w K Kp => unArgs [.one (.ptr)] args.toList fun x => F.radix_Tree_Released env x.1 (fun r1 w' => K (.int .u64 r1) w') w
noncomputable def body58 : Code := (Go.Proofs.Tryd.f58.body).getD .skip
def ann58 : Ann := { loops := [], joins := [] }
def T0.radix_Tree_Released (E : Env) (c_stretch_Set_Sum : ∀ (a0 : (Option Addr)) (K : Int → World → Prop) (w : World), Prop) (a0 : (Option Addr)) (K : Int → World → Prop) (w : World) : Prop :=
 NC a0 fun p1 =>
 c_stretch_Set_Sum (some (p1.add 4)) (fun r2 w3 =>
 K r2 w3
 ) w

theorem tieZ58 (c_stretch_Set_Sum : ∀ (a0 : (Option Addr)) (K : Int → World → Prop) (w : World), Prop) (x : ArgsV [.one (.ptr)]) (K Kp : Value → World → Prop) (w : World) : T0.radix_Tree_Released env c_stretch_Set_Sum x.1 (fun r1 w' => K (.int .u64 r1) w') w =
 ev Go.Proofs.Tryd.prog (tabC [(37, fun args w K Kp => unArgs [.one (.ptr)] args.toList fun x => c_stretch_Set_Sum x.1 (fun r1 w' => K (.int .u64 r1) w') w)]) (ground Go.Proofs.Tryd.prog) ann58 body58 (finQ Go.Proofs.Tryd.prog Go.Proofs.Tryd.f58 K Kp) (initF (mkArgs [.one (.ptr)] x)) w := by kernel_rfl
theorem tie58 (x : ArgsV [.one (.ptr)]) (K Kp : Value → World → Prop) (w : World) : F.radix_Tree_Released env x.1 (fun r1 w' => K (.int .u64 r1) w') w =
 ev Go.Proofs.Tryd.prog (tabC [(37, C37)]) (ground Go.Proofs.Tryd.prog) ann58 body58 (finQ Go.Proofs.Tryd.prog Go.Proofs.Tryd.f58 K Kp) (initF (mkArgs [.one (.ptr)] x)) w := tieZ58 (F.stretch_Set_Sum env) x K Kp w
theorem fits58 : FitsOne Go.Proofs.Tryd.prog 58 C58 :=
 fits_of_tie (T := [(37, C37)]) (A := ann58) (fn := Go.Proofs.Tryd.f58) (c := body58) (fits_cons fits37 fits_nil) mixed Go.Proofs.Tryd.func58 Go.Proofs.Tryd.call58 (by kernel_rfl) (by kernel_rfl) (by kernel_rfl) tie58

noncomputable def C59 : Entry := fun args w K Kp => unArgs [.one (.ptr)] args.toList fun x => F.pcache_Cache_Tell env x.1 (fun r1 r2 r3 w' => K (.tuple ⟨[.int .u64 r1, .int .u64 r2, .int .u64 r3]⟩) w') w
noncomputable def body59 : Code := (Go.Proofs.Tryd.f59.body).getD .skip
def ann59 : Ann := { loops := [], joins := [] }
def T0.pcache_Cache_Tell (E : Env) (c_pcache_Cache_Empty : ∀ (a0 : (Option Addr)) (K : Bool → World → Prop) (w : World), Prop) (a0 : (Option Addr)) (K : Int → Int → Int → World → Prop) (w : World) : Prop :=
 c_pcache_Cache_Empty a0 (fun r1 w2 =>
 CND (r1) (
 K 0 0 0 w2
 ) (
 NC a0 fun p3 =>
 ∃ x4 : Int, w2.drew.cell? p3 = some (.int .u64 x4) ∧
 NC a0 fun p5 =>
 ∃ x6 : Int, w2.drew.cell? (p5.add 1) = some (.int .u64 x6) ∧
 NC a0 fun p7 =>
 ∃ x8 : Int, w2.drew.cell? (p7.add 2) = some (.int .u64 x8) ∧
 K x4 x6 x8 w2.drew
 )
 ) w

theorem tieZ59 (c_pcache_Cache_Empty : ∀ (a0 : (Option Addr)) (K : Bool → World → Prop) (w : World), Prop) (x : ArgsV [.one (.ptr)]) (K Kp : Value → World → Prop) (w : World) : T0.pcache_Cache_Tell env c_pcache_Cache_Empty x.1 (fun r1 r2 r3 w' => K (.tuple ⟨[.int .u64 r1, .int .u64 r2, .int .u64 r3]⟩) w') w =
 ev Go.Proofs.Tryd.prog (tabC [(68, fun args w K Kp => unArgs [.one (.ptr)] args.toList fun x => c_pcache_Cache_Empty x.1 (fun r1 w' => K (.bool r1) w') w)]) (ground Go.Proofs.Tryd.prog) ann59 body59 (finQ Go.Proofs.Tryd.prog Go.Proofs.Tryd.f59 K Kp) (initF (mkArgs [.one (.ptr)] x)) w := by kernel_rfl
theorem tie59 (x : ArgsV [.one (.ptr)]) (K Kp : Value → World → Prop) (w : World) : F.pcache_Cache_Tell env x.1 (fun r1 r2 r3 w' => K (.tuple ⟨[.int .u64 r1, .int .u64 r2, .int .u64 r3]⟩) w') w =
 ev Go.Proofs.Tryd.prog (tabC [(68, C68)]) (ground Go.Proofs.Tryd.prog) ann59 body59 (finQ Go.Proofs.Tryd.prog Go.Proofs.Tryd.f59 K Kp) (initF (mkArgs [.one (.ptr)] x)) w := tieZ59 (F.pcache_Cache_Empty env) x K Kp w
theorem fits59 : FitsOne Go.Proofs.Tryd.prog 59 C59 :=
 fits_of_tie (T := [(68, C68)]) (A := ann59) (fn := Go.Proofs.Tryd.f59) (c := body59) (fits_cons fits68 fits_nil) mixed Go.Proofs.Tryd.func59 Go.Proofs.Tryd.call59 (by kernel_rfl) (by kernel_rfl) (by kernel_rfl) tie59

noncomputable def C60 : Entry := fun args w K Kp => unArgs [.one (.ptr)] args.toList fun x => F.arena_Map_Count env x.1 (fun r1 w' => K (.int .u64 r1) w') w
noncomputable def body60 : Code := (Go.Proofs.Tryd.f60.body).getD .skip
def ann60 : Ann := { loops := [], joins := [] }
def T0.arena_Map_Count (E : Env) (c_stretch_Set_Sum : ∀ (a0 : (Option Addr)) (K : Int → World → Prop) (w : World), Prop) (a0 : (Option Addr)) (K : Int → World → Prop) (w : World) : Prop :=
 NC a0 fun p1 =>
 c_stretch_Set_Sum (some p1) (fun r2 w3 =>
 K r2 w3
 ) w

theorem tieZ60 (c_stretch_Set_Sum : ∀ (a0 : (Option Addr)) (K : Int → World → Prop) (w : World), Prop) (x : ArgsV [.one (.ptr)]) (K Kp : Value → World → Prop) (w : World) : T0.arena_Map_Count env c_stretch_Set_Sum x.1 (fun r1 w' => K (.int .u64 r1) w') w =
 ev Go.Proofs.Tryd.prog (tabC [(37, fun args w K Kp => unArgs [.one (.ptr)] args.toList fun x => c_stretch_Set_Sum x.1 (fun r1 w' => K (.int .u64 r1) w') w)]) (ground Go.Proofs.Tryd.prog) ann60 body60 (finQ Go.Proofs.Tryd.prog Go.Proofs.Tryd.f60 K Kp) (initF (mkArgs [.one (.ptr)] x)) w := by kernel_rfl
theorem tie60 (x : ArgsV [.one (.ptr)]) (K Kp : Value → World → Prop) (w : World) : F.arena_Map_Count env x.1 (fun r1 w' => K (.int .u64 r1) w') w =
 ev Go.Proofs.Tryd.prog (tabC [(37, C37)]) (ground Go.Proofs.Tryd.prog) ann60 body60 (finQ Go.Proofs.Tryd.prog Go.Proofs.Tryd.f60 K Kp) (initF (mkArgs [.one (.ptr)] x)) w := tieZ60 (F.stretch_Set_Sum env) x K Kp w
theorem fits60 : FitsOne Go.Proofs.Tryd.prog 60 C60 :=
 fits_of_tie (T := [(37, C37)]) (A := ann60) (fn := Go.Proofs.Tryd.f60) (c := body60) (fits_cons fits37 fits_nil) mixed Go.Proofs.Tryd.func60 Go.Proofs.Tryd.call60 (by kernel_rfl) (by kernel_rfl) (by kernel_rfl) tie60

noncomputable def C30 : Entry := fun args w K Kp => unArgs [.one (.ptr)] args.toList fun x => F.mheap_Heap_Pages env x.1 (fun r1 r2 r3 w' => K (.tuple ⟨[.int .u64 r1, .int .u64 r2, .int .u64 r3]⟩) w') w
noncomputable def body30 : Code := (Go.Proofs.Tryd.f30.body).getD .skip
def ann30 : Ann := { loops := [(3, [(5, .one (.int .u64)), (20, .one (.int .i64))]), (6, [(5, .one (.int .u64)), (10, .one (.int .u64))])], joins := [] }
def T0.mheap_Heap_Pages (E : Env) (c_radix_Tree_Released : ∀ (a0 : (Option Addr)) (K : Int → World → Prop) (w : World), Prop) (c_pcache_Cache_Tell : ∀ (a0 : (Option Addr)) (K : Int → Int → Int → World → Prop) (w : World), Prop) (c_arena_Map_Count : ∀ (a0 : (Option Addr)) (K : Int → World → Prop) (w : World), Prop) (a0 : (Option Addr)) (K : Int → Int → Int → World → Prop) (w : World) : Prop :=
 NC a0 fun p1 =>
 ∃ x2 : (Option Addr), w.cell? (p1.add 1) = some (.pointer x2) ∧
 c_radix_Tree_Released x2 (fun r3 w4 =>
 NC a0 fun p5 =>
 ∃ c6 : (Option Addr), w4.cell? ((p5.add 5).add 0) = some (.pointer c6) ∧
 ∃ c7 : (Option Addr), w4.cell? ((p5.add 5).add 1) = some (.pointer c7) ∧
 ∃ c8 : (Option Addr), w4.cell? ((p5.add 5).add 2) = some (.pointer c8) ∧
 ∃ c9 : (Option Addr), w4.cell? ((p5.add 5).add 3) = some (.pointer c9) ∧
 ∃ c10 : (Option Addr), w4.cell? ((p5.add 5).add 4) = some (.pointer c10) ∧
 ∃ c11 : (Option Addr), w4.cell? ((p5.add 5).add 5) = some (.pointer c11) ∧
 ∃ c12 : (Option Addr), w4.cell? ((p5.add 5).add 6) = some (.pointer c12) ∧
 ∃ c13 : (Option Addr), w4.cell? ((p5.add 5).add 7) = some (.pointer c13) ∧
 ∃ c14 : (Option Addr), w4.cell? ((p5.add 5).add 8) = some (.pointer c14) ∧
 ∃ c15 : (Option Addr), w4.cell? ((p5.add 5).add 9) = some (.pointer c15) ∧
 ∃ c16 : (Option Addr), w4.cell? ((p5.add 5).add 10) = some (.pointer c16) ∧
 ∃ c17 : (Option Addr), w4.cell? ((p5.add 5).add 11) = some (.pointer c17) ∧
 ∃ c18 : (Option Addr), w4.cell? ((p5.add 5).add 12) = some (.pointer c18) ∧
 ∃ c19 : (Option Addr), w4.cell? ((p5.add 5).add 13) = some (.pointer c19) ∧
 ∃ c20 : (Option Addr), w4.cell? ((p5.add 5).add 14) = some (.pointer c20) ∧
 ∃ c21 : (Option Addr), w4.cell? ((p5.add 5).add 15) = some (.pointer c21) ∧
 ∃ c22 : (Option Addr), w4.cell? ((p5.add 5).add 16) = some (.pointer c22) ∧
 ∃ c23 : (Option Addr), w4.cell? ((p5.add 5).add 17) = some (.pointer c23) ∧
 ∃ c24 : (Option Addr), w4.cell? ((p5.add 5).add 18) = some (.pointer c24) ∧
 ∃ c25 : (Option Addr), w4.cell? ((p5.add 5).add 19) = some (.pointer c25) ∧
 ∃ c26 : (Option Addr), w4.cell? ((p5.add 5).add 20) = some (.pointer c26) ∧
 ∃ c27 : (Option Addr), w4.cell? ((p5.add 5).add 21) = some (.pointer c27) ∧
 ∃ c28 : (Option Addr), w4.cell? ((p5.add 5).add 22) = some (.pointer c28) ∧
 ∃ c29 : (Option Addr), w4.cell? ((p5.add 5).add 23) = some (.pointer c29) ∧
 ∃ c30 : (Option Addr), w4.cell? ((p5.add 5).add 24) = some (.pointer c30) ∧
 ∃ c31 : (Option Addr), w4.cell? ((p5.add 5).add 25) = some (.pointer c31) ∧
 ∃ c32 : (Option Addr), w4.cell? ((p5.add 5).add 26) = some (.pointer c32) ∧
 ∃ c33 : (Option Addr), w4.cell? ((p5.add 5).add 27) = some (.pointer c33) ∧
 ∃ c34 : (Option Addr), w4.cell? ((p5.add 5).add 28) = some (.pointer c34) ∧
 ∃ c35 : (Option Addr), w4.cell? ((p5.add 5).add 29) = some (.pointer c35) ∧
 ∃ c36 : (Option Addr), w4.cell? ((p5.add 5).add 30) = some (.pointer c36) ∧
 ∃ c37 : (Option Addr), w4.cell? ((p5.add 5).add 31) = some (.pointer c37) ∧
 ∃ c38 : (Option Addr), w4.cell? ((p5.add 5).add 32) = some (.pointer c38) ∧
 ∃ c39 : (Option Addr), w4.cell? ((p5.add 5).add 33) = some (.pointer c39) ∧
 ∃ c40 : (Option Addr), w4.cell? ((p5.add 5).add 34) = some (.pointer c40) ∧
 ∃ c41 : (Option Addr), w4.cell? ((p5.add 5).add 35) = some (.pointer c41) ∧
 ∃ c42 : (Option Addr), w4.cell? ((p5.add 5).add 36) = some (.pointer c42) ∧
 ∃ c43 : (Option Addr), w4.cell? ((p5.add 5).add 37) = some (.pointer c43) ∧
 ∃ c44 : (Option Addr), w4.cell? ((p5.add 5).add 38) = some (.pointer c44) ∧
 ∃ c45 : (Option Addr), w4.cell? ((p5.add 5).add 39) = some (.pointer c45) ∧
 ∃ c46 : (Option Addr), w4.cell? ((p5.add 5).add 40) = some (.pointer c46) ∧
 ∃ c47 : (Option Addr), w4.cell? ((p5.add 5).add 41) = some (.pointer c47) ∧
 ∃ c48 : (Option Addr), w4.cell? ((p5.add 5).add 42) = some (.pointer c48) ∧
 ∃ c49 : (Option Addr), w4.cell? ((p5.add 5).add 43) = some (.pointer c49) ∧
 ∃ c50 : (Option Addr), w4.cell? ((p5.add 5).add 44) = some (.pointer c50) ∧
 ∃ c51 : (Option Addr), w4.cell? ((p5.add 5).add 45) = some (.pointer c51) ∧
 ∃ c52 : (Option Addr), w4.cell? ((p5.add 5).add 46) = some (.pointer c52) ∧
 ∃ c53 : (Option Addr), w4.cell? ((p5.add 5).add 47) = some (.pointer c53) ∧
 ∃ c54 : (Option Addr), w4.cell? ((p5.add 5).add 48) = some (.pointer c54) ∧
 ∃ c55 : (Option Addr), w4.cell? ((p5.add 5).add 49) = some (.pointer c55) ∧
 ∃ c56 : (Option Addr), w4.cell? ((p5.add 5).add 50) = some (.pointer c56) ∧
 ∃ c57 : (Option Addr), w4.cell? ((p5.add 5).add 51) = some (.pointer c57) ∧
 ∃ c58 : (Option Addr), w4.cell? ((p5.add 5).add 52) = some (.pointer c58) ∧
 ∃ c59 : (Option Addr), w4.cell? ((p5.add 5).add 53) = some (.pointer c59) ∧
 ∃ c60 : (Option Addr), w4.cell? ((p5.add 5).add 54) = some (.pointer c60) ∧
 ∃ c61 : (Option Addr), w4.cell? ((p5.add 5).add 55) = some (.pointer c61) ∧
 ∃ c62 : (Option Addr), w4.cell? ((p5.add 5).add 56) = some (.pointer c62) ∧
 ∃ c63 : (Option Addr), w4.cell? ((p5.add 5).add 57) = some (.pointer c63) ∧
 ∃ c64 : (Option Addr), w4.cell? ((p5.add 5).add 58) = some (.pointer c64) ∧
 ∃ c65 : (Option Addr), w4.cell? ((p5.add 5).add 59) = some (.pointer c65) ∧
 ∃ c66 : (Option Addr), w4.cell? ((p5.add 5).add 60) = some (.pointer c66) ∧
 ∃ c67 : (Option Addr), w4.cell? ((p5.add 5).add 61) = some (.pointer c67) ∧
 ∃ c68 : (Option Addr), w4.cell? ((p5.add 5).add 62) = some (.pointer c68) ∧
 ∃ c69 : (Option Addr), w4.cell? ((p5.add 5).add 63) = some (.pointer c69) ∧
 LOOP (Int × Int × Unit) (r3, 0, ()) w4 fun s70 _ w71 next72 =>
 CND (decide ((s70.2.1 : Int) < 64)) (
 ((0 : Int) ≤ s70.2.1 ∧ (s70.2.1 : Int) < (64 : Nat)) ∧
 c_pcache_Cache_Tell (List.getD [c6, c7, c8, c9, c10, c11, c12, c13, c14, c15, c16, c17, c18, c19, c20, c21, c22, c23, c24, c25, c26, c27, c28, c29, c30, c31, c32, c33, c34, c35, c36, c37, c38, c39, c40, c41, c42, c43, c44, c45, c46, c47, c48, c49, c50, c51, c52, c53, c54, c55, c56, c57, c58, c59, c60, c61, c62, c63, c64, c65, c66, c67, c68, c69] (Int.toNat s70.2.1) none) (fun r73 r74 r75 w76 =>
 LOOP (Int × Int × Unit) (s70.1, r75, ()) w76 fun s77 _ w78 next79 =>
 CND ((s77.2.1 : Int) != 0) (
 LET (bitK .u64 0 s77.2.1 (u64 (s77.2.1 - 1)) : Int) fun r_80 =>
 next79 (u64 (s77.1 + 1), r_80, ()) w78
 ) (
 next72 (s77.1, i64 (s70.2.1 + 1), ()) w78
 )
 ) w71
 ) (
 NC a0 fun p81 =>
 ∃ x82 : (Option Addr), w71.drew.cell? (p81.add 2) = some (.pointer x82) ∧
 NC a0 fun p83 =>
 ∃ x84 : Int, w71.drew.cell? (p83.add 70) = some (.int .u64 x84) ∧
 c_arena_Map_Count x82 (fun r85 w86 =>
 w86.cell? (p83.add 70) = some (.int .u64 x84) ∧
 K (u64 (r85 * 512)) x84 s70.1 w86
 ) w71.drew
 )
 ) w

theorem tieZ30 (c_radix_Tree_Released : ∀ (a0 : (Option Addr)) (K : Int → World → Prop) (w : World), Prop) (c_pcache_Cache_Tell : ∀ (a0 : (Option Addr)) (K : Int → Int → Int → World → Prop) (w : World), Prop) (c_arena_Map_Count : ∀ (a0 : (Option Addr)) (K : Int → World → Prop) (w : World), Prop) (x : ArgsV [.one (.ptr)]) (K Kp : Value → World → Prop) (w : World) : T0.mheap_Heap_Pages env c_radix_Tree_Released c_pcache_Cache_Tell c_arena_Map_Count x.1 (fun r1 r2 r3 w' => K (.tuple ⟨[.int .u64 r1, .int .u64 r2, .int .u64 r3]⟩) w') w =
 ev Go.Proofs.Tryd.prog (tabC [(58, fun args w K Kp => unArgs [.one (.ptr)] args.toList fun x => c_radix_Tree_Released x.1 (fun r1 w' => K (.int .u64 r1) w') w), (59, fun args w K Kp => unArgs [.one (.ptr)] args.toList fun x => c_pcache_Cache_Tell x.1 (fun r1 r2 r3 w' => K (.tuple ⟨[.int .u64 r1, .int .u64 r2, .int .u64 r3]⟩) w') w), (60, fun args w K Kp => unArgs [.one (.ptr)] args.toList fun x => c_arena_Map_Count x.1 (fun r1 w' => K (.int .u64 r1) w') w)]) (ground Go.Proofs.Tryd.prog) ann30 body30 (finQ Go.Proofs.Tryd.prog Go.Proofs.Tryd.f30 K Kp) (initF (mkArgs [.one (.ptr)] x)) w := by kernel_rfl
theorem tie30 (x : ArgsV [.one (.ptr)]) (K Kp : Value → World → Prop) (w : World) : F.mheap_Heap_Pages env x.1 (fun r1 r2 r3 w' => K (.tuple ⟨[.int .u64 r1, .int .u64 r2, .int .u64 r3]⟩) w') w =
 ev Go.Proofs.Tryd.prog (tabC [(58, C58), (59, C59), (60, C60)]) (ground Go.Proofs.Tryd.prog) ann30 body30 (finQ Go.Proofs.Tryd.prog Go.Proofs.Tryd.f30 K Kp) (initF (mkArgs [.one (.ptr)] x)) w := tieZ30 (F.radix_Tree_Released env) (F.pcache_Cache_Tell env) (F.arena_Map_Count env) x K Kp w
theorem fits30 : FitsOne Go.Proofs.Tryd.prog 30 C30 :=
 fits_of_tie (T := [(58, C58), (59, C59), (60, C60)]) (A := ann30) (fn := Go.Proofs.Tryd.f30) (c := body30) (fits_cons fits58 (fits_cons fits59 (fits_cons fits60 fits_nil))) mixed Go.Proofs.Tryd.func30 Go.Proofs.Tryd.call30 (by kernel_rfl) (by kernel_rfl) (by kernel_rfl) tie30

noncomputable def C61 : Entry := fun args w K Kp => unArgs [.one (.int .u64)] args.toList fun x => F.math_Float64frombits env x.1 (fun r1 w' => K (.float .f64 r1) w') w
theorem fits61 : FitsAny Go.Proofs.Tryd.prog 61 C61 :=
 fitsX_of Go.Proofs.Tryd.func61 (by kernel_rfl) (by kernel_rfl) (by kernel_rfl) (e := Extern.MathFloatBits.float64frombits) (by kernel_rfl) (ext_frombits rfl)

noncomputable def C31 : Entry := fun args w K Kp => unArgs [.one (.int .u64), .one (.int .u64)] args.toList fun x => F.ratio_Times env x.1 x.2.1 (fun r1 w' => K (.int .u64 r1) w') w
noncomputable def body31 : Code := (Go.Proofs.Tryd.f31.body).getD .skip
def ann31 : Ann := { loops := [], joins := [] }
def T0.ratio_Times (E : Env) (c_math_Float64frombits : ∀ (a0 : Int) (K : Nat → World → Prop) (w : World), Prop) (a0 : Int) (a1 : Int) (K : Int → World → Prop) (w : World) : Prop :=
 c_math_Float64frombits a1 (fun r1 w2 =>
 FRES (fArith .mul (fNear a0) r1) w2 fun x3 w4 =>
 CND ((fOrd x3 4895412794951729152 == some .gt || fOrd x3 4895412794951729152 == some .eq)) (
 K 18446744073709551615 w4
 ) (
 CND ((fOrd x3 4607182418800017408 == some .gt || fOrd x3 4607182418800017408 == some .eq)) (
 ∃ n5 : Int, fInt x3 = some n5 ∧ (IntKind.min .u64 ≤ n5 ∧ n5 ≤ IntKind.max .u64) ∧
 K n5 w4
 ) (
 K 0 w4
 )
 )
 ) w

theorem tieZ31 (c_math_Float64frombits : ∀ (a0 : Int) (K : Nat → World → Prop) (w : World), Prop) (x : ArgsV [.one (.int .u64), .one (.int .u64)]) (K Kp : Value → World → Prop) (w : World) : T0.ratio_Times env c_math_Float64frombits x.1 x.2.1 (fun r1 w' => K (.int .u64 r1) w') w =
 ev Go.Proofs.Tryd.prog (tabC [(61, fun args w K Kp => unArgs [.one (.int .u64)] args.toList fun x => c_math_Float64frombits x.1 (fun r1 w' => K (.float .f64 r1) w') w)]) (ground Go.Proofs.Tryd.prog) ann31 body31 (finQ Go.Proofs.Tryd.prog Go.Proofs.Tryd.f31 K Kp) (initF (mkArgs [.one (.int .u64), .one (.int .u64)] x)) w := by kernel_rfl
theorem tie31 (x : ArgsV [.one (.int .u64), .one (.int .u64)]) (K Kp : Value → World → Prop) (w : World) : F.ratio_Times env x.1 x.2.1 (fun r1 w' => K (.int .u64 r1) w') w =
 ev Go.Proofs.Tryd.prog (tabC [(61, C61)]) (ground Go.Proofs.Tryd.prog) ann31 body31 (finQ Go.Proofs.Tryd.prog Go.Proofs.Tryd.f31 K Kp) (initF (mkArgs [.one (.int .u64), .one (.int .u64)] x)) w := tieZ31 (F.math_Float64frombits env) x K Kp w
theorem fits31 : FitsOne Go.Proofs.Tryd.prog 31 C31 :=
 fits_of_tie (T := [(61, C61)]) (A := ann31) (fn := Go.Proofs.Tryd.f31) (c := body31) (fits_consX fits61 fits_nil) mixed Go.Proofs.Tryd.func31 Go.Proofs.Tryd.call31 (by kernel_rfl) (by kernel_rfl) (by kernel_rfl) tie31

noncomputable def C10 : Entry := fun args w K Kp => unArgs [.one (.ptr)] args.toList fun x => F.scav_Pacer_Want env x.1 (fun r1 w' => K (.int .u64 r1) w') w
noncomputable def body10 : Code := (Go.Proofs.Tryd.f10.body).getD .skip
def ann10 : Ann := { loops := [], joins := [] }
def T0.scav_Pacer_Want (E : Env) (c_mheap_Heap_Pages : ∀ (a0 : (Option Addr)) (K : Int → Int → Int → World → Prop) (w : World), Prop) (c_ratio_Times : ∀ (a0 : Int) (a1 : Int) (K : Int → World → Prop) (w : World), Prop) (a0 : (Option Addr)) (K : Int → World → Prop) (w : World) : Prop :=
 NC a0 fun p1 =>
 ∃ x2 : (Option Addr), w.cell? p1 = some (.pointer x2) ∧
 c_mheap_Heap_Pages x2 (fun r3 r4 r5 w6 =>
 NC a0 fun p7 =>
 ∃ x8 : Int, w6.cell? (p7.add 1) = some (.int .u64 x8) ∧
 c_ratio_Times r4 x8 (fun r9 w10 =>
 CND (decide (((u64 (r3 - r5)) : Int) ≤ (maxI r4 r9))) (
 K 0 w10
 ) (
 LET (u64 ((u64 (r3 - r5)) - (maxI r4 r9)) : Int) fun t11 =>
 K t11 w10
 )
 ) w6
 ) w

theorem tieZ10 (c_mheap_Heap_Pages : ∀ (a0 : (Option Addr)) (K : Int → Int → Int → World → Prop) (w : World), Prop) (c_ratio_Times : ∀ (a0 : Int) (a1 : Int) (K : Int → World → Prop) (w : World), Prop) (x : ArgsV [.one (.ptr)]) (K Kp : Value → World → Prop) (w : World) : T0.scav_Pacer_Want env c_mheap_Heap_Pages c_ratio_Times x.1 (fun r1 w' => K (.int .u64 r1) w') w =
 ev Go.Proofs.Tryd.prog (tabC [(30, fun args w K Kp => unArgs [.one (.ptr)] args.toList fun x => c_mheap_Heap_Pages x.1 (fun r1 r2 r3 w' => K (.tuple ⟨[.int .u64 r1, .int .u64 r2, .int .u64 r3]⟩) w') w), (31, fun args w K Kp => unArgs [.one (.int .u64), .one (.int .u64)] args.toList fun x => c_ratio_Times x.1 x.2.1 (fun r1 w' => K (.int .u64 r1) w') w)]) (ground Go.Proofs.Tryd.prog) ann10 body10 (finQ Go.Proofs.Tryd.prog Go.Proofs.Tryd.f10 K Kp) (initF (mkArgs [.one (.ptr)] x)) w := by kernel_rfl
theorem tie10 (x : ArgsV [.one (.ptr)]) (K Kp : Value → World → Prop) (w : World) : F.scav_Pacer_Want env x.1 (fun r1 w' => K (.int .u64 r1) w') w =
 ev Go.Proofs.Tryd.prog (tabC [(30, C30), (31, C31)]) (ground Go.Proofs.Tryd.prog) ann10 body10 (finQ Go.Proofs.Tryd.prog Go.Proofs.Tryd.f10 K Kp) (initF (mkArgs [.one (.ptr)] x)) w := tieZ10 (F.mheap_Heap_Pages env) (F.ratio_Times env) x K Kp w
theorem fits10 : FitsOne Go.Proofs.Tryd.prog 10 C10 :=
 fits_of_tie (T := [(30, C30), (31, C31)]) (A := ann10) (fn := Go.Proofs.Tryd.f10) (c := body10) (fits_cons fits30 (fits_cons fits31 fits_nil)) mixed Go.Proofs.Tryd.func10 Go.Proofs.Tryd.call10 (by kernel_rfl) (by kernel_rfl) (by kernel_rfl) tie10

noncomputable def C62 : Entry := fun args w K Kp => unArgs [.one (.ptr), .one (.int .u64)] args.toList fun x => F.radix_Tree_Scavenge env x.1 x.2.1 (fun r1 r2 w' => K (.tuple ⟨[.int .u64 r1, .int .u64 r2]⟩) w') w
noncomputable def body62 : Code := (Go.Proofs.Tryd.f62.body).getD .skip
def ann62 : Ann := { loops := [], joins := [(3, [(20, .one (.bool))])] }
def T0.radix_Tree_Scavenge (E : Env) (c_stretch_Set_All : ∀ (a0 : (Option Addr)) (K : SlV → World → Prop) (w : World), Prop) (c_stretch_Set_Cut : ∀ (a0 : (Option Addr)) (a1 : Int) (a2 : Int) (K : World → Prop) (w : World), Prop) (c_stretch_Set_Add : ∀ (a0 : (Option Addr)) (a1 : Int) (a2 : Int) (K : World → Prop) (w : World), Prop) (a0 : (Option Addr)) (a1 : Int) (K : Int → Int → World → Prop) (w : World) : Prop :=
 NC a0 fun p1 =>
 c_stretch_Set_All (some (p1.add 6)) (fun r2 w3 =>
 JOIN (Bool × Unit) (fun J4 =>
 CND ((((r2.len : Nat) : Int) : Int) == 0) (
 J4 (true, ()) w3
 ) (
 J4 ((a1 : Int) == 0, ()) w3
 )
 ) fun s5 _ w6 =>
 CND (s5.1) (
 K 0 0 w6
 ) (
 NC r2.base fun p7 =>
 ((0 : Int) ≤ (i64 (((r2.len : Nat) : Int) - 1)) ∧ ((i64 (((r2.len : Nat) : Int) - 1)) : Int) < (r2.len : Nat)) ∧
 ∃ c8 : Int, w6.cell? ((p7.add (Int.toNat (i64 (((r2.len : Nat) : Int) - 1)) * 2)).add 0) = some (.int .u64 c8) ∧
 ∃ c9 : Int, w6.cell? ((p7.add (Int.toNat (i64 (((r2.len : Nat) : Int) - 1)) * 2)).add 1) = some (.int .u64 c9) ∧
 AL (.cells #[.int .u64 0, .int .u64 0] E.t_stretch_One) w6 fun b10 w11 =>
 stCells (Addr.mk b10 0 none) 0 [.int .u64 c8, .int .u64 c9] w11 fun w12 =>
 ∃ x13 : Int, w12.cell? (Addr.mk b10 0 none) = some (.int .u64 x13) ∧
 ∃ x14 : Int, w12.cell? ((Addr.mk b10 0 none).add 1) = some (.int .u64 x14) ∧
 512 ≠ (0 : Int) ∧
 LET (maxI x13 (u64 ((u64 (Int.tdiv (u64 (x14 - 1)) 512)) * 512)) : Int) fun from_15 =>
 ∃ x16 : Int, w12.cell? ((Addr.mk b10 0 none).add 1) = some (.int .u64 x16) ∧
 LET (minI (u64 (x16 - from_15)) a1 : Int) fun n_17 =>
 ∃ x18 : Int, w12.cell? ((Addr.mk b10 0 none).add 1) = some (.int .u64 x18) ∧
 NC a0 fun p19 =>
 c_stretch_Set_Cut (some (p19.add 6)) (u64 (x18 - n_17)) (u64 ((u64 (x18 - n_17)) + n_17)) (fun  w20 =>
 NC a0 fun p21 =>
 c_stretch_Set_Add (some (p21.add 4)) (u64 (x18 - n_17)) (u64 ((u64 (x18 - n_17)) + n_17)) (fun  w22 =>
 K (u64 (x18 - n_17)) n_17 w22
 ) w20
 ) w12
 )
 ) w

theorem tieZ62 (c_stretch_Set_All : ∀ (a0 : (Option Addr)) (K : SlV → World → Prop) (w : World), Prop) (c_stretch_Set_Cut : ∀ (a0 : (Option Addr)) (a1 : Int) (a2 : Int) (K : World → Prop) (w : World), Prop) (c_stretch_Set_Add : ∀ (a0 : (Option Addr)) (a1 : Int) (a2 : Int) (K : World → Prop) (w : World), Prop) (x : ArgsV [.one (.ptr), .one (.int .u64)]) (K Kp : Value → World → Prop) (w : World) : T0.radix_Tree_Scavenge env c_stretch_Set_All c_stretch_Set_Cut c_stretch_Set_Add x.1 x.2.1 (fun r1 r2 w' => K (.tuple ⟨[.int .u64 r1, .int .u64 r2]⟩) w') w =
 ev Go.Proofs.Tryd.prog (tabC [(86, fun args w K Kp => unArgs [.one (.ptr)] args.toList fun x => c_stretch_Set_All x.1 (fun r1 w' => K (.slice r1.base r1.len r1.cap) w') w), (82, fun args w K Kp => unArgs [.one (.ptr), .one (.int .u64), .one (.int .u64)] args.toList fun x => c_stretch_Set_Cut x.1 x.2.1 x.2.2.1 (fun  w' => K (.tuple ⟨[]⟩) w') w), (83, fun args w K Kp => unArgs [.one (.ptr), .one (.int .u64), .one (.int .u64)] args.toList fun x => c_stretch_Set_Add x.1 x.2.1 x.2.2.1 (fun  w' => K (.tuple ⟨[]⟩) w') w)]) (ground Go.Proofs.Tryd.prog) ann62 body62 (finQ Go.Proofs.Tryd.prog Go.Proofs.Tryd.f62 K Kp) (initF (mkArgs [.one (.ptr), .one (.int .u64)] x)) w := by kernel_rfl
theorem tie62 (x : ArgsV [.one (.ptr), .one (.int .u64)]) (K Kp : Value → World → Prop) (w : World) : F.radix_Tree_Scavenge env x.1 x.2.1 (fun r1 r2 w' => K (.tuple ⟨[.int .u64 r1, .int .u64 r2]⟩) w') w =
 ev Go.Proofs.Tryd.prog (tabC [(86, C86), (82, C82), (83, C83)]) (ground Go.Proofs.Tryd.prog) ann62 body62 (finQ Go.Proofs.Tryd.prog Go.Proofs.Tryd.f62 K Kp) (initF (mkArgs [.one (.ptr), .one (.int .u64)] x)) w := tieZ62 (F.stretch_Set_All env) (F.stretch_Set_Cut env) (F.stretch_Set_Add env) x K Kp w
theorem fits62 : FitsOne Go.Proofs.Tryd.prog 62 C62 :=
 fits_of_tie (T := [(86, C86), (82, C82), (83, C83)]) (A := ann62) (fn := Go.Proofs.Tryd.f62) (c := body62) (fits_cons fits86 (fits_cons fits82 (fits_cons fits83 fits_nil))) mixed Go.Proofs.Tryd.func62 Go.Proofs.Tryd.call62 (by kernel_rfl) (by kernel_rfl) (by kernel_rfl) tie62

noncomputable def C87 : Entry := fun args w K Kp => unArgs [.one (.map), .one (.int .u64), .one (.int .u64)] args.toList fun x => F.vmem_forget_uint64_ env x.1 x.2.1 x.2.2.1 (fun  w' => K (.tuple ⟨[]⟩) w') w
noncomputable def body87 : Code := (Go.Proofs.Tryd.f87.body).getD .skip
def ann87 : Ann := { loops := [(2, []), (7, [(7, .one (.int .u64))])], joins := [(3, [(18, .one (.bool))]), (5, [(28, .one (.bool))])] }
theorem tie87 (x : ArgsV [.one (.map), .one (.int .u64), .one (.int .u64)]) (K Kp : Value → World → Prop) (w : World) : F.vmem_forget_uint64_ env x.1 x.2.1 x.2.2.1 (fun  w' => K (.tuple ⟨[]⟩) w') w =
 ev Go.Proofs.Tryd.prog (tabC []) (ground Go.Proofs.Tryd.prog) ann87 body87 (finQ Go.Proofs.Tryd.prog Go.Proofs.Tryd.f87 K Kp) (initF (mkArgs [.one (.map), .one (.int .u64), .one (.int .u64)] x)) w := by kernel_rfl
theorem fits87 : FitsOne Go.Proofs.Tryd.prog 87 C87 :=
 fits_of_tie (T := []) (A := ann87) (fn := Go.Proofs.Tryd.f87) (c := body87) fits_nil mixed Go.Proofs.Tryd.func87 Go.Proofs.Tryd.call87 (by kernel_rfl) (by kernel_rfl) (by kernel_rfl) tie87

noncomputable def C88 : Entry := fun args w K Kp => unArgs [.one (.map), .one (.int .u64), .one (.int .u64)] args.toList fun x => F.vmem_forget___1024_uint64_ env x.1 x.2.1 x.2.2.1 (fun  w' => K (.tuple ⟨[]⟩) w') w
noncomputable def body88 : Code := (Go.Proofs.Tryd.f88.body).getD .skip
def ann88 : Ann := { loops := [(2, []), (7, [(7, .one (.int .u64))])], joins := [(3, [(18, .one (.bool))]), (5, [(28, .one (.bool))])] }
theorem tie88 (x : ArgsV [.one (.map), .one (.int .u64), .one (.int .u64)]) (K Kp : Value → World → Prop) (w : World) : F.vmem_forget___1024_uint64_ env x.1 x.2.1 x.2.2.1 (fun  w' => K (.tuple ⟨[]⟩) w') w =
 ev Go.Proofs.Tryd.prog (tabC []) (ground Go.Proofs.Tryd.prog) ann88 body88 (finQ Go.Proofs.Tryd.prog Go.Proofs.Tryd.f88 K Kp) (initF (mkArgs [.one (.map), .one (.int .u64), .one (.int .u64)] x)) w := by kernel_rfl
theorem fits88 : FitsOne Go.Proofs.Tryd.prog 88 C88 :=
 fits_of_tie (T := []) (A := ann88) (fn := Go.Proofs.Tryd.f88) (c := body88) fits_nil mixed Go.Proofs.Tryd.func88 Go.Proofs.Tryd.call88 (by kernel_rfl) (by kernel_rfl) (by kernel_rfl) tie88

noncomputable def C63 : Entry := fun args w K Kp => unArgs [.one (.ptr), .one (.int .u64), .one (.int .u64)] args.toList fun x => F.vmem_Mem_Release env x.1 x.2.1 x.2.2.1 (fun r1 w' => K (.int .i64 r1) w') w
noncomputable def body63 : Code := (Go.Proofs.Tryd.f63.body).getD .skip
def ann63 : Ann := { loops := [], joins := [] }
def T0.vmem_Mem_Release (E : Env) (c_vmem_right : ∀ (a0 : Int) (a1 : Int) (K : Bool → World → Prop) (w : World), Prop) (c_stretch_Set_Count : ∀ (a0 : (Option Addr)) (a1 : Int) (a2 : Int) (K : Int → World → Prop) (w : World), Prop) (c_stretch_Set_Cut : ∀ (a0 : (Option Addr)) (a1 : Int) (a2 : Int) (K : World → Prop) (w : World), Prop) (c_stretch_Set_Add : ∀ (a0 : (Option Addr)) (a1 : Int) (a2 : Int) (K : World → Prop) (w : World), Prop) (c_vmem_forget_uint64_ : ∀ (a0 : (Option Nat)) (a1 : Int) (a2 : Int) (K : World → Prop) (w : World), Prop) (c_vmem_forget___1024_uint64_ : ∀ (a0 : (Option Nat)) (a1 : Int) (a2 : Int) (K : World → Prop) (w : World), Prop) (a0 : (Option Addr)) (a1 : Int) (a2 : Int) (K : Int → World → Prop) (w : World) : Prop :=
 c_vmem_right a1 a2 (fun r1 w2 =>
 CND (!r1) (
 K 1 w2
 ) (
 NC a0 fun p3 =>
 c_stretch_Set_Count (some (p3.add 5)) a1 (u64 (a1 + a2)) (fun r4 w5 =>
 CND ((r4 : Int) != a2) (
 K 33 w5
 ) (
 NC a0 fun p6 =>
 c_stretch_Set_Cut (some (p6.add 5)) a1 (u64 (a1 + a2)) (fun  w7 =>
 NC a0 fun p8 =>
 c_stretch_Set_Add (some (p8.add 7)) a1 (u64 (a1 + a2)) (fun  w9 =>
 NC a0 fun p10 =>
 ∃ x11 : (Option Nat), w9.cell? (p10.add 9) = some (.map x11) ∧
 c_vmem_forget_uint64_ x11 a1 (u64 (a1 + a2)) (fun  w12 =>
 NC a0 fun p13 =>
 ∃ x14 : (Option Nat), w12.cell? (p13.add 10) = some (.map x14) ∧
 c_vmem_forget___1024_uint64_ x14 a1 (u64 (a1 + a2)) (fun  w15 =>
 K 0 w15
 ) w12
 ) w9
 ) w7
 ) w5
 )
 ) w2
 )
 ) w

theorem tieZ63 (c_vmem_right : ∀ (a0 : Int) (a1 : Int) (K : Bool → World → Prop) (w : World), Prop) (c_stretch_Set_Count : ∀ (a0 : (Option Addr)) (a1 : Int) (a2 : Int) (K : Int → World → Prop) (w : World), Prop) (c_stretch_Set_Cut : ∀ (a0 : (Option Addr)) (a1 : Int) (a2 : Int) (K : World → Prop) (w : World), Prop) (c_stretch_Set_Add : ∀ (a0 : (Option Addr)) (a1 : Int) (a2 : Int) (K : World → Prop) (w : World), Prop) (c_vmem_forget_uint64_ : ∀ (a0 : (Option Nat)) (a1 : Int) (a2 : Int) (K : World → Prop) (w : World), Prop) (c_vmem_forget___1024_uint64_ : ∀ (a0 : (Option Nat)) (a1 : Int) (a2 : Int) (K : World → Prop) (w : World), Prop) (x : ArgsV [.one (.ptr), .one (.int .u64), .one (.int .u64)]) (K Kp : Value → World → Prop) (w : World) : T0.vmem_Mem_Release env c_vmem_right c_stretch_Set_Count c_stretch_Set_Cut c_stretch_Set_Add c_vmem_forget_uint64_ c_vmem_forget___1024_uint64_ x.1 x.2.1 x.2.2.1 (fun r1 w' => K (.int .i64 r1) w') w =
 ev Go.Proofs.Tryd.prog (tabC [(78, fun args w K Kp => unArgs [.one (.int .u64), .one (.int .u64)] args.toList fun x => c_vmem_right x.1 x.2.1 (fun r1 w' => K (.bool r1) w') w), (52, fun args w K Kp => unArgs [.one (.ptr), .one (.int .u64), .one (.int .u64)] args.toList fun x => c_stretch_Set_Count x.1 x.2.1 x.2.2.1 (fun r1 w' => K (.int .u64 r1) w') w), (82, fun args w K Kp => unArgs [.one (.ptr), .one (.int .u64), .one (.int .u64)] args.toList fun x => c_stretch_Set_Cut x.1 x.2.1 x.2.2.1 (fun  w' => K (.tuple ⟨[]⟩) w') w), (83, fun args w K Kp => unArgs [.one (.ptr), .one (.int .u64), .one (.int .u64)] args.toList fun x => c_stretch_Set_Add x.1 x.2.1 x.2.2.1 (fun  w' => K (.tuple ⟨[]⟩) w') w), (87, fun args w K Kp => unArgs [.one (.map), .one (.int .u64), .one (.int .u64)] args.toList fun x => c_vmem_forget_uint64_ x.1 x.2.1 x.2.2.1 (fun  w' => K (.tuple ⟨[]⟩) w') w), (88, fun args w K Kp => unArgs [.one (.map), .one (.int .u64), .one (.int .u64)] args.toList fun x => c_vmem_forget___1024_uint64_ x.1 x.2.1 x.2.2.1 (fun  w' => K (.tuple ⟨[]⟩) w') w)]) (ground Go.Proofs.Tryd.prog) ann63 body63 (finQ Go.Proofs.Tryd.prog Go.Proofs.Tryd.f63 K Kp) (initF (mkArgs [.one (.ptr), .one (.int .u64), .one (.int .u64)] x)) w := by kernel_rfl
theorem tie63 (x : ArgsV [.one (.ptr), .one (.int .u64), .one (.int .u64)]) (K Kp : Value → World → Prop) (w : World) : F.vmem_Mem_Release env x.1 x.2.1 x.2.2.1 (fun r1 w' => K (.int .i64 r1) w') w =
 ev Go.Proofs.Tryd.prog (tabC [(78, C78), (52, C52), (82, C82), (83, C83), (87, C87), (88, C88)]) (ground Go.Proofs.Tryd.prog) ann63 body63 (finQ Go.Proofs.Tryd.prog Go.Proofs.Tryd.f63 K Kp) (initF (mkArgs [.one (.ptr), .one (.int .u64), .one (.int .u64)] x)) w := tieZ63 (F.vmem_right env) (F.stretch_Set_Count env) (F.stretch_Set_Cut env) (F.stretch_Set_Add env) (F.vmem_forget_uint64_ env) (F.vmem_forget___1024_uint64_ env) x K Kp w
theorem fits63 : FitsOne Go.Proofs.Tryd.prog 63 C63 :=
 fits_of_tie (T := [(78, C78), (52, C52), (82, C82), (83, C83), (87, C87), (88, C88)]) (A := ann63) (fn := Go.Proofs.Tryd.f63) (c := body63) (fits_cons fits78 (fits_cons fits52 (fits_cons fits82 (fits_cons fits83 (fits_cons fits87 (fits_cons fits88 fits_nil)))))) mixed Go.Proofs.Tryd.func63 Go.Proofs.Tryd.call63 (by kernel_rfl) (by kernel_rfl) (by kernel_rfl) tie63

noncomputable def C32 : Entry := fun args w K Kp => unArgs [.one (.ptr), .one (.int .u64)] args.toList fun x => F.mheap_Heap_Scavenge env x.1 x.2.1 (fun r1 w' => K (.int .u64 r1) w') w
noncomputable def body32 : Code := (Go.Proofs.Tryd.f32.body).getD .skip
def ann32 : Ann := { loops := [(2, [(5, .one (.int .u64))])], joins := [] }
def T0.mheap_Heap_Scavenge (E : Env) (c_radix_Tree_Scavenge : ∀ (a0 : (Option Addr)) (a1 : Int) (K : Int → Int → World → Prop) (w : World), Prop) (c_vmem_Mem_Release : ∀ (a0 : (Option Addr)) (a1 : Int) (a2 : Int) (K : Int → World → Prop) (w : World), Prop) (a0 : (Option Addr)) (a1 : Int) (K : Int → World → Prop) (w : World) : Prop :=
 LOOP (Int × Unit) (a1, ()) w fun s1 _ w2 next3 =>
 CND (decide ((s1.1 : Int) > 0)) (
 NC a0 fun p4 =>
 ∃ x5 : (Option Addr), w2.cell? (p4.add 1) = some (.pointer x5) ∧
 c_radix_Tree_Scavenge x5 s1.1 (fun r6 r7 w8 =>
 CND ((r7 : Int) == 0) (
 K (u64 (a1 - s1.1)) w8
 ) (
 NC a0 fun p9 =>
 ∃ x10 : (Option Addr), w8.cell? p9 = some (.pointer x10) ∧
 c_vmem_Mem_Release x10 r6 r7 (fun r11 w12 =>
 next3 (u64 (s1.1 - r7), ()) w12
 ) w8
 )
 ) w2
 ) (
 K (u64 (a1 - s1.1)) w2
 )

theorem tieZ32 (c_radix_Tree_Scavenge : ∀ (a0 : (Option Addr)) (a1 : Int) (K : Int → Int → World → Prop) (w : World), Prop) (c_vmem_Mem_Release : ∀ (a0 : (Option Addr)) (a1 : Int) (a2 : Int) (K : Int → World → Prop) (w : World), Prop) (x : ArgsV [.one (.ptr), .one (.int .u64)]) (K Kp : Value → World → Prop) (w : World) : T0.mheap_Heap_Scavenge env c_radix_Tree_Scavenge c_vmem_Mem_Release x.1 x.2.1 (fun r1 w' => K (.int .u64 r1) w') w =
 ev Go.Proofs.Tryd.prog (tabC [(62, fun args w K Kp => unArgs [.one (.ptr), .one (.int .u64)] args.toList fun x => c_radix_Tree_Scavenge x.1 x.2.1 (fun r1 r2 w' => K (.tuple ⟨[.int .u64 r1, .int .u64 r2]⟩) w') w), (63, fun args w K Kp => unArgs [.one (.ptr), .one (.int .u64), .one (.int .u64)] args.toList fun x => c_vmem_Mem_Release x.1 x.2.1 x.2.2.1 (fun r1 w' => K (.int .i64 r1) w') w)]) (ground Go.Proofs.Tryd.prog) ann32 body32 (finQ Go.Proofs.Tryd.prog Go.Proofs.Tryd.f32 K Kp) (initF (mkArgs [.one (.ptr), .one (.int .u64)] x)) w := by kernel_rfl
theorem tie32 (x : ArgsV [.one (.ptr), .one (.int .u64)]) (K Kp : Value → World → Prop) (w : World) : F.mheap_Heap_Scavenge env x.1 x.2.1 (fun r1 w' => K (.int .u64 r1) w') w =
 ev Go.Proofs.Tryd.prog (tabC [(62, C62), (63, C63)]) (ground Go.Proofs.Tryd.prog) ann32 body32 (finQ Go.Proofs.Tryd.prog Go.Proofs.Tryd.f32 K Kp) (initF (mkArgs [.one (.ptr), .one (.int .u64)] x)) w := tieZ32 (F.radix_Tree_Scavenge env) (F.vmem_Mem_Release env) x K Kp w
theorem fits32 : FitsOne Go.Proofs.Tryd.prog 32 C32 :=
 fits_of_tie (T := [(62, C62), (63, C63)]) (A := ann32) (fn := Go.Proofs.Tryd.f32) (c := body32) (fits_cons fits62 (fits_cons fits63 fits_nil)) mixed Go.Proofs.Tryd.func32 Go.Proofs.Tryd.call32 (by kernel_rfl) (by kernel_rfl) (by kernel_rfl) tie32

noncomputable def C12 : Entry := fun args w K Kp => unArgs [.one (.ptr), .one (.int .u64)] args.toList fun x => F.scav_Pacer_Step env x.1 x.2.1 (fun r1 w' => K (.int .u64 r1) w') w
noncomputable def body12 : Code := (Go.Proofs.Tryd.f12.body).getD .skip
def ann12 : Ann := { loops := [], joins := [] }
def T0.scav_Pacer_Step (E : Env) (c_scav_Pacer_Want : ∀ (a0 : (Option Addr)) (K : Int → World → Prop) (w : World), Prop) (c_mheap_Heap_Scavenge : ∀ (a0 : (Option Addr)) (a1 : Int) (K : Int → World → Prop) (w : World), Prop) (a0 : (Option Addr)) (a1 : Int) (K : Int → World → Prop) (w : World) : Prop :=
 NC a0 fun p1 =>
 ∃ x2 : (Option Addr), w.drew.cell? p1 = some (.pointer x2) ∧
 c_scav_Pacer_Want a0 (fun r3 w4 =>
 w4.cell? p1 = some (.pointer x2) ∧
 c_mheap_Heap_Scavenge x2 (minI r3 a1) (fun r5 w6 =>
 K r5 w6
 ) w4
 ) w.drew

theorem tieZ12 (c_scav_Pacer_Want : ∀ (a0 : (Option Addr)) (K : Int → World → Prop) (w : World), Prop) (c_mheap_Heap_Scavenge : ∀ (a0 : (Option Addr)) (a1 : Int) (K : Int → World → Prop) (w : World), Prop) (x : ArgsV [.one (.ptr), .one (.int .u64)]) (K Kp : Value → World → Prop) (w : World) : T0.scav_Pacer_Step env c_scav_Pacer_Want c_mheap_Heap_Scavenge x.1 x.2.1 (fun r1 w' => K (.int .u64 r1) w') w =
 ev Go.Proofs.Tryd.prog (tabC [(10, fun args w K Kp => unArgs [.one (.ptr)] args.toList fun x => c_scav_Pacer_Want x.1 (fun r1 w' => K (.int .u64 r1) w') w), (32, fun args w K Kp => unArgs [.one (.ptr), .one (.int .u64)] args.toList fun x => c_mheap_Heap_Scavenge x.1 x.2.1 (fun r1 w' => K (.int .u64 r1) w') w)]) (ground Go.Proofs.Tryd.prog) ann12 body12 (finQ Go.Proofs.Tryd.prog Go.Proofs.Tryd.f12 K Kp) (initF (mkArgs [.one (.ptr), .one (.int .u64)] x)) w := by kernel_rfl
theorem tie12 (x : ArgsV [.one (.ptr), .one (.int .u64)]) (K Kp : Value → World → Prop) (w : World) : F.scav_Pacer_Step env x.1 x.2.1 (fun r1 w' => K (.int .u64 r1) w') w =
 ev Go.Proofs.Tryd.prog (tabC [(10, C10), (32, C32)]) (ground Go.Proofs.Tryd.prog) ann12 body12 (finQ Go.Proofs.Tryd.prog Go.Proofs.Tryd.f12 K Kp) (initF (mkArgs [.one (.ptr), .one (.int .u64)] x)) w := tieZ12 (F.scav_Pacer_Want env) (F.mheap_Heap_Scavenge env) x K Kp w
theorem fits12 : FitsOne Go.Proofs.Tryd.prog 12 C12 :=
 fits_of_tie (T := [(10, C10), (32, C32)]) (A := ann12) (fn := Go.Proofs.Tryd.f12) (c := body12) (fits_cons fits10 (fits_cons fits32 fits_nil)) mixed Go.Proofs.Tryd.func12 Go.Proofs.Tryd.call12 (by kernel_rfl) (by kernel_rfl) (by kernel_rfl) tie12

noncomputable def C18 : Entry := fun args w K Kp => unArgs [.one (.ptr), .one (.int .u64)] args.toList fun x => F.scav_Pacer_Limit env x.1 x.2.1 (fun r1 w' => K (.int .u64 r1) w') w
noncomputable def body18 : Code := (Go.Proofs.Tryd.f18.body).getD .skip
def ann18 : Ann := { loops := [], joins := [] }
def T0.scav_Pacer_Limit (E : Env) (c_mheap_Heap_Pages : ∀ (a0 : (Option Addr)) (K : Int → Int → Int → World → Prop) (w : World), Prop) (c_mheap_Heap_Scavenge : ∀ (a0 : (Option Addr)) (a1 : Int) (K : Int → World → Prop) (w : World), Prop) (a0 : (Option Addr)) (a1 : Int) (K : Int → World → Prop) (w : World) : Prop :=
 NC a0 fun p1 =>
 ∃ x2 : (Option Addr), w.cell? p1 = some (.pointer x2) ∧
 c_mheap_Heap_Pages x2 (fun r3 r4 r5 w6 =>
 LET (u64 ((u64 (r3 - r5)) * 8192) : Int) fun has_7 =>
 CND (decide ((has_7 : Int) ≤ a1)) (
 K 0 w6
 ) (
 NC a0 fun p8 =>
 ∃ x9 : (Option Addr), w6.cell? p8 = some (.pointer x9) ∧
 8192 ≠ (0 : Int) ∧
 c_mheap_Heap_Scavenge x9 (u64 (Int.tdiv (u64 ((u64 ((u64 (has_7 - a1)) + 8192)) - 1)) 8192)) (fun r10 w11 =>
 K r10 w11
 ) w6
 )
 ) w

theorem tieZ18 (c_mheap_Heap_Pages : ∀ (a0 : (Option Addr)) (K : Int → Int → Int → World → Prop) (w : World), Prop) (c_mheap_Heap_Scavenge : ∀ (a0 : (Option Addr)) (a1 : Int) (K : Int → World → Prop) (w : World), Prop) (x : ArgsV [.one (.ptr), .one (.int .u64)]) (K Kp : Value → World → Prop) (w : World) : T0.scav_Pacer_Limit env c_mheap_Heap_Pages c_mheap_Heap_Scavenge x.1 x.2.1 (fun r1 w' => K (.int .u64 r1) w') w =
 ev Go.Proofs.Tryd.prog (tabC [(30, fun args w K Kp => unArgs [.one (.ptr)] args.toList fun x => c_mheap_Heap_Pages x.1 (fun r1 r2 r3 w' => K (.tuple ⟨[.int .u64 r1, .int .u64 r2, .int .u64 r3]⟩) w') w), (32, fun args w K Kp => unArgs [.one (.ptr), .one (.int .u64)] args.toList fun x => c_mheap_Heap_Scavenge x.1 x.2.1 (fun r1 w' => K (.int .u64 r1) w') w)]) (ground Go.Proofs.Tryd.prog) ann18 body18 (finQ Go.Proofs.Tryd.prog Go.Proofs.Tryd.f18 K Kp) (initF (mkArgs [.one (.ptr), .one (.int .u64)] x)) w := by kernel_rfl
theorem tie18 (x : ArgsV [.one (.ptr), .one (.int .u64)]) (K Kp : Value → World → Prop) (w : World) : F.scav_Pacer_Limit env x.1 x.2.1 (fun r1 w' => K (.int .u64 r1) w') w =
 ev Go.Proofs.Tryd.prog (tabC [(30, C30), (32, C32)]) (ground Go.Proofs.Tryd.prog) ann18 body18 (finQ Go.Proofs.Tryd.prog Go.Proofs.Tryd.f18 K Kp) (initF (mkArgs [.one (.ptr), .one (.int .u64)] x)) w := tieZ18 (F.mheap_Heap_Pages env) (F.mheap_Heap_Scavenge env) x K Kp w
theorem fits18 : FitsOne Go.Proofs.Tryd.prog 18 C18 :=
 fits_of_tie (T := [(30, C30), (32, C32)]) (A := ann18) (fn := Go.Proofs.Tryd.f18) (c := body18) (fits_cons fits30 (fits_cons fits32 fits_nil)) mixed Go.Proofs.Tryd.func18 Go.Proofs.Tryd.call18 (by kernel_rfl) (by kernel_rfl) (by kernel_rfl) tie18

noncomputable def C11 : Entry := fun args w K Kp => unArgs [] args.toList fun x => F.mallowlaw22_awake env  (fun r1 w' => K (.bool r1) w') w
noncomputable def body11 : Code := (Go.Proofs.Tryd.f11.body).getD .skip
def ann11 : Ann := { loops := [], joins := [(7, [(32, .one (.bool))])] }
def T0.mallowlaw22_awake (E : Env) (c_mallowlaw22_fresh : ∀ (a0_0 : SlV) (a0_1 : SlV) (a0_2 : SlV) (K : (Option Addr) → World → Prop) (w : World), Prop) (c_mheap_Heap_Alloc : ∀ (a0 : (Option Addr)) (a1 : Int) (a2 : Int) (a3 : Int) (a4 : Bool) (K : Int → Int → World → Prop) (w : World), Prop) (c_mheap_Heap_Free : ∀ (a0 : (Option Addr)) (a1 : Int) (K : Int → World → Prop) (w : World), Prop) (c_scav_New : ∀ (a0 : (Option Addr)) (a1 : Int) (K : (Option Addr) → World → Prop) (w : World), Prop) (c_scav_Pacer_Want : ∀ (a0 : (Option Addr)) (K : Int → World → Prop) (w : World), Prop) (c_scav_Pacer_Step : ∀ (a0 : (Option Addr)) (a1 : Int) (K : Int → World → Prop) (w : World), Prop) (c_scav_Pacer_Limit : ∀ (a0 : (Option Addr)) (a1 : Int) (K : Int → World → Prop) (w : World), Prop) (K : Bool → World → Prop) (w : World) : Prop :=
 c_mallowlaw22_fresh ⟨none, 0, 0⟩ ⟨none, 0, 0⟩ ⟨none, 0, 0⟩ (fun r1 w2 =>
 CND (r1.isNone) (
 K false w2
 ) (
 c_mheap_Heap_Alloc r1 (-1) 100 0 false (fun r3 r4 w5 =>
 c_mheap_Heap_Alloc r1 (-1) 1 0 false (fun r6 r7 w8 =>
 JOIN (Bool × Unit) (fun J9 =>
 CND ((r4 : Int) != 0) (
 J9 (true, ()) w8
 ) (
 CND ((r7 : Int) != 0) (
 J9 (true, ()) w8
 ) (
 c_mheap_Heap_Free r1 r3 (fun r12 w13 =>
 J9 ((r12 : Int) != 0, ()) w13
 ) w8
 )
 )
 ) fun s10 _ w11 =>
 CND (s10.1) (
 K false w11
 ) (
 c_scav_New r1 4607632778762754458 (fun r14 w15 =>
 CND (!r14.isNone) (
 c_scav_Pacer_Want r14 (fun r16 w17 =>
 CND ((r16 : Int) == 100) (
 c_scav_Pacer_Step r14 16 (fun r18 w19 =>
 CND ((r18 : Int) == 16) (
 c_scav_Pacer_Want r14 (fun r20 w21 =>
 CND ((r20 : Int) == 84) (
 c_scav_Pacer_Limit r14 0 (fun r22 w23 =>
 K ((r22 : Int) == 84) w23
 ) w21
 ) (
 K false w21
 )
 ) w19
 ) (
 K false w19
 )
 ) w17
 ) (
 K false w17
 )
 ) w15
 ) (
 K false w15
 )
 ) w11
 )
 ) w5
 ) w2
 )
 ) w

theorem tieZ11 (c_mallowlaw22_fresh : ∀ (a0_0 : SlV) (a0_1 : SlV) (a0_2 : SlV) (K : (Option Addr) → World → Prop) (w : World), Prop) (c_mheap_Heap_Alloc : ∀ (a0 : (Option Addr)) (a1 : Int) (a2 : Int) (a3 : Int) (a4 : Bool) (K : Int → Int → World → Prop) (w : World), Prop) (c_mheap_Heap_Free : ∀ (a0 : (Option Addr)) (a1 : Int) (K : Int → World → Prop) (w : World), Prop) (c_scav_New : ∀ (a0 : (Option Addr)) (a1 : Int) (K : (Option Addr) → World → Prop) (w : World), Prop) (c_scav_Pacer_Want : ∀ (a0 : (Option Addr)) (K : Int → World → Prop) (w : World), Prop) (c_scav_Pacer_Step : ∀ (a0 : (Option Addr)) (a1 : Int) (K : Int → World → Prop) (w : World), Prop) (c_scav_Pacer_Limit : ∀ (a0 : (Option Addr)) (a1 : Int) (K : Int → World → Prop) (w : World), Prop) (x : ArgsV []) (K Kp : Value → World → Prop) (w : World) : T0.mallowlaw22_awake env c_mallowlaw22_fresh c_mheap_Heap_Alloc c_mheap_Heap_Free c_scav_New c_scav_Pacer_Want c_scav_Pacer_Step c_scav_Pacer_Limit  (fun r1 w' => K (.bool r1) w') w =
 ev Go.Proofs.Tryd.prog (tabC [(6, fun args w K Kp => unArgs [.agg [.sl, .sl, .sl]] args.toList fun x => c_mallowlaw22_fresh x.1.1 x.1.2.1 x.1.2.2.1 (fun r1 w' => K (.pointer r1) w') w), (7, fun args w K Kp => unArgs [.one (.ptr), .one (.int .i64), .one (.int .u64), .one (.int .i64), .one (.bool)] args.toList fun x => c_mheap_Heap_Alloc x.1 x.2.1 x.2.2.1 x.2.2.2.1 x.2.2.2.2.1 (fun r1 r2 w' => K (.tuple ⟨[.int .i64 r1, .int .i64 r2]⟩) w') w), (8, fun args w K Kp => unArgs [.one (.ptr), .one (.int .i64)] args.toList fun x => c_mheap_Heap_Free x.1 x.2.1 (fun r1 w' => K (.int .i64 r1) w') w), (9, fun args w K Kp => unArgs [.one (.ptr), .one (.int .u64)] args.toList fun x => c_scav_New x.1 x.2.1 (fun r1 w' => K (.pointer r1) w') w), (10, fun args w K Kp => unArgs [.one (.ptr)] args.toList fun x => c_scav_Pacer_Want x.1 (fun r1 w' => K (.int .u64 r1) w') w), (12, fun args w K Kp => unArgs [.one (.ptr), .one (.int .u64)] args.toList fun x => c_scav_Pacer_Step x.1 x.2.1 (fun r1 w' => K (.int .u64 r1) w') w), (18, fun args w K Kp => unArgs [.one (.ptr), .one (.int .u64)] args.toList fun x => c_scav_Pacer_Limit x.1 x.2.1 (fun r1 w' => K (.int .u64 r1) w') w)]) (ground Go.Proofs.Tryd.prog) ann11 body11 (finQ Go.Proofs.Tryd.prog Go.Proofs.Tryd.f11 K Kp) (initF (mkArgs [] x)) w := by kernel_rfl
theorem tie11 (x : ArgsV []) (K Kp : Value → World → Prop) (w : World) : F.mallowlaw22_awake env  (fun r1 w' => K (.bool r1) w') w =
 ev Go.Proofs.Tryd.prog (tabC [(6, C6), (7, C7), (8, C8), (9, C9), (10, C10), (12, C12), (18, C18)]) (ground Go.Proofs.Tryd.prog) ann11 body11 (finQ Go.Proofs.Tryd.prog Go.Proofs.Tryd.f11 K Kp) (initF (mkArgs [] x)) w := tieZ11 (F.mallowlaw22_fresh env) (F.mheap_Heap_Alloc env) (F.mheap_Heap_Free env) (F.scav_New env) (F.scav_Pacer_Want env) (F.scav_Pacer_Step env) (F.scav_Pacer_Limit env) x K Kp w
theorem fits11 : FitsOne Go.Proofs.Tryd.prog 11 C11 :=
 fits_of_tie (T := [(6, C6), (7, C7), (8, C8), (9, C9), (10, C10), (12, C12), (18, C18)]) (A := ann11) (fn := Go.Proofs.Tryd.f11) (c := body11) (fits_cons fits6 (fits_cons fits7 (fits_cons fits8 (fits_cons fits9 (fits_cons fits10 (fits_cons fits12 (fits_cons fits18 fits_nil))))))) mixed Go.Proofs.Tryd.func11 Go.Proofs.Tryd.call11 (by kernel_rfl) (by kernel_rfl) (by kernel_rfl) tie11

noncomputable def C3 : Entry := fun args w K Kp => unArgs [.one (.int .u64), .one (.int .u64), .one (.int .u64)] args.toList fun x => F.mallowlaw22_ScavRates env x.1 x.2.1 x.2.2.1 (fun r1 w' => K (.bool r1) w') w
noncomputable def body3 : Code := (Go.Proofs.Tryd.f3.body).getD .skip
def ann3 : Ann := { loops := [], joins := [(2, [(23, .one (.bool))]), (12, [(51, .one (.bool))]), (13, []), (20, [(59, .one (.bool))])] }
def T0.mallowlaw22_ScavRates (E : Env) (c_mallowlaw22_fresh : ∀ (a0_0 : SlV) (a0_1 : SlV) (a0_2 : SlV) (K : (Option Addr) → World → Prop) (w : World), Prop) (c_mheap_Heap_Alloc : ∀ (a0 : (Option Addr)) (a1 : Int) (a2 : Int) (a3 : Int) (a4 : Bool) (K : Int → Int → World → Prop) (w : World), Prop) (c_mheap_Heap_Free : ∀ (a0 : (Option Addr)) (a1 : Int) (K : Int → World → Prop) (w : World), Prop) (c_scav_New : ∀ (a0 : (Option Addr)) (a1 : Int) (K : (Option Addr) → World → Prop) (w : World), Prop) (c_scav_Pacer_Want : ∀ (a0 : (Option Addr)) (K : Int → World → Prop) (w : World), Prop) (c_mallowlaw22_awake : ∀ (K : Bool → World → Prop) (w : World), Prop) (a0 : Int) (a1 : Int) (a2 : Int) (K : Bool → World → Prop) (w : World) : Prop :=
 JOIN (Bool × Unit) (fun J1 =>
 CND (decide ((a0 : Int) < 1)) (
 J1 (true, ()) w
 ) (
 CND (decide ((a0 : Int) > 300)) (
 J1 (true, ()) w
 ) (
 J1 (decide ((a1 : Int) > 300), ()) w
 )
 )
 ) fun s2 _ w3 =>
 CND (s2.1) (
 K true w3
 ) (
 c_mallowlaw22_fresh ⟨none, 0, 0⟩ ⟨none, 0, 0⟩ ⟨none, 0, 0⟩ (fun r4 w5 =>
 CND (r4.isNone) (
 K false w5
 ) (
 c_mheap_Heap_Alloc r4 (-1) a0 0 false (fun r6 r7 w8 =>
 CND ((r7 : Int) != 0) (
 K false w8
 ) (
 JOIN (Unit) (fun J9 =>
 CND (decide ((a1 : Int) > 0)) (
 c_mheap_Heap_Alloc r4 (-1) a1 0 false (fun r12 r13 w14 =>
 JOIN (Bool × Unit) (fun J15 =>
 CND ((r13 : Int) != 0) (
 J15 (true, ()) w14
 ) (
 c_mheap_Heap_Free r4 r12 (fun r18 w19 =>
 J15 ((r18 : Int) != 0, ()) w19
 ) w14
 )
 ) fun s16 _ w17 =>
 CND (s16.1) (
 K false w17
 ) (
 J9 (()) w17
 )
 ) w8
 ) (
 J9 (()) w8
 )
 ) fun s10 _ w11 =>
 c_scav_New r4 a2 (fun r20 w21 =>
 CND (r20.isNone) (
 K false w21
 ) (
 c_scav_Pacer_Want r20 (fun r22 w23 =>
 JOIN (Bool × Unit) (fun J24 =>
 CND (decide ((a2 : Int) > 9223372036854775808)) (
 J24 (decide ((a2 : Int) > 9223372036854775808), ()) w23
 ) (
 CND (decide (((bitK .u64 0 a2 9223372036854775807) : Int) > 9218868437227405312)) (
 J24 (decide (((bitK .u64 0 a2 9223372036854775807) : Int) > 9218868437227405312), ()) w23
 ) (
 J24 (decide ((a2 : Int) ≤ 4607182418800017408), ()) w23
 )
 )
 ) fun s25 _ w26 =>
 CND (s25.1) (
 CND ((r22 : Int) == a1) (
 c_mallowlaw22_awake  (fun r27 w28 =>
 K r27 w28
 ) w26
 ) (
 K false w26
 )
 ) (
 CND ((a2 : Int) == 9218868437227405312) (
 CND ((r22 : Int) == 0) (
 c_mallowlaw22_awake  (fun r29 w30 =>
 K r29 w30
 ) w26
 ) (
 K false w26
 )
 ) (
 CND ((a2 : Int) == 4611686018427387904) (
 CND (((u64 (r22 + a0)) : Int) == a1) (
 CND (decide ((a1 : Int) > a0)) (
 K true w26
 ) (
 CND ((r22 : Int) == 0) (
 CND (decide ((a1 : Int) ≤ a0)) (
 c_mallowlaw22_awake  (fun r31 w32 =>
 K r31 w32
 ) w26
 ) (
 K false w26
 )
 ) (
 K false w26
 )
 )
 ) (
 CND ((r22 : Int) == 0) (
 CND (decide ((a1 : Int) ≤ a0)) (
 c_mallowlaw22_awake  (fun r33 w34 =>
 K r33 w34
 ) w26
 ) (
 K false w26
 )
 ) (
 K false w26
 )
 )
 ) (
 CND (decide ((r22 : Int) ≤ a1)) (
 c_mallowlaw22_awake  (fun r35 w36 =>
 K r35 w36
 ) w26
 ) (
 K false w26
 )
 )
 )
 )
 ) w21
 )
 ) w11
 )
 ) w5
 )
 ) w3
 )

theorem tieZ3 (c_mallowlaw22_fresh : ∀ (a0_0 : SlV) (a0_1 : SlV) (a0_2 : SlV) (K : (Option Addr) → World → Prop) (w : World), Prop) (c_mheap_Heap_Alloc : ∀ (a0 : (Option Addr)) (a1 : Int) (a2 : Int) (a3 : Int) (a4 : Bool) (K : Int → Int → World → Prop) (w : World), Prop) (c_mheap_Heap_Free : ∀ (a0 : (Option Addr)) (a1 : Int) (K : Int → World → Prop) (w : World), Prop) (c_scav_New : ∀ (a0 : (Option Addr)) (a1 : Int) (K : (Option Addr) → World → Prop) (w : World), Prop) (c_scav_Pacer_Want : ∀ (a0 : (Option Addr)) (K : Int → World → Prop) (w : World), Prop) (c_mallowlaw22_awake : ∀ (K : Bool → World → Prop) (w : World), Prop) (x : ArgsV [.one (.int .u64), .one (.int .u64), .one (.int .u64)]) (K Kp : Value → World → Prop) (w : World) : T0.mallowlaw22_ScavRates env c_mallowlaw22_fresh c_mheap_Heap_Alloc c_mheap_Heap_Free c_scav_New c_scav_Pacer_Want c_mallowlaw22_awake x.1 x.2.1 x.2.2.1 (fun r1 w' => K (.bool r1) w') w =
 ev Go.Proofs.Tryd.prog (tabC [(6, fun args w K Kp => unArgs [.agg [.sl, .sl, .sl]] args.toList fun x => c_mallowlaw22_fresh x.1.1 x.1.2.1 x.1.2.2.1 (fun r1 w' => K (.pointer r1) w') w), (7, fun args w K Kp => unArgs [.one (.ptr), .one (.int .i64), .one (.int .u64), .one (.int .i64), .one (.bool)] args.toList fun x => c_mheap_Heap_Alloc x.1 x.2.1 x.2.2.1 x.2.2.2.1 x.2.2.2.2.1 (fun r1 r2 w' => K (.tuple ⟨[.int .i64 r1, .int .i64 r2]⟩) w') w), (8, fun args w K Kp => unArgs [.one (.ptr), .one (.int .i64)] args.toList fun x => c_mheap_Heap_Free x.1 x.2.1 (fun r1 w' => K (.int .i64 r1) w') w), (9, fun args w K Kp => unArgs [.one (.ptr), .one (.int .u64)] args.toList fun x => c_scav_New x.1 x.2.1 (fun r1 w' => K (.pointer r1) w') w), (10, fun args w K Kp => unArgs [.one (.ptr)] args.toList fun x => c_scav_Pacer_Want x.1 (fun r1 w' => K (.int .u64 r1) w') w), (11, fun args w K Kp => unArgs [] args.toList fun x => c_mallowlaw22_awake  (fun r1 w' => K (.bool r1) w') w)]) (ground Go.Proofs.Tryd.prog) ann3 body3 (finQ Go.Proofs.Tryd.prog Go.Proofs.Tryd.f3 K Kp) (initF (mkArgs [.one (.int .u64), .one (.int .u64), .one (.int .u64)] x)) w := by kernel_rfl
theorem tie3 (x : ArgsV [.one (.int .u64), .one (.int .u64), .one (.int .u64)]) (K Kp : Value → World → Prop) (w : World) : F.mallowlaw22_ScavRates env x.1 x.2.1 x.2.2.1 (fun r1 w' => K (.bool r1) w') w =
 ev Go.Proofs.Tryd.prog (tabC [(6, C6), (7, C7), (8, C8), (9, C9), (10, C10), (11, C11)]) (ground Go.Proofs.Tryd.prog) ann3 body3 (finQ Go.Proofs.Tryd.prog Go.Proofs.Tryd.f3 K Kp) (initF (mkArgs [.one (.int .u64), .one (.int .u64), .one (.int .u64)] x)) w := tieZ3 (F.mallowlaw22_fresh env) (F.mheap_Heap_Alloc env) (F.mheap_Heap_Free env) (F.scav_New env) (F.scav_Pacer_Want env) (F.mallowlaw22_awake env) x K Kp w
theorem fits3 : FitsOne Go.Proofs.Tryd.prog 3 C3 :=
 fits_of_tie (T := [(6, C6), (7, C7), (8, C8), (9, C9), (10, C10), (11, C11)]) (A := ann3) (fn := Go.Proofs.Tryd.f3) (c := body3) (fits_cons fits6 (fits_cons fits7 (fits_cons fits8 (fits_cons fits9 (fits_cons fits10 (fits_cons fits11 fits_nil)))))) mixed Go.Proofs.Tryd.func3 Go.Proofs.Tryd.call3 (by kernel_rfl) (by kernel_rfl) (by kernel_rfl) tie3

noncomputable def C84 : Entry := fun args w K Kp => unArgs [.one (.ptr), .one (.int .u64)] args.toList fun x => F.arena_Map_whole env x.1 x.2.1 (fun r1 w' => K (.int .i64 r1) w') w
noncomputable def body84 : Code := (Go.Proofs.Tryd.f84.body).getD .skip
def ann84 : Ann := { loops := [(2, [(12, .one (.int .i64))])], joins := [(5, [(25, .one (.bool))])] }
theorem tie84 (x : ArgsV [.one (.ptr), .one (.int .u64)]) (K Kp : Value → World → Prop) (w : World) : F.arena_Map_whole env x.1 x.2.1 (fun r1 w' => K (.int .i64 r1) w') w =
 ev Go.Proofs.Tryd.prog (tabC []) (ground Go.Proofs.Tryd.prog) ann84 body84 (finQ Go.Proofs.Tryd.prog Go.Proofs.Tryd.f84 K Kp) (initF (mkArgs [.one (.ptr), .one (.int .u64)] x)) w := by kernel_rfl
theorem fits84 : FitsOne Go.Proofs.Tryd.prog 84 C84 :=
 fits_of_tie (T := []) (A := ann84) (fn := Go.Proofs.Tryd.f84) (c := body84) fits_nil mixed Go.Proofs.Tryd.func84 Go.Proofs.Tryd.call84 (by kernel_rfl) (by kernel_rfl) (by kernel_rfl) tie84

noncomputable def C55 : Entry := fun args w K Kp => unArgs [.one (.ptr), .one (.int .u64)] args.toList fun x => F.arena_Map_leaf env x.1 x.2.1 (fun r1 w' => K (.pointer r1) w') w
noncomputable def body55 : Code := (Go.Proofs.Tryd.f55.body).getD .skip
def ann55 : Ann := { loops := [(7, [(25, .one (.int .i64))])], joins := [] }
def T0.arena_Map_leaf (E : Env) (c_arena_Map_whole : ∀ (a0 : (Option Addr)) (a1 : Int) (K : Int → World → Prop) (w : World), Prop) (c_arena_Map_cut : ∀ (a0 : (Option Addr)) (a1 : Int) (a2 : Int) (K : World → Prop) (w : World), Prop) (a0 : (Option Addr)) (a1 : Int) (K : (Option Addr) → World → Prop) (w : World) : Prop :=
 NC a0 fun p1 =>
 ∃ x2 : (Option Nat), w.cell? (p1.add 3) = some (.map x2) ∧
 LKP .u64 a1 x2 w (.pointer none) fun v3 ok4 es5 =>
 ∃ x6 : (Option Addr), v3 = .pointer x6 ∧
 CND (x6.isNone) (
 c_arena_Map_whole a0 a1 (fun r7 w8 =>
 c_arena_Map_cut a0 a1 (u64 (a1 + 1)) (fun  w9 =>
 AL (.cells (Array.replicate 512 (.int .i64 0)) E.t__512_int) w9 fun b10 w11 =>
 LOOP (Int × Unit) (0, ()) w11 fun s12 _ w13 next14 =>
 CND (decide ((s12.1 : Int) < 512)) (
 ((0 : Int) ≤ s12.1 ∧ (s12.1 : Int) < (512 : Nat)) ∧
 stCells ((Addr.mk b10 0 none).add (Int.toNat s12.1 * 1)) 0 [.int .i64 r7] w13 fun w15 =>
 next14 (i64 (s12.1 + 1), ()) w15
 ) (
 NC a0 fun p16 =>
 ∃ x17 : (Option Nat), w13.cell? (p16.add 3) = some (.map x17) ∧
 MUPD .u64 a1 (.pointer (some (Addr.mk b10 0 none))) x17 w13 fun w18 =>
 K (some (Addr.mk b10 0 none)) w18
 )
 ) w8
 ) w
 ) (
 K x6 w
 )

theorem tieZ55 (c_arena_Map_whole : ∀ (a0 : (Option Addr)) (a1 : Int) (K : Int → World → Prop) (w : World), Prop) (c_arena_Map_cut : ∀ (a0 : (Option Addr)) (a1 : Int) (a2 : Int) (K : World → Prop) (w : World), Prop) (x : ArgsV [.one (.ptr), .one (.int .u64)]) (K Kp : Value → World → Prop) (w : World) : T0.arena_Map_leaf env c_arena_Map_whole c_arena_Map_cut x.1 x.2.1 (fun r1 w' => K (.pointer r1) w') w =
 ev Go.Proofs.Tryd.prog (tabC [(84, fun args w K Kp => unArgs [.one (.ptr), .one (.int .u64)] args.toList fun x => c_arena_Map_whole x.1 x.2.1 (fun r1 w' => K (.int .i64 r1) w') w), (53, fun args w K Kp => unArgs [.one (.ptr), .one (.int .u64), .one (.int .u64)] args.toList fun x => c_arena_Map_cut x.1 x.2.1 x.2.2.1 (fun  w' => K (.tuple ⟨[]⟩) w') w)]) (ground Go.Proofs.Tryd.prog) ann55 body55 (finQ Go.Proofs.Tryd.prog Go.Proofs.Tryd.f55 K Kp) (initF (mkArgs [.one (.ptr), .one (.int .u64)] x)) w := by kernel_rfl
theorem tie55 (x : ArgsV [.one (.ptr), .one (.int .u64)]) (K Kp : Value → World → Prop) (w : World) : F.arena_Map_leaf env x.1 x.2.1 (fun r1 w' => K (.pointer r1) w') w =
 ev Go.Proofs.Tryd.prog (tabC [(84, C84), (53, C53)]) (ground Go.Proofs.Tryd.prog) ann55 body55 (finQ Go.Proofs.Tryd.prog Go.Proofs.Tryd.f55 K Kp) (initF (mkArgs [.one (.ptr), .one (.int .u64)] x)) w := tieZ55 (F.arena_Map_whole env) (F.arena_Map_cut env) x K Kp w
theorem fits55 : FitsOne Go.Proofs.Tryd.prog 55 C55 :=
 fits_of_tie (T := [(84, C84), (53, C53)]) (A := ann55) (fn := Go.Proofs.Tryd.f55) (c := body55) (fits_cons fits84 (fits_cons fits53 fits_nil)) mixed Go.Proofs.Tryd.func55 Go.Proofs.Tryd.call55 (by kernel_rfl) (by kernel_rfl) (by kernel_rfl) tie55

noncomputable def C54 : Entry := fun args w K Kp => unArgs [.one (.int .u64), .one (.int .u64), .one (.ptr), .one (.ptr)] args.toList fun x => F.arena_Map_Set_1 env x.1 x.2.1 x.2.2.1 x.2.2.2.1 (fun  w' => K (.tuple ⟨[]⟩) w') w
noncomputable def body54 : Code := (Go.Proofs.Tryd.f54.body).getD .skip
def ann54 : Ann := { loops := [(1, [(6, .one (.int .u64))])], joins := [] }
def T0.arena_Map_Set_1 (E : Env) (c_arena_Map_leaf : ∀ (a0 : (Option Addr)) (a1 : Int) (K : (Option Addr) → World → Prop) (w : World), Prop) (a0 : Int) (a1 : Int) (a2 : (Option Addr)) (a3 : (Option Addr)) (K : World → Prop) (w : World) : Prop :=
 LOOP (Int × Unit) (a0, ()) w fun s1 _ w2 next3 =>
 CND (decide ((s1.1 : Int) < a1)) (
 NC a3 fun p4 =>
 ∃ x5 : (Option Addr), w2.drew.cell? p4 = some (.pointer x5) ∧
 512 ≠ (0 : Int) ∧
 512 ≠ (0 : Int) ∧
 NC a2 fun p6 =>
 ∃ x7 : Int, w2.drew.cell? p6 = some (.int .i64 x7) ∧
 c_arena_Map_leaf x5 (u64 (Int.tdiv s1.1 512)) (fun r8 w9 =>
 w9.cell? p6 = some (.int .i64 x7) ∧
 NC r8 fun p10 =>
 ((0 : Int) ≤ (Int.tmod s1.1 512) ∧ ((Int.tmod s1.1 512) : Int) < (512 : Nat)) ∧
 stCells (p10.add (Int.toNat (Int.tmod s1.1 512) * 1)) 0 [.int .i64 x7] w9 fun w11 =>
 next3 (u64 (s1.1 + 1), ()) w11
 ) w2.drew
 ) (
 K  w2
 )

theorem tieZ54 (c_arena_Map_leaf : ∀ (a0 : (Option Addr)) (a1 : Int) (K : (Option Addr) → World → Prop) (w : World), Prop) (x : ArgsV [.one (.int .u64), .one (.int .u64), .one (.ptr), .one (.ptr)]) (K Kp : Value → World → Prop) (w : World) : T0.arena_Map_Set_1 env c_arena_Map_leaf x.1 x.2.1 x.2.2.1 x.2.2.2.1 (fun  w' => K (.tuple ⟨[]⟩) w') w =
 ev Go.Proofs.Tryd.prog (tabC [(55, fun args w K Kp => unArgs [.one (.ptr), .one (.int .u64)] args.toList fun x => c_arena_Map_leaf x.1 x.2.1 (fun r1 w' => K (.pointer r1) w') w)]) (ground Go.Proofs.Tryd.prog) ann54 body54 (finQ Go.Proofs.Tryd.prog Go.Proofs.Tryd.f54 K Kp) (initF (mkArgs [.one (.int .u64), .one (.int .u64), .one (.ptr), .one (.ptr)] x)) w := by kernel_rfl
theorem tie54 (x : ArgsV [.one (.int .u64), .one (.int .u64), .one (.ptr), .one (.ptr)]) (K Kp : Value → World → Prop) (w : World) : F.arena_Map_Set_1 env x.1 x.2.1 x.2.2.1 x.2.2.2.1 (fun  w' => K (.tuple ⟨[]⟩) w') w =
 ev Go.Proofs.Tryd.prog (tabC [(55, C55)]) (ground Go.Proofs.Tryd.prog) ann54 body54 (finQ Go.Proofs.Tryd.prog Go.Proofs.Tryd.f54 K Kp) (initF (mkArgs [.one (.int .u64), .one (.int .u64), .one (.ptr), .one (.ptr)] x)) w := tieZ54 (F.arena_Map_leaf env) x K Kp w
theorem fits54 : FitsOne Go.Proofs.Tryd.prog 54 C54 :=
 fits_of_tie (T := [(55, C55)]) (A := ann54) (fn := Go.Proofs.Tryd.f54) (c := body54) (fits_cons fits55 fits_nil) mixed Go.Proofs.Tryd.func54 Go.Proofs.Tryd.call54 (by kernel_rfl) (by kernel_rfl) (by kernel_rfl) tie54

noncomputable def C90 : Entry := fun args w K Kp => unArgs [.one (.int .i64), .one (.ptr), .one (.ptr)] args.toList fun x => F.stretch_Set_at_1 env x.1 x.2.1 x.2.2.1 (fun r1 w' => K (.bool r1) w') w
noncomputable def body90 : Code := (Go.Proofs.Tryd.f90.body).getD .skip
def ann90 : Ann := { loops := [], joins := [] }
theorem tie90 (x : ArgsV [.one (.int .i64), .one (.ptr), .one (.ptr)]) (K Kp : Value → World → Prop) (w : World) : F.stretch_Set_at_1 env x.1 x.2.1 x.2.2.1 (fun r1 w' => K (.bool r1) w') w =
 ev Go.Proofs.Tryd.prog (tabC []) (ground Go.Proofs.Tryd.prog) ann90 body90 (finQ Go.Proofs.Tryd.prog Go.Proofs.Tryd.f90 K Kp) (initF (mkArgs [.one (.int .i64), .one (.ptr), .one (.ptr)] x)) w := by kernel_rfl
theorem fits90 : FitsOne Go.Proofs.Tryd.prog 90 C90 :=
 fits_of_tie (T := []) (A := ann90) (fn := Go.Proofs.Tryd.f90) (c := body90) fits_nil mixed Go.Proofs.Tryd.func90 Go.Proofs.Tryd.call90 (by kernel_rfl) (by kernel_rfl) (by kernel_rfl) tie90

end Go.Sh


set_option linter.all false
namespace Go.Sh

theorem at1_mono {E : Env} {i : Int} {p1 p2 : Option Addr} {w : World} {K K' : Bool → World → Prop} (hk : ∀ b w', K b w' → K' b w') (h : F.stretch_Set_at_1 E i p1 p2 K w) : F.stretch_Set_at_1 E i p1 p2 K' w := by
  unfold F.stretch_Set_at_1 at h ⊢
  obtain ⟨q1, rfl, x2, h2, h⟩ := NC_elim h
  obtain ⟨q3, rfl, x4, h4, h⟩ := NC_elim h
  obtain ⟨q5, h5, hi, x6, h6, h⟩ := NC_elim h
  obtain ⟨q7, rfl, x8, h8, h⟩ := NC_elim h
  refine ⟨some q3, h2, x4, h4, ?_⟩
  rw [h5]
  exact ⟨hi, x6, h6, x8, h8, hk _ _ h⟩

theorem ground_mono {P : Program} (g : FuncId) (args : Array Value) (w : World) (K K' : Value → World → Prop) (hk : ∀ v w', K v w' → K' v w') (h : ground P g args w K noP) : ground P g args w K' noP :=
  ⟨h.1, h.2.mono fun e w' hE => let ⟨v, hv, h⟩ := hE.val; .inl ⟨v, hv, hk v w' h⟩⟩

end Go.Sh

