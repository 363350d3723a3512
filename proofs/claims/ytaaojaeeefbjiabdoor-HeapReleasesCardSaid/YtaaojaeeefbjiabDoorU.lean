/- Each shallow form is what the code of its function comes to: the second half. No further condition. -/
import Derived.Test.YtaaojaeeefbjiabDoorT
import Derived.Test.YtaaojaeeefbjiabDoorProg
import Derived.KernelRfl
import Derived.Test.YtaaojaeeefbjiabDoorS
import Derived.Test.YtaaojaeeefbjiabDoorA
import Derived.Calls
set_option linter.all false
set_option maxRecDepth 100000
set_option maxHeartbeats 4000000
namespace Go.Sh
open Go.Proofs

/- F.vmem_Mem_Ready -/
noncomputable def C75 : Entry := fun args w K Kp => unArgs [.one (.ptr), .one (.int .u64), .one (.int .u64)] args.toList fun x => F.vmem_Mem_Ready env x.1 x.2.1 x.2.2.1 (fun r1 w' => K (.slice r1.base r1.len r1.cap) w') w
noncomputable def body75 : Code := (Go.Proofs.Tryd.f75.body).getD .skip
def ann75 : Ann := { loops := [], joins := [] }
def T0.vmem_Mem_Ready (E : Env) (c_stretch_Set_Within : ∀ (a0 : (Option Addr)) (a1 : Int) (a2 : Int) (K : SlV → World → Prop) (w : World), Prop) (a0 : (Option Addr)) (a1 : Int) (a2 : Int) (K : SlV → World → Prop) (w : World) : Prop :=
  NC a0 fun p1 =>
  c_stretch_Set_Within (some (p1.add 5)) a1 a2 (fun r2 w3 =>
  K r2 w3
  ) w

theorem tieZ75 (c_stretch_Set_Within : ∀ (a0 : (Option Addr)) (a1 : Int) (a2 : Int) (K : SlV → World → Prop) (w : World), Prop) (x : ArgsV [.one (.ptr), .one (.int .u64), .one (.int .u64)]) (K Kp : Value → World → Prop) (w : World) : T0.vmem_Mem_Ready env c_stretch_Set_Within x.1 x.2.1 x.2.2.1 (fun r1 w' => K (.slice r1.base r1.len r1.cap) w') w =
    ev Go.Proofs.Tryd.prog (tabC [(78, fun args w K Kp => unArgs [.one (.ptr), .one (.int .u64), .one (.int .u64)] args.toList fun x => c_stretch_Set_Within x.1 x.2.1 x.2.2.1 (fun r1 w' => K (.slice r1.base r1.len r1.cap) w') w)]) (ground Go.Proofs.Tryd.prog) ann75 body75 (finQ Go.Proofs.Tryd.prog Go.Proofs.Tryd.f75 K Kp) (initF (mkArgs [.one (.ptr), .one (.int .u64), .one (.int .u64)] x)) w := by kernel_rfl
theorem tie75 (x : ArgsV [.one (.ptr), .one (.int .u64), .one (.int .u64)]) (K Kp : Value → World → Prop) (w : World) : F.vmem_Mem_Ready env x.1 x.2.1 x.2.2.1 (fun r1 w' => K (.slice r1.base r1.len r1.cap) w') w =
    ev Go.Proofs.Tryd.prog (tabC [(78, C78)]) (ground Go.Proofs.Tryd.prog) ann75 body75 (finQ Go.Proofs.Tryd.prog Go.Proofs.Tryd.f75 K Kp) (initF (mkArgs [.one (.ptr), .one (.int .u64), .one (.int .u64)] x)) w := tieZ75 (F.stretch_Set_Within env) x K Kp w
theorem fits75 : FitsOne Go.Proofs.Tryd.prog 75 C75 :=
  fits_of_tie (T := [(78, C78)]) (A := ann75) (fn := Go.Proofs.Tryd.f75) (c := body75) (fits_cons fits78 fits_nil) mixed Go.Proofs.Tryd.func75 Go.Proofs.Tryd.call75 (by kernel_rfl) (by kernel_rfl) (by kernel_rfl) tie75

/- F.radix_Tree_freed -/
noncomputable def C57 : Entry := fun args w K Kp => unArgs [.one (.ptr), .one (.int .u64), .one (.int .u64), .one (.ptr)] args.toList fun x => F.radix_Tree_freed env x.1 x.2.1 x.2.2.1 x.2.2.2.1 (fun r1 w' => K (.int .i64 r1) w') w
noncomputable def body57 : Code := (Go.Proofs.Tryd.f57.body).getD .skip
def ann57 : Ann := { loops := [], joins := [] }
def T0.radix_Tree_freed (E : Env) (c_radix_Tree_looked : ∀ (a0 : (Option Addr)) (a1 : Int) (a2 : Int) (a3 : Bool) (a4 : Int) (K : Int → World → Prop) (w : World), Prop) (c_stretch_Set_Add : ∀ (a0 : (Option Addr)) (a1 : Int) (a2 : Int) (K : World → Prop) (w : World), Prop) (c_radix_Tree_changed : ∀ (a0 : (Option Addr)) (K : World → Prop) (w : World), Prop) (a0 : (Option Addr)) (a1 : Int) (a2 : Int) (a3 : (Option Addr)) (K : Int → World → Prop) (w : World) : Prop :=
  c_radix_Tree_looked a0 a1 a2 false 31 (fun r1 w2 =>
  CND ((r1 : Int) != 0) (
    K r1 w2
  ) (
    NC a0 fun p3 =>
    c_stretch_Set_Add (some (p3.add 2)) a1 (u64 (a1 + a2)) (fun  w4 =>
    c_stretch_Set_Add a3 a1 (u64 (a1 + a2)) (fun  w5 =>
    c_radix_Tree_changed a0 (fun  w6 =>
    K 0 w6
    ) w5
    ) w4
    ) w2
  )
  ) w

theorem tieZ57 (c_radix_Tree_looked : ∀ (a0 : (Option Addr)) (a1 : Int) (a2 : Int) (a3 : Bool) (a4 : Int) (K : Int → World → Prop) (w : World), Prop) (c_stretch_Set_Add : ∀ (a0 : (Option Addr)) (a1 : Int) (a2 : Int) (K : World → Prop) (w : World), Prop) (c_radix_Tree_changed : ∀ (a0 : (Option Addr)) (K : World → Prop) (w : World), Prop) (x : ArgsV [.one (.ptr), .one (.int .u64), .one (.int .u64), .one (.ptr)]) (K Kp : Value → World → Prop) (w : World) : T0.radix_Tree_freed env c_radix_Tree_looked c_stretch_Set_Add c_radix_Tree_changed x.1 x.2.1 x.2.2.1 x.2.2.2.1 (fun r1 w' => K (.int .i64 r1) w') w =
    ev Go.Proofs.Tryd.prog (tabC [(82, fun args w K Kp => unArgs [.one (.ptr), .one (.int .u64), .one (.int .u64), .one (.bool), .one (.int .i64)] args.toList fun x => c_radix_Tree_looked x.1 x.2.1 x.2.2.1 x.2.2.2.1 x.2.2.2.2.1 (fun r1 w' => K (.int .i64 r1) w') w), (49, fun args w K Kp => unArgs [.one (.ptr), .one (.int .u64), .one (.int .u64)] args.toList fun x => c_stretch_Set_Add x.1 x.2.1 x.2.2.1 (fun  w' => K (.tuple ⟨[]⟩) w') w), (64, fun args w K Kp => unArgs [.one (.ptr)] args.toList fun x => c_radix_Tree_changed x.1 (fun  w' => K (.tuple ⟨[]⟩) w') w)]) (ground Go.Proofs.Tryd.prog) ann57 body57 (finQ Go.Proofs.Tryd.prog Go.Proofs.Tryd.f57 K Kp) (initF (mkArgs [.one (.ptr), .one (.int .u64), .one (.int .u64), .one (.ptr)] x)) w := by kernel_rfl
theorem tie57 (x : ArgsV [.one (.ptr), .one (.int .u64), .one (.int .u64), .one (.ptr)]) (K Kp : Value → World → Prop) (w : World) : F.radix_Tree_freed env x.1 x.2.1 x.2.2.1 x.2.2.2.1 (fun r1 w' => K (.int .i64 r1) w') w =
    ev Go.Proofs.Tryd.prog (tabC [(82, C82), (49, C49), (64, C64)]) (ground Go.Proofs.Tryd.prog) ann57 body57 (finQ Go.Proofs.Tryd.prog Go.Proofs.Tryd.f57 K Kp) (initF (mkArgs [.one (.ptr), .one (.int .u64), .one (.int .u64), .one (.ptr)] x)) w := tieZ57 (F.radix_Tree_looked env) (F.stretch_Set_Add env) (F.radix_Tree_changed env) x K Kp w
theorem fits57 : FitsOne Go.Proofs.Tryd.prog 57 C57 :=
  fits_of_tie (T := [(82, C82), (49, C49), (64, C64)]) (A := ann57) (fn := Go.Proofs.Tryd.f57) (c := body57) (fits_cons fits82 (fits_cons fits49 (fits_cons fits64 fits_nil))) mixed Go.Proofs.Tryd.func57 Go.Proofs.Tryd.call57 (by kernel_rfl) (by kernel_rfl) (by kernel_rfl) tie57

/- F.radix_Tree_Back -/
noncomputable def C76 : Entry := fun args w K Kp => unArgs [.one (.ptr), .one (.int .u64), .one (.int .u64)] args.toList fun x => F.radix_Tree_Back env x.1 x.2.1 x.2.2.1 (fun r1 w' => K (.int .i64 r1) w') w
noncomputable def body76 : Code := (Go.Proofs.Tryd.f76.body).getD .skip
def ann76 : Ann := { loops := [], joins := [] }
def T0.radix_Tree_Back (E : Env) (c_radix_Tree_freed : ∀ (a0 : (Option Addr)) (a1 : Int) (a2 : Int) (a3 : (Option Addr)) (K : Int → World → Prop) (w : World), Prop) (a0 : (Option Addr)) (a1 : Int) (a2 : Int) (K : Int → World → Prop) (w : World) : Prop :=
  NC a0 fun p1 =>
  c_radix_Tree_freed a0 a1 a2 (some (p1.add 4)) (fun r2 w3 =>
  K r2 w3
  ) w

theorem tieZ76 (c_radix_Tree_freed : ∀ (a0 : (Option Addr)) (a1 : Int) (a2 : Int) (a3 : (Option Addr)) (K : Int → World → Prop) (w : World), Prop) (x : ArgsV [.one (.ptr), .one (.int .u64), .one (.int .u64)]) (K Kp : Value → World → Prop) (w : World) : T0.radix_Tree_Back env c_radix_Tree_freed x.1 x.2.1 x.2.2.1 (fun r1 w' => K (.int .i64 r1) w') w =
    ev Go.Proofs.Tryd.prog (tabC [(57, fun args w K Kp => unArgs [.one (.ptr), .one (.int .u64), .one (.int .u64), .one (.ptr)] args.toList fun x => c_radix_Tree_freed x.1 x.2.1 x.2.2.1 x.2.2.2.1 (fun r1 w' => K (.int .i64 r1) w') w)]) (ground Go.Proofs.Tryd.prog) ann76 body76 (finQ Go.Proofs.Tryd.prog Go.Proofs.Tryd.f76 K Kp) (initF (mkArgs [.one (.ptr), .one (.int .u64), .one (.int .u64)] x)) w := by kernel_rfl
theorem tie76 (x : ArgsV [.one (.ptr), .one (.int .u64), .one (.int .u64)]) (K Kp : Value → World → Prop) (w : World) : F.radix_Tree_Back env x.1 x.2.1 x.2.2.1 (fun r1 w' => K (.int .i64 r1) w') w =
    ev Go.Proofs.Tryd.prog (tabC [(57, C57)]) (ground Go.Proofs.Tryd.prog) ann76 body76 (finQ Go.Proofs.Tryd.prog Go.Proofs.Tryd.f76 K Kp) (initF (mkArgs [.one (.ptr), .one (.int .u64), .one (.int .u64)] x)) w := tieZ76 (F.radix_Tree_freed env) x K Kp w
theorem fits76 : FitsOne Go.Proofs.Tryd.prog 76 C76 :=
  fits_of_tie (T := [(57, C57)]) (A := ann76) (fn := Go.Proofs.Tryd.f76) (c := body76) (fits_cons fits57 fits_nil) mixed Go.Proofs.Tryd.func76 Go.Proofs.Tryd.call76 (by kernel_rfl) (by kernel_rfl) (by kernel_rfl) tie76

/- F.radix_Tree_Give -/
noncomputable def C27 : Entry := fun args w K Kp => unArgs [.one (.ptr), .one (.int .u64), .one (.int .u64)] args.toList fun x => F.radix_Tree_Give env x.1 x.2.1 x.2.2.1 (fun r1 w' => K (.int .i64 r1) w') w
noncomputable def body27 : Code := (Go.Proofs.Tryd.f27.body).getD .skip
def ann27 : Ann := { loops := [], joins := [] }
def T0.radix_Tree_Give (E : Env) (c_radix_Tree_freed : ∀ (a0 : (Option Addr)) (a1 : Int) (a2 : Int) (a3 : (Option Addr)) (K : Int → World → Prop) (w : World), Prop) (a0 : (Option Addr)) (a1 : Int) (a2 : Int) (K : Int → World → Prop) (w : World) : Prop :=
  NC a0 fun p1 =>
  c_radix_Tree_freed a0 a1 a2 (some (p1.add 6)) (fun r2 w3 =>
  K r2 w3
  ) w

theorem tieZ27 (c_radix_Tree_freed : ∀ (a0 : (Option Addr)) (a1 : Int) (a2 : Int) (a3 : (Option Addr)) (K : Int → World → Prop) (w : World), Prop) (x : ArgsV [.one (.ptr), .one (.int .u64), .one (.int .u64)]) (K Kp : Value → World → Prop) (w : World) : T0.radix_Tree_Give env c_radix_Tree_freed x.1 x.2.1 x.2.2.1 (fun r1 w' => K (.int .i64 r1) w') w =
    ev Go.Proofs.Tryd.prog (tabC [(57, fun args w K Kp => unArgs [.one (.ptr), .one (.int .u64), .one (.int .u64), .one (.ptr)] args.toList fun x => c_radix_Tree_freed x.1 x.2.1 x.2.2.1 x.2.2.2.1 (fun r1 w' => K (.int .i64 r1) w') w)]) (ground Go.Proofs.Tryd.prog) ann27 body27 (finQ Go.Proofs.Tryd.prog Go.Proofs.Tryd.f27 K Kp) (initF (mkArgs [.one (.ptr), .one (.int .u64), .one (.int .u64)] x)) w := by kernel_rfl
theorem tie27 (x : ArgsV [.one (.ptr), .one (.int .u64), .one (.int .u64)]) (K Kp : Value → World → Prop) (w : World) : F.radix_Tree_Give env x.1 x.2.1 x.2.2.1 (fun r1 w' => K (.int .i64 r1) w') w =
    ev Go.Proofs.Tryd.prog (tabC [(57, C57)]) (ground Go.Proofs.Tryd.prog) ann27 body27 (finQ Go.Proofs.Tryd.prog Go.Proofs.Tryd.f27 K Kp) (initF (mkArgs [.one (.ptr), .one (.int .u64), .one (.int .u64)] x)) w := tieZ27 (F.radix_Tree_freed env) x K Kp w
theorem fits27 : FitsOne Go.Proofs.Tryd.prog 27 C27 :=
  fits_of_tie (T := [(57, C57)]) (A := ann27) (fn := Go.Proofs.Tryd.f27) (c := body27) (fits_cons fits57 fits_nil) mixed Go.Proofs.Tryd.func27 Go.Proofs.Tryd.call27 (by kernel_rfl) (by kernel_rfl) (by kernel_rfl) tie27

/- F.mheap_Heap_back -/
noncomputable def C43 : Entry := fun args w K Kp => unArgs [.one (.ptr), .one (.int .u64), .one (.int .u64)] args.toList fun x => F.mheap_Heap_back env x.1 x.2.1 x.2.2.1 (fun  w' => K (.tuple ⟨[]⟩) w') w
noncomputable def body43 : Code := (Go.Proofs.Tryd.f43.body).getD .skip
def ann43 : Ann := { loops := [(2, [(6, .one (.int .u64)), (20, .one (.int .i64))])], joins := [] }
def T0.mheap_Heap_back (E : Env) (c_vmem_Mem_Ready : ∀ (a0 : (Option Addr)) (a1 : Int) (a2 : Int) (K : SlV → World → Prop) (w : World), Prop) (c_radix_Tree_Back : ∀ (a0 : (Option Addr)) (a1 : Int) (a2 : Int) (K : Int → World → Prop) (w : World), Prop) (c_radix_Tree_Give : ∀ (a0 : (Option Addr)) (a1 : Int) (a2 : Int) (K : Int → World → Prop) (w : World), Prop) (a0 : (Option Addr)) (a1 : Int) (a2 : Int) (K : World → Prop) (w : World) : Prop :=
  NC a0 fun p1 =>
  ∃ x2 : (Option Addr), w.cell? p1 = some (.pointer x2) ∧
  c_vmem_Mem_Ready x2 a1 (u64 (a1 + a2)) (fun r3 w4 =>
  LOOP (Int × Int × Unit) (a1, 0, ()) w4 fun s5 _ w6 next7 =>
    CND (decide ((s5.2.1 : Int) < ((r3.len : Nat) : Int))) (
      NC r3.base fun p8 =>
      ((0 : Int) ≤ s5.2.1 ∧ (s5.2.1 : Int) < (r3.len : Nat)) ∧
      ∃ c9 : Int, w6.cell? ((p8.add (Int.toNat s5.2.1 * 2)).add 0) = some (.int .u64 c9) ∧
      ∃ c10 : Int, w6.cell? ((p8.add (Int.toNat s5.2.1 * 2)).add 1) = some (.int .u64 c10) ∧
      AL (.cells #[.int .u64 0, .int .u64 0] E.t_stretch_One) w6 fun b11 w12 =>
      stCells (Addr.mk b11 0 none) 0 [.int .u64 c9, .int .u64 c10] w12 fun w13 =>
      NC a0 fun p14 =>
      ∃ x15 : (Option Addr), w13.drew.cell? (p14.add 1) = some (.pointer x15) ∧
      ∃ x16 : Int, w13.drew.cell? (Addr.mk b11 0 none) = some (.int .u64 x16) ∧
      c_radix_Tree_Back x15 s5.1 (u64 (x16 - s5.1)) (fun r17 w18 =>
      w18.cell? (Addr.mk b11 0 none) = some (.int .u64 x16) ∧
      NC a0 fun p19 =>
      ∃ x20 : (Option Addr), w18.drew.cell? (p19.add 1) = some (.pointer x20) ∧
      ∃ x21 : Int, w18.drew.cell? (Addr.mk b11 0 none) = some (.int .u64 x21) ∧
      ∃ x22 : Int, w18.drew.cell? ((Addr.mk b11 0 none).add 1) = some (.int .u64 x22) ∧
      ∃ x23 : Int, w18.drew.cell? (Addr.mk b11 0 none) = some (.int .u64 x23) ∧
      c_radix_Tree_Give x20 x21 (u64 (x22 - x23)) (fun r24 w25 =>
      w25.cell? (Addr.mk b11 0 none) = some (.int .u64 x23) ∧
      w25.cell? ((Addr.mk b11 0 none).add 1) = some (.int .u64 x22) ∧
      ∃ x26 : Int, w25.cell? ((Addr.mk b11 0 none).add 1) = some (.int .u64 x26) ∧
      next7 (x26, i64 (s5.2.1 + 1), ()) w25
      ) w18.drew
      ) w13.drew
    ) (
      NC a0 fun p27 =>
      ∃ x28 : (Option Addr), w6.cell? (p27.add 1) = some (.pointer x28) ∧
      c_radix_Tree_Back x28 s5.1 (u64 ((u64 (a1 + a2)) - s5.1)) (fun r29 w30 =>
      K  w30
      ) w6
    )
  ) w

theorem tieZ43 (c_vmem_Mem_Ready : ∀ (a0 : (Option Addr)) (a1 : Int) (a2 : Int) (K : SlV → World → Prop) (w : World), Prop) (c_radix_Tree_Back : ∀ (a0 : (Option Addr)) (a1 : Int) (a2 : Int) (K : Int → World → Prop) (w : World), Prop) (c_radix_Tree_Give : ∀ (a0 : (Option Addr)) (a1 : Int) (a2 : Int) (K : Int → World → Prop) (w : World), Prop) (x : ArgsV [.one (.ptr), .one (.int .u64), .one (.int .u64)]) (K Kp : Value → World → Prop) (w : World) : T0.mheap_Heap_back env c_vmem_Mem_Ready c_radix_Tree_Back c_radix_Tree_Give x.1 x.2.1 x.2.2.1 (fun  w' => K (.tuple ⟨[]⟩) w') w =
    ev Go.Proofs.Tryd.prog (tabC [(75, fun args w K Kp => unArgs [.one (.ptr), .one (.int .u64), .one (.int .u64)] args.toList fun x => c_vmem_Mem_Ready x.1 x.2.1 x.2.2.1 (fun r1 w' => K (.slice r1.base r1.len r1.cap) w') w), (76, fun args w K Kp => unArgs [.one (.ptr), .one (.int .u64), .one (.int .u64)] args.toList fun x => c_radix_Tree_Back x.1 x.2.1 x.2.2.1 (fun r1 w' => K (.int .i64 r1) w') w), (27, fun args w K Kp => unArgs [.one (.ptr), .one (.int .u64), .one (.int .u64)] args.toList fun x => c_radix_Tree_Give x.1 x.2.1 x.2.2.1 (fun r1 w' => K (.int .i64 r1) w') w)]) (ground Go.Proofs.Tryd.prog) ann43 body43 (finQ Go.Proofs.Tryd.prog Go.Proofs.Tryd.f43 K Kp) (initF (mkArgs [.one (.ptr), .one (.int .u64), .one (.int .u64)] x)) w := by kernel_rfl
theorem tie43 (x : ArgsV [.one (.ptr), .one (.int .u64), .one (.int .u64)]) (K Kp : Value → World → Prop) (w : World) : F.mheap_Heap_back env x.1 x.2.1 x.2.2.1 (fun  w' => K (.tuple ⟨[]⟩) w') w =
    ev Go.Proofs.Tryd.prog (tabC [(75, C75), (76, C76), (27, C27)]) (ground Go.Proofs.Tryd.prog) ann43 body43 (finQ Go.Proofs.Tryd.prog Go.Proofs.Tryd.f43 K Kp) (initF (mkArgs [.one (.ptr), .one (.int .u64), .one (.int .u64)] x)) w := tieZ43 (F.vmem_Mem_Ready env) (F.radix_Tree_Back env) (F.radix_Tree_Give env) x K Kp w
theorem fits43 : FitsOne Go.Proofs.Tryd.prog 43 C43 :=
  fits_of_tie (T := [(75, C75), (76, C76), (27, C27)]) (A := ann43) (fn := Go.Proofs.Tryd.f43) (c := body43) (fits_cons fits75 (fits_cons fits76 (fits_cons fits27 fits_nil))) mixed Go.Proofs.Tryd.func43 Go.Proofs.Tryd.call43 (by kernel_rfl) (by kernel_rfl) (by kernel_rfl) tie43

/- F.mheap_Heap_find_1 -/
noncomputable def C42 : Entry := fun args w K Kp => unArgs [.one (.ptr), .one (.ptr), .one (.ptr), .one (.ptr)] args.toList fun x => F.mheap_Heap_find_1 env x.1 x.2.1 x.2.2.1 x.2.2.2.1 (fun  w' => K (.tuple ⟨[]⟩) w') w
noncomputable def body42 : Code := (Go.Proofs.Tryd.f42.body).getD .skip
def ann42 : Ann := { loops := [], joins := [] }
def T0.mheap_Heap_find_1 (E : Env) (c_mheap_Heap_back : ∀ (a0 : (Option Addr)) (a1 : Int) (a2 : Int) (K : World → Prop) (w : World), Prop) (a0 : (Option Addr)) (a1 : (Option Addr)) (a2 : (Option Addr)) (a3 : (Option Addr)) (K : World → Prop) (w : World) : Prop :=
  NC a0 fun p1 =>
  ∃ x2 : Int, w.cell? p1 = some (.int .i64 x2) ∧
  CND ((x2 : Int) != 0) (
    NC a1 fun p3 =>
    ∃ x4 : (Option Addr), w.cell? p3 = some (.pointer x4) ∧
    NC a2 fun p5 =>
    ∃ x6 : Int, w.cell? p5 = some (.int .u64 x6) ∧
    NC a3 fun p7 =>
    ∃ x8 : Int, w.cell? p7 = some (.int .u64 x8) ∧
    c_mheap_Heap_back x4 x6 x8 (fun  w9 =>
    K  w9
    ) w
  ) (
    K  w
  )

theorem tieZ42 (c_mheap_Heap_back : ∀ (a0 : (Option Addr)) (a1 : Int) (a2 : Int) (K : World → Prop) (w : World), Prop) (x : ArgsV [.one (.ptr), .one (.ptr), .one (.ptr), .one (.ptr)]) (K Kp : Value → World → Prop) (w : World) : T0.mheap_Heap_find_1 env c_mheap_Heap_back x.1 x.2.1 x.2.2.1 x.2.2.2.1 (fun  w' => K (.tuple ⟨[]⟩) w') w =
    ev Go.Proofs.Tryd.prog (tabC [(43, fun args w K Kp => unArgs [.one (.ptr), .one (.int .u64), .one (.int .u64)] args.toList fun x => c_mheap_Heap_back x.1 x.2.1 x.2.2.1 (fun  w' => K (.tuple ⟨[]⟩) w') w)]) (ground Go.Proofs.Tryd.prog) ann42 body42 (finQ Go.Proofs.Tryd.prog Go.Proofs.Tryd.f42 K Kp) (initF (mkArgs [.one (.ptr), .one (.ptr), .one (.ptr), .one (.ptr)] x)) w := by kernel_rfl
theorem tie42 (x : ArgsV [.one (.ptr), .one (.ptr), .one (.ptr), .one (.ptr)]) (K Kp : Value → World → Prop) (w : World) : F.mheap_Heap_find_1 env x.1 x.2.1 x.2.2.1 x.2.2.2.1 (fun  w' => K (.tuple ⟨[]⟩) w') w =
    ev Go.Proofs.Tryd.prog (tabC [(43, C43)]) (ground Go.Proofs.Tryd.prog) ann42 body42 (finQ Go.Proofs.Tryd.prog Go.Proofs.Tryd.f42 K Kp) (initF (mkArgs [.one (.ptr), .one (.ptr), .one (.ptr), .one (.ptr)] x)) w := tieZ42 (F.mheap_Heap_back env) x K Kp w
theorem fits42 : FitsOne Go.Proofs.Tryd.prog 42 C42 :=
  fits_of_tie (T := [(43, C43)]) (A := ann42) (fn := Go.Proofs.Tryd.f42) (c := body42) (fits_cons fits43 fits_nil) mixed Go.Proofs.Tryd.func42 Go.Proofs.Tryd.call42 (by kernel_rfl) (by kernel_rfl) (by kernel_rfl) tie42
noncomputable def D42 : EntryD := fun args pv w K => unArgs [.one (.ptr), .one (.ptr), .one (.ptr), .one (.ptr)] args.toList fun x => F.mheap_Heap_find_1 env x.1 x.2.1 x.2.2.1 x.2.2.2.1 (fun w' => K false w') w
theorem fitsD42 : FitsDOne Go.Proofs.Tryd.prog 42 D42 :=
  fitsD_plain (T := [(43, C43)]) (A := ann42) (fn := Go.Proofs.Tryd.f42) (c := body42) (l := [.one (.ptr), .one (.ptr), .one (.ptr), .one (.ptr)]) (F := fun (x : ArgsV [.one (.ptr), .one (.ptr), .one (.ptr), .one (.ptr)]) K w => F.mheap_Heap_find_1 env x.1 x.2.1 x.2.2.1 x.2.2.2.1 K w) (fits_cons fits43 fits_nil) mixed Go.Proofs.Tryd.func42 Go.Proofs.Tryd.call42 (by kernel_rfl) (by kernel_rfl) (by kernel_rfl) (fun x K w => tie42 x (fun _ w' => K w') noP w)

/- F.mheap_Heap_find -/
noncomputable def C18 : Entry := fun args w K Kp => unArgs [.one (.ptr), .one (.int .i64), .one (.int .u64)] args.toList fun x => F.mheap_Heap_find env x.1 x.2.1 x.2.2.1 (fun r1 r2 w' => K (.tuple ⟨[.int .u64 r1, .int .i64 r2]⟩) w') w
noncomputable def body18 : Code := (Go.Proofs.Tryd.f18.body).getD .skip
def ann18 : Ann := { loops := [], joins := [(7, [(6, .one (.int .u64))])] }
def T0.mheap_Heap_find (E : Env) (c_mheap_Heap_got : ∀ (a0 : (Option Addr)) (a1 : Int) (a2 : Int) (K : Int → Bool → World → Prop) (w : World), Prop) (c_mheap_Heap_grow : ∀ (a0 : (Option Addr)) (a1 : Int) (K : Int → World → Prop) (w : World), Prop) (c_radix_Tree_Alloc : ∀ (a0 : (Option Addr)) (a1 : Int) (K : Int → Int → Int → World → Prop) (w : World), Prop) (c_vmem_Mem_Commit : ∀ (a0 : (Option Addr)) (a1 : Int) (a2 : Int) (K : Int → World → Prop) (w : World), Prop) (a0 : (Option Addr)) (a1 : Int) (a2 : Int) (K : Int → Int → World → Prop) (w : World) : Prop :=
  AL (.cells #[.pointer a0] E.t__mheap_Heap) w fun b1 w2 =>
  AL (.cells #[.int .u64 a2] E.t_uint64) w2 fun b3 w4 =>
  AL (.cells #[.int .i64 0] E.t_api_Errno) w4 fun b5 w6 =>
  ∃ x7 : (Option Addr), w6.cell? (Addr.mk b1 0 none) = some (.pointer x7) ∧
  ∃ x8 : Int, w6.cell? (Addr.mk b3 0 none) = some (.int .u64 x8) ∧
  c_mheap_Heap_got x7 a1 x8 (fun r9 r10 w11 =>
  JOIN (Int × Unit) (fun J12 =>
    CND (!r10) (
      ∃ x15 : (Option Addr), w11.cell? (Addr.mk b1 0 none) = some (.pointer x15) ∧
      ∃ x16 : Int, w11.cell? (Addr.mk b3 0 none) = some (.int .u64 x16) ∧
      c_mheap_Heap_grow x15 x16 (fun r17 w18 =>
      stCells (Addr.mk b5 0 none) 0 [.int .i64 r17] w18 fun w19 =>
      ∃ x20 : Int, w19.cell? (Addr.mk b5 0 none) = some (.int .i64 x20) ∧
      CND ((x20 : Int) != 0) (
        ∃ x21 : Int, w19.drew.cell? (Addr.mk b5 0 none) = some (.int .i64 x21) ∧
        stCells (Addr.mk b5 0 none) 0 [.int .i64 x21] w19.drew fun w22 =>
        ∃ x23 : Int, w22.cell? (Addr.mk b5 0 none) = some (.int .i64 x23) ∧
        K 0 x23 w22
      ) (
        ∃ x24 : (Option Addr), w19.drew.cell? (Addr.mk b1 0 none) = some (.pointer x24) ∧
        NC x24 fun p25 =>
        ∃ x26 : (Option Addr), w19.drew.cell? (p25.add 1) = some (.pointer x26) ∧
        ∃ x27 : Int, w19.drew.cell? (Addr.mk b3 0 none) = some (.int .u64 x27) ∧
        c_radix_Tree_Alloc x26 x27 (fun r28 r29 r30 w31 =>
        w31.cell? (Addr.mk b1 0 none) = some (.pointer x24) ∧
        J12 (r28, ()) w31
        ) w19.drew
      )
      ) w11
    ) (
      J12 (r9, ()) w11
    )
  ) fun s13 _ w14 =>
    AL (.cells #[.int .u64 0] E.t_uint64) w14 fun b32 w33 =>
    stCells (Addr.mk b32 0 none) 0 [.int .u64 s13.1] w33 fun w34 =>
    ∃ x35 : (Option Addr), w34.drew.cell? (Addr.mk b1 0 none) = some (.pointer x35) ∧
    NC x35 fun p36 =>
    ∃ x37 : (Option Addr), w34.drew.cell? p36 = some (.pointer x37) ∧
    ∃ x38 : Int, w34.drew.cell? (Addr.mk b3 0 none) = some (.int .u64 x38) ∧
    c_vmem_Mem_Commit x37 s13.1 x38 (fun r39 w40 =>
    w40.cell? (Addr.mk b1 0 none) = some (.pointer x35) ∧
    CND ((r39 : Int) != 0) (
      stCells (Addr.mk b5 0 none) 0 [.int .i64 13] w40 fun w41 =>
      F.mheap_Heap_find_1 E (some (Addr.mk b5 0 none)) (some (Addr.mk b1 0 none)) (some (Addr.mk b32 0 none)) (some (Addr.mk b3 0 none)) (fun w42 =>
        ∃ x43 : Int, w42.cell? (Addr.mk b5 0 none) = some (.int .i64 x43) ∧
        K 0 x43 w42
      ) w41
    ) (
      stCells (Addr.mk b5 0 none) 0 [.int .i64 0] w40 fun w44 =>
      F.mheap_Heap_find_1 E (some (Addr.mk b5 0 none)) (some (Addr.mk b1 0 none)) (some (Addr.mk b32 0 none)) (some (Addr.mk b3 0 none)) (fun w45 =>
        ∃ x46 : Int, w45.cell? (Addr.mk b5 0 none) = some (.int .i64 x46) ∧
        K s13.1 x46 w45
      ) w44
    )
    ) w34.drew
  ) w6

theorem tieZ18 (c_mheap_Heap_got : ∀ (a0 : (Option Addr)) (a1 : Int) (a2 : Int) (K : Int → Bool → World → Prop) (w : World), Prop) (c_mheap_Heap_grow : ∀ (a0 : (Option Addr)) (a1 : Int) (K : Int → World → Prop) (w : World), Prop) (c_radix_Tree_Alloc : ∀ (a0 : (Option Addr)) (a1 : Int) (K : Int → Int → Int → World → Prop) (w : World), Prop) (c_vmem_Mem_Commit : ∀ (a0 : (Option Addr)) (a1 : Int) (a2 : Int) (K : Int → World → Prop) (w : World), Prop) (x : ArgsV [.one (.ptr), .one (.int .i64), .one (.int .u64)]) (K : Value → World → Prop) (w : World) : T0.mheap_Heap_find env c_mheap_Heap_got c_mheap_Heap_grow c_radix_Tree_Alloc c_vmem_Mem_Commit x.1 x.2.1 x.2.2.1 (fun r1 r2 w' => K (.tuple ⟨[.int .u64 r1, .int .i64 r2]⟩) w') w =
    evD Go.Proofs.Tryd.prog (tabC [(39, fun args w K Kp => unArgs [.one (.ptr), .one (.int .i64), .one (.int .u64)] args.toList fun x => c_mheap_Heap_got x.1 x.2.1 x.2.2.1 (fun r1 r2 w' => K (.tuple ⟨[.int .u64 r1, .bool r2]⟩) w') w), (40, fun args w K Kp => unArgs [.one (.ptr), .one (.int .u64)] args.toList fun x => c_mheap_Heap_grow x.1 x.2.1 (fun r1 w' => K (.int .i64 r1) w') w), (41, fun args w K Kp => unArgs [.one (.ptr), .one (.int .u64)] args.toList fun x => c_radix_Tree_Alloc x.1 x.2.1 (fun r1 r2 r3 w' => K (.tuple ⟨[.int .u64 r1, .int .u64 r2, .int .i64 r3]⟩) w') w), (44, fun args w K Kp => unArgs [.one (.ptr), .one (.int .u64), .one (.int .u64)] args.toList fun x => c_vmem_Mem_Commit x.1 x.2.1 x.2.2.1 (fun r1 w' => K (.int .i64 r1) w') w)]) (ground Go.Proofs.Tryd.prog) ann18 (finQ Go.Proofs.Tryd.prog Go.Proofs.Tryd.f18 K noP) (finD Go.Proofs.Tryd.prog Go.Proofs.Tryd.f18 (tabD [(42, D42)]) K noP) body18 (initF (mkArgs [.one (.ptr), .one (.int .i64), .one (.int .u64)] x)) w := by kernel_rfl
theorem tie18 (x : ArgsV [.one (.ptr), .one (.int .i64), .one (.int .u64)]) (K : Value → World → Prop) (w : World) : F.mheap_Heap_find env x.1 x.2.1 x.2.2.1 (fun r1 r2 w' => K (.tuple ⟨[.int .u64 r1, .int .i64 r2]⟩) w') w =
    evD Go.Proofs.Tryd.prog (tabC [(39, C39), (40, C40), (41, C41), (44, C44)]) (ground Go.Proofs.Tryd.prog) ann18 (finQ Go.Proofs.Tryd.prog Go.Proofs.Tryd.f18 K noP) (finD Go.Proofs.Tryd.prog Go.Proofs.Tryd.f18 (tabD [(42, D42)]) K noP) body18 (initF (mkArgs [.one (.ptr), .one (.int .i64), .one (.int .u64)] x)) w := tieZ18 (F.mheap_Heap_got env) (F.mheap_Heap_grow env) (F.radix_Tree_Alloc env) (F.vmem_Mem_Commit env) x K w
theorem fits18 : FitsOne Go.Proofs.Tryd.prog 18 C18 :=
  fits_of_tieD (T := [(39, C39), (40, C40), (41, C41), (44, C44)]) (TD := [(42, D42)]) (A := ann18) (fn := Go.Proofs.Tryd.f18) (c := body18) (fits_cons fits39 (fits_cons fits40 (fits_cons fits41 (fits_cons fits44 fits_nil)))) (fitsD_cons fitsD42 fitsD_nil) mixed Go.Proofs.Tryd.func18 Go.Proofs.Tryd.call18 (by kernel_rfl) (by kernel_rfl) (by kernel_rfl) tie18

/- F.fix_Fix_Take -/
noncomputable def C45 : Entry := fun args w K Kp => unArgs [.one (.ptr)] args.toList fun x => F.fix_Fix_Take env x.1 (fun r1 w' => K (.int .i64 r1) w') w
noncomputable def body45 : Code := (Go.Proofs.Tryd.f45.body).getD .skip
def ann45 : Ann := { loops := [], joins := [(6, [(3, .one (.ptr))])] }
theorem tie45 (x : ArgsV [.one (.ptr)]) (K Kp : Value → World → Prop) (w : World) : F.fix_Fix_Take env x.1 (fun r1 w' => K (.int .i64 r1) w') w =
    ev Go.Proofs.Tryd.prog (tabC []) (ground Go.Proofs.Tryd.prog) ann45 body45 (finQ Go.Proofs.Tryd.prog Go.Proofs.Tryd.f45 K Kp) (initF (mkArgs [.one (.ptr)] x)) w := by kernel_rfl
theorem fits45 : FitsOne Go.Proofs.Tryd.prog 45 C45 :=
  fits_of_tie (T := []) (A := ann45) (fn := Go.Proofs.Tryd.f45) (c := body45) fits_nil mixed Go.Proofs.Tryd.func45 Go.Proofs.Tryd.call45 (by kernel_rfl) (by kernel_rfl) (by kernel_rfl) tie45

/- F.span_Span_Info -/
noncomputable def C7 : Entry := fun args w K Kp => unArgs [.one (.ptr)] args.toList fun x => F.span_Span_Info env x.1 (fun r1 r2 r3 r4 r5 r6 r7 r8 r9 r10 w' => K (.agg ⟨[.int .u64 r1, .int .i64 r2, .int .i64 r3, .int .i64 r4, .bool r5, .int .i64 r6, .int .i64 r7, .int .i64 r8, .bool r9, .bool r10]⟩) w') w
noncomputable def body7 : Code := (Go.Proofs.Tryd.f7.body).getD .skip
def ann7 : Ann := { loops := [], joins := [] }
theorem tie7 (x : ArgsV [.one (.ptr)]) (K Kp : Value → World → Prop) (w : World) : F.span_Span_Info env x.1 (fun r1 r2 r3 r4 r5 r6 r7 r8 r9 r10 w' => K (.agg ⟨[.int .u64 r1, .int .i64 r2, .int .i64 r3, .int .i64 r4, .bool r5, .int .i64 r6, .int .i64 r7, .int .i64 r8, .bool r9, .bool r10]⟩) w') w =
    ev Go.Proofs.Tryd.prog (tabC []) (ground Go.Proofs.Tryd.prog) ann7 body7 (finQ Go.Proofs.Tryd.prog Go.Proofs.Tryd.f7 K Kp) (initF (mkArgs [.one (.ptr)] x)) w := by kernel_rfl
theorem fits7 : FitsOne Go.Proofs.Tryd.prog 7 C7 :=
  fits_of_tie (T := []) (A := ann7) (fn := Go.Proofs.Tryd.f7) (c := body7) fits_nil mixed Go.Proofs.Tryd.func7 Go.Proofs.Tryd.call7 (by kernel_rfl) (by kernel_rfl) (by kernel_rfl) tie7

/- F.arena_Map_cut -/
noncomputable def C54 : Entry := fun args w K Kp => unArgs [.one (.ptr), .one (.int .u64), .one (.int .u64)] args.toList fun x => F.arena_Map_cut env x.1 x.2.1 x.2.2.1 (fun  w' => K (.tuple ⟨[]⟩) w') w
noncomputable def body54 : Code := (Go.Proofs.Tryd.f54.body).getD .skip
def ann54 : Ann := { loops := [(2, [(6, .one (.sl)), (16, .one (.int .i64))]), (14, []), (19, [(10, .one (.int .u64))])], joins := [(5, [(29, .one (.bool))]), (8, [(6, .one (.sl))]), (15, [(81, .one (.bool))]), (17, [(91, .one (.bool))])] }
theorem tie54 (x : ArgsV [.one (.ptr), .one (.int .u64), .one (.int .u64)]) (K Kp : Value → World → Prop) (w : World) : F.arena_Map_cut env x.1 x.2.1 x.2.2.1 (fun  w' => K (.tuple ⟨[]⟩) w') w =
    ev Go.Proofs.Tryd.prog (tabC []) (ground Go.Proofs.Tryd.prog) ann54 body54 (finQ Go.Proofs.Tryd.prog Go.Proofs.Tryd.f54 K Kp) (initF (mkArgs [.one (.ptr), .one (.int .u64), .one (.int .u64)] x)) w := by kernel_rfl
theorem fits54 : FitsOne Go.Proofs.Tryd.prog 54 C54 :=
  fits_of_tie (T := []) (A := ann54) (fn := Go.Proofs.Tryd.f54) (c := body54) fits_nil mixed Go.Proofs.Tryd.func54 Go.Proofs.Tryd.call54 (by kernel_rfl) (by kernel_rfl) (by kernel_rfl) tie54

/- F.arena_Map_Set -/
noncomputable def C26 : Entry := fun args w K Kp => unArgs [.one (.ptr), .one (.int .u64), .one (.int .u64), .one (.int .i64)] args.toList fun x => F.arena_Map_Set env x.1 x.2.1 x.2.2.1 x.2.2.2.1 (fun r1 w' => K (.int .i64 r1) w') w
noncomputable def body26 : Code := (Go.Proofs.Tryd.f26.body).getD .skip
def ann26 : Ann := { loops := [], joins := [(2, [(20, .one (.bool))]), (4, [(28, .one (.bool))]), (14, [])] }
def T0.arena_Map_Set (E : Env) (c_stretch_Set_Count : ∀ (a0 : (Option Addr)) (a1 : Int) (a2 : Int) (K : Int → World → Prop) (w : World), Prop) (c_arena_Map_cut : ∀ (a0 : (Option Addr)) (a1 : Int) (a2 : Int) (K : World → Prop) (w : World), Prop) (a0 : (Option Addr)) (a1 : Int) (a2 : Int) (a3 : Int) (K : Int → World → Prop) (w : World) : Prop :=
  AL (.cells #[.pointer a0] E.t__arena_Map) w fun b1 w2 =>
  AL (.cells #[.int .i64 a3] E.t_int) w2 fun b3 w4 =>
  JOIN (Bool × Unit) (fun J5 =>
    CND ((a2 : Int) == 0) (
      J5 (true, ()) w4
    ) (
      ∃ x8 : Int, w4.cell? (Addr.mk b3 0 none) = some (.int .i64 x8) ∧
      J5 (decide ((x8 : Int) < 0), ()) w4
    )
  ) fun s6 _ w7 =>
    CND (s6.1) (
      K 1 w7
    ) (
      JOIN (Bool × Unit) (fun J9 =>
        CND (decide ((a1 : Int) ≥ 34359738368)) (
          J9 (true, ()) w7
        ) (
          J9 (decide ((a2 : Int) > (u64 (34359738368 - a1))), ()) w7
        )
      ) fun s10 _ w11 =>
        CND (s10.1) (
          K 10 w11
        ) (
          512 ≠ (0 : Int) ∧
          512 ≠ (0 : Int) ∧
          LET (u64 (Int.tdiv (u64 ((u64 ((u64 (a1 + a2)) + 512)) - 1)) 512) : Int) fun last_12 =>
          ∃ x13 : (Option Addr), w11.cell? (Addr.mk b1 0 none) = some (.pointer x13) ∧
          NC x13 fun p14 =>
          c_stretch_Set_Count (some p14) (u64 (Int.tdiv a1 512)) last_12 (fun r15 w16 =>
          CND ((r15 : Int) != (u64 (last_12 - (u64 (Int.tdiv a1 512))))) (
            K 10 w16
          ) (
            512 ≠ (0 : Int) ∧
            512 ≠ (0 : Int) ∧
            LET (u64 (Int.tdiv (u64 ((u64 (a1 + 512)) - 1)) 512) : Int) fun from_17 =>
            LET (u64 (Int.tdiv (u64 (a1 + a2)) 512) : Int) fun to_18 =>
            JOIN (Unit) (fun J19 =>
              CND (decide ((from_17 : Int) < to_18)) (
                ∃ x22 : (Option Addr), w16.cell? (Addr.mk b1 0 none) = some (.pointer x22) ∧
                c_arena_Map_cut x22 from_17 to_18 (fun  w23 =>
                ∃ x24 : Int, w23.cell? (Addr.mk b3 0 none) = some (.int .i64 x24) ∧
                CND (decide ((x24 : Int) > 0)) (
                  ∃ x25 : (Option Addr), w23.drew.cell? (Addr.mk b1 0 none) = some (.pointer x25) ∧
                  ∃ x26 : (Option Addr), w23.drew.cell? (Addr.mk b1 0 none) = some (.pointer x26) ∧
                  NC x26 fun p27 =>
                  ∃ x28 : SlV, w23.drew.cell? (p27.add 2) = some (.slice x28.base x28.len x28.cap) ∧
                  ∃ x29 : Int, w23.drew.cell? (Addr.mk b3 0 none) = some (.int .i64 x29) ∧
                  AL (.cells ⟨[.int .u64 from_17, .int .u64 to_18, .int .i64 x29]⟩ E.t_arena_wide) w23.drew fun b30 w31 =>
                  w31.cell? (Addr.mk b3 0 none) = some (.int .i64 x29) ∧
                  w31.cell? (p27.add 2) = some (.slice x28.base x28.len x28.cap) ∧
                  w31.cell? (Addr.mk b1 0 none) = some (.pointer x26) ∧
                  w31.cell? (Addr.mk b1 0 none) = some (.pointer x25) ∧
                  APP E.t_arena_wide 3 24 #[.int .u64 0, .int .u64 0, .int .i64 0] x28 ⟨(some (Addr.mk b30 0 none)), 1, 1⟩ w31 fun s32 w33 =>
                  w33.cell? (Addr.mk b3 0 none) = some (.int .i64 x29) ∧
                  w33.cell? (Addr.mk b1 0 none) = some (.pointer x26) ∧
                  w33.cell? (Addr.mk b1 0 none) = some (.pointer x25) ∧
                  NC x25 fun p34 =>
                  stCells (p34.add 2) 0 [.slice s32.base s32.len s32.cap] w33 fun w35 =>
                  J19 (()) w35
                ) (
                  J19 (()) w23
                )
                ) w16
              ) (
                J19 (()) w16
              )
            ) fun s20 _ w21 =>
              CND (decide ((from_17 : Int) > to_18)) (
                CAL E.call E.f_arena_Map_Set_1 #[.int .u64 a1, .int .u64 (u64 (a1 + a2)), .pointer (some (Addr.mk b3 0 none)), .pointer (some (Addr.mk b1 0 none))] w21 fun r36 w37 =>
                r36 = .tuple ⟨[]⟩ ∧
                K 0 w37
              ) (
                CAL E.call E.f_arena_Map_Set_1 #[.int .u64 a1, .int .u64 (u64 (from_17 * 512)), .pointer (some (Addr.mk b3 0 none)), .pointer (some (Addr.mk b1 0 none))] w21 fun r38 w39 =>
                r38 = .tuple ⟨[]⟩ ∧
                CAL E.call E.f_arena_Map_Set_1 #[.int .u64 (u64 (to_18 * 512)), .int .u64 (u64 (a1 + a2)), .pointer (some (Addr.mk b3 0 none)), .pointer (some (Addr.mk b1 0 none))] w39 fun r40 w41 =>
                r40 = .tuple ⟨[]⟩ ∧
                K 0 w41
              )
          )
          ) w11
        )
    )

theorem tieZ26 (c_stretch_Set_Count : ∀ (a0 : (Option Addr)) (a1 : Int) (a2 : Int) (K : Int → World → Prop) (w : World), Prop) (c_arena_Map_cut : ∀ (a0 : (Option Addr)) (a1 : Int) (a2 : Int) (K : World → Prop) (w : World), Prop) (x : ArgsV [.one (.ptr), .one (.int .u64), .one (.int .u64), .one (.int .i64)]) (K Kp : Value → World → Prop) (w : World) : T0.arena_Map_Set env c_stretch_Set_Count c_arena_Map_cut x.1 x.2.1 x.2.2.1 x.2.2.2.1 (fun r1 w' => K (.int .i64 r1) w') w =
    ev Go.Proofs.Tryd.prog (tabC [(51, fun args w K Kp => unArgs [.one (.ptr), .one (.int .u64), .one (.int .u64)] args.toList fun x => c_stretch_Set_Count x.1 x.2.1 x.2.2.1 (fun r1 w' => K (.int .u64 r1) w') w), (54, fun args w K Kp => unArgs [.one (.ptr), .one (.int .u64), .one (.int .u64)] args.toList fun x => c_arena_Map_cut x.1 x.2.1 x.2.2.1 (fun  w' => K (.tuple ⟨[]⟩) w') w)]) (ground Go.Proofs.Tryd.prog) ann26 body26 (finQ Go.Proofs.Tryd.prog Go.Proofs.Tryd.f26 K Kp) (initF (mkArgs [.one (.ptr), .one (.int .u64), .one (.int .u64), .one (.int .i64)] x)) w := by kernel_rfl
theorem tie26 (x : ArgsV [.one (.ptr), .one (.int .u64), .one (.int .u64), .one (.int .i64)]) (K Kp : Value → World → Prop) (w : World) : F.arena_Map_Set env x.1 x.2.1 x.2.2.1 x.2.2.2.1 (fun r1 w' => K (.int .i64 r1) w') w =
    ev Go.Proofs.Tryd.prog (tabC [(51, C51), (54, C54)]) (ground Go.Proofs.Tryd.prog) ann26 body26 (finQ Go.Proofs.Tryd.prog Go.Proofs.Tryd.f26 K Kp) (initF (mkArgs [.one (.ptr), .one (.int .u64), .one (.int .u64), .one (.int .i64)] x)) w := tieZ26 (F.stretch_Set_Count env) (F.arena_Map_cut env) x K Kp w
theorem fits26 : FitsOne Go.Proofs.Tryd.prog 26 C26 :=
  fits_of_tie (T := [(51, C51), (54, C54)]) (A := ann26) (fn := Go.Proofs.Tryd.f26) (c := body26) (fits_cons fits51 (fits_cons fits54 fits_nil)) mixed Go.Proofs.Tryd.func26 Go.Proofs.Tryd.call26 (by kernel_rfl) (by kernel_rfl) (by kernel_rfl) tie26

/- F.mheap_Heap_keep -/
noncomputable def C19 : Entry := fun args w K Kp => unArgs [.one (.ptr), .one (.ptr)] args.toList fun x => F.mheap_Heap_keep env x.1 x.2.1 (fun r1 w' => K (.int .i64 r1) w') w
noncomputable def body19 : Code := (Go.Proofs.Tryd.f19.body).getD .skip
def ann19 : Ann := { loops := [], joins := [] }
def T0.mheap_Heap_keep (E : Env) (c_fix_Fix_Take : ∀ (a0 : (Option Addr)) (K : Int → World → Prop) (w : World), Prop) (c_span_Span_Info : ∀ (a0 : (Option Addr)) (K : Int → Int → Int → Int → Bool → Int → Int → Int → Bool → Bool → World → Prop) (w : World), Prop) (c_arena_Map_Set : ∀ (a0 : (Option Addr)) (a1 : Int) (a2 : Int) (a3 : Int) (K : Int → World → Prop) (w : World), Prop) (a0 : (Option Addr)) (a1 : (Option Addr)) (K : Int → World → Prop) (w : World) : Prop :=
  NC a0 fun p1 =>
  ∃ x2 : (Option Addr), w.cell? (p1.add 3) = some (.pointer x2) ∧
  c_fix_Fix_Take x2 (fun r3 w4 =>
  NC a0 fun p5 =>
  ∃ x6 : (Option Nat), w4.cell? (p5.add 4) = some (.map x6) ∧
  MUPD .i64 r3 (.pointer a1) x6 w4 fun w7 =>
  c_span_Span_Info a1 (fun r8 r9 r10 r11 r12 r13 r14 r15 r16 r17 w18 =>
  AL (.cells #[.int .u64 0, .int .i64 0, .int .i64 0, .int .i64 0, .bool false, .int .i64 0, .int .i64 0, .int .i64 0, .bool false, .bool false] E.t_api_Info) w18 fun b19 w20 =>
  stCells (Addr.mk b19 0 none) 0 [.int .u64 r8, .int .i64 r9, .int .i64 r10, .int .i64 r11, .bool r12, .int .i64 r13, .int .i64 r14, .int .i64 r15, .bool r16, .bool r17] w20 fun w21 =>
  NC a0 fun p22 =>
  ∃ x23 : (Option Addr), w21.drew.cell? (p22.add 2) = some (.pointer x23) ∧
  ∃ x24 : Int, w21.drew.cell? (Addr.mk b19 0 none) = some (.int .u64 x24) ∧
  8192 ≠ (0 : Int) ∧
  ∃ x25 : Int, w21.drew.cell? ((Addr.mk b19 0 none).add 1) = some (.int .i64 x25) ∧
  c_arena_Map_Set x23 (u64 (Int.tdiv x24 8192)) (u64 (x25)) r3 (fun r26 w27 =>
  w27.cell? ((Addr.mk b19 0 none).add 1) = some (.int .i64 x25) ∧
  w27.cell? (Addr.mk b19 0 none) = some (.int .u64 x24) ∧
  NC a0 fun p28 =>
  ∃ x29 : Int, w27.drew.cell? (p28.add 70) = some (.int .u64 x29) ∧
  ∃ x30 : Int, w27.drew.cell? ((Addr.mk b19 0 none).add 1) = some (.int .i64 x30) ∧
  NC a0 fun p31 =>
  stCells (p31.add 70) 0 [.int .u64 (u64 (x29 + (u64 (x30))))] w27.drew fun w32 =>
  K r3 w32
  ) w21.drew
  ) w7
  ) w

theorem tieZ19 (c_fix_Fix_Take : ∀ (a0 : (Option Addr)) (K : Int → World → Prop) (w : World), Prop) (c_span_Span_Info : ∀ (a0 : (Option Addr)) (K : Int → Int → Int → Int → Bool → Int → Int → Int → Bool → Bool → World → Prop) (w : World), Prop) (c_arena_Map_Set : ∀ (a0 : (Option Addr)) (a1 : Int) (a2 : Int) (a3 : Int) (K : Int → World → Prop) (w : World), Prop) (x : ArgsV [.one (.ptr), .one (.ptr)]) (K Kp : Value → World → Prop) (w : World) : T0.mheap_Heap_keep env c_fix_Fix_Take c_span_Span_Info c_arena_Map_Set x.1 x.2.1 (fun r1 w' => K (.int .i64 r1) w') w =
    ev Go.Proofs.Tryd.prog (tabC [(45, fun args w K Kp => unArgs [.one (.ptr)] args.toList fun x => c_fix_Fix_Take x.1 (fun r1 w' => K (.int .i64 r1) w') w), (7, fun args w K Kp => unArgs [.one (.ptr)] args.toList fun x => c_span_Span_Info x.1 (fun r1 r2 r3 r4 r5 r6 r7 r8 r9 r10 w' => K (.agg ⟨[.int .u64 r1, .int .i64 r2, .int .i64 r3, .int .i64 r4, .bool r5, .int .i64 r6, .int .i64 r7, .int .i64 r8, .bool r9, .bool r10]⟩) w') w), (26, fun args w K Kp => unArgs [.one (.ptr), .one (.int .u64), .one (.int .u64), .one (.int .i64)] args.toList fun x => c_arena_Map_Set x.1 x.2.1 x.2.2.1 x.2.2.2.1 (fun r1 w' => K (.int .i64 r1) w') w)]) (ground Go.Proofs.Tryd.prog) ann19 body19 (finQ Go.Proofs.Tryd.prog Go.Proofs.Tryd.f19 K Kp) (initF (mkArgs [.one (.ptr), .one (.ptr)] x)) w := by kernel_rfl
theorem tie19 (x : ArgsV [.one (.ptr), .one (.ptr)]) (K Kp : Value → World → Prop) (w : World) : F.mheap_Heap_keep env x.1 x.2.1 (fun r1 w' => K (.int .i64 r1) w') w =
    ev Go.Proofs.Tryd.prog (tabC [(45, C45), (7, C7), (26, C26)]) (ground Go.Proofs.Tryd.prog) ann19 body19 (finQ Go.Proofs.Tryd.prog Go.Proofs.Tryd.f19 K Kp) (initF (mkArgs [.one (.ptr), .one (.ptr)] x)) w := tieZ19 (F.fix_Fix_Take env) (F.span_Span_Info env) (F.arena_Map_Set env) x K Kp w
theorem fits19 : FitsOne Go.Proofs.Tryd.prog 19 C19 :=
  fits_of_tie (T := [(45, C45), (7, C7), (26, C26)]) (A := ann19) (fn := Go.Proofs.Tryd.f19) (c := body19) (fits_cons fits45 (fits_cons fits7 (fits_cons fits26 fits_nil))) mixed Go.Proofs.Tryd.func19 Go.Proofs.Tryd.call19 (by kernel_rfl) (by kernel_rfl) (by kernel_rfl) tie19

/- F.mheap_Heap_Alloc -/
noncomputable def C5 : Entry := fun args w K Kp => unArgs [.one (.ptr), .one (.int .i64), .one (.int .u64), .one (.int .i64), .one (.bool)] args.toList fun x => F.mheap_Heap_Alloc env x.1 x.2.1 x.2.2.1 x.2.2.2.1 x.2.2.2.2.1 (fun r1 r2 w' => K (.tuple ⟨[.int .i64 r1, .int .i64 r2]⟩) w') w
noncomputable def body5 : Code := (Go.Proofs.Tryd.f5.body).getD .skip
def ann5 : Ann := { loops := [], joins := [] }
def T0.mheap_Heap_Alloc (E : Env) (c_span_New : ∀ (a0 : Int) (a1 : Int) (a2 : Int) (a3 : Bool) (K : (Option Addr) → Int → World → Prop) (w : World), Prop) (c_mheap_Heap_find : ∀ (a0 : (Option Addr)) (a1 : Int) (a2 : Int) (K : Int → Int → World → Prop) (w : World), Prop) (c_mheap_Heap_keep : ∀ (a0 : (Option Addr)) (a1 : (Option Addr)) (K : Int → World → Prop) (w : World), Prop) (a0 : (Option Addr)) (a1 : Int) (a2 : Int) (a3 : Int) (a4 : Bool) (K : Int → Int → World → Prop) (w : World) : Prop :=
  c_span_New 0 a2 a3 a4 (fun r1 r2 w3 =>
  CND ((r2 : Int) != 0) (
    K 0 1 w3
  ) (
    c_mheap_Heap_find a0 a1 a2 (fun r4 r5 w6 =>
    CND ((r5 : Int) != 0) (
      K 0 r5 w6
    ) (
      c_span_New r4 a2 a3 a4 (fun r7 r8 w9 =>
      c_mheap_Heap_keep a0 r7 (fun r10 w11 =>
      K r10 0 w11
      ) w9
      ) w6
    )
    ) w3
  )
  ) w

theorem tieZ5 (c_span_New : ∀ (a0 : Int) (a1 : Int) (a2 : Int) (a3 : Bool) (K : (Option Addr) → Int → World → Prop) (w : World), Prop) (c_mheap_Heap_find : ∀ (a0 : (Option Addr)) (a1 : Int) (a2 : Int) (K : Int → Int → World → Prop) (w : World), Prop) (c_mheap_Heap_keep : ∀ (a0 : (Option Addr)) (a1 : (Option Addr)) (K : Int → World → Prop) (w : World), Prop) (x : ArgsV [.one (.ptr), .one (.int .i64), .one (.int .u64), .one (.int .i64), .one (.bool)]) (K Kp : Value → World → Prop) (w : World) : T0.mheap_Heap_Alloc env c_span_New c_mheap_Heap_find c_mheap_Heap_keep x.1 x.2.1 x.2.2.1 x.2.2.2.1 x.2.2.2.2.1 (fun r1 r2 w' => K (.tuple ⟨[.int .i64 r1, .int .i64 r2]⟩) w') w =
    ev Go.Proofs.Tryd.prog (tabC [(17, fun args w K Kp => unArgs [.one (.int .u64), .one (.int .u64), .one (.int .i64), .one (.bool)] args.toList fun x => c_span_New x.1 x.2.1 x.2.2.1 x.2.2.2.1 (fun r1 r2 w' => K (.tuple ⟨[.pointer r1, .int .i64 r2]⟩) w') w), (18, fun args w K Kp => unArgs [.one (.ptr), .one (.int .i64), .one (.int .u64)] args.toList fun x => c_mheap_Heap_find x.1 x.2.1 x.2.2.1 (fun r1 r2 w' => K (.tuple ⟨[.int .u64 r1, .int .i64 r2]⟩) w') w), (19, fun args w K Kp => unArgs [.one (.ptr), .one (.ptr)] args.toList fun x => c_mheap_Heap_keep x.1 x.2.1 (fun r1 w' => K (.int .i64 r1) w') w)]) (ground Go.Proofs.Tryd.prog) ann5 body5 (finQ Go.Proofs.Tryd.prog Go.Proofs.Tryd.f5 K Kp) (initF (mkArgs [.one (.ptr), .one (.int .i64), .one (.int .u64), .one (.int .i64), .one (.bool)] x)) w := by kernel_rfl
theorem tie5 (x : ArgsV [.one (.ptr), .one (.int .i64), .one (.int .u64), .one (.int .i64), .one (.bool)]) (K Kp : Value → World → Prop) (w : World) : F.mheap_Heap_Alloc env x.1 x.2.1 x.2.2.1 x.2.2.2.1 x.2.2.2.2.1 (fun r1 r2 w' => K (.tuple ⟨[.int .i64 r1, .int .i64 r2]⟩) w') w =
    ev Go.Proofs.Tryd.prog (tabC [(17, C17), (18, C18), (19, C19)]) (ground Go.Proofs.Tryd.prog) ann5 body5 (finQ Go.Proofs.Tryd.prog Go.Proofs.Tryd.f5 K Kp) (initF (mkArgs [.one (.ptr), .one (.int .i64), .one (.int .u64), .one (.int .i64), .one (.bool)] x)) w := tieZ5 (F.span_New env) (F.mheap_Heap_find env) (F.mheap_Heap_keep env) x K Kp w
theorem fits5 : FitsOne Go.Proofs.Tryd.prog 5 C5 :=
  fits_of_tie (T := [(17, C17), (18, C18), (19, C19)]) (A := ann5) (fn := Go.Proofs.Tryd.f5) (c := body5) (fits_cons fits17 (fits_cons fits18 (fits_cons fits19 fits_nil))) mixed Go.Proofs.Tryd.func5 Go.Proofs.Tryd.call5 (by kernel_rfl) (by kernel_rfl) (by kernel_rfl) tie5

/- F.mheap_Heap_Span -/
noncomputable def C6 : Entry := fun args w K Kp => unArgs [.one (.ptr), .one (.int .i64)] args.toList fun x => F.mheap_Heap_Span env x.1 x.2.1 (fun r1 r2 w' => K (.tuple ⟨[.pointer r1, .int .i64 r2]⟩) w') w
noncomputable def body6 : Code := (Go.Proofs.Tryd.f6.body).getD .skip
def ann6 : Ann := { loops := [], joins := [] }
theorem tie6 (x : ArgsV [.one (.ptr), .one (.int .i64)]) (K Kp : Value → World → Prop) (w : World) : F.mheap_Heap_Span env x.1 x.2.1 (fun r1 r2 w' => K (.tuple ⟨[.pointer r1, .int .i64 r2]⟩) w') w =
    ev Go.Proofs.Tryd.prog (tabC []) (ground Go.Proofs.Tryd.prog) ann6 body6 (finQ Go.Proofs.Tryd.prog Go.Proofs.Tryd.f6 K Kp) (initF (mkArgs [.one (.ptr), .one (.int .i64)] x)) w := by kernel_rfl
theorem fits6 : FitsOne Go.Proofs.Tryd.prog 6 C6 :=
  fits_of_tie (T := []) (A := ann6) (fn := Go.Proofs.Tryd.f6) (c := body6) fits_nil mixed Go.Proofs.Tryd.func6 Go.Proofs.Tryd.call6 (by kernel_rfl) (by kernel_rfl) (by kernel_rfl) tie6

/- F.mheap_Heap_Mem -/
noncomputable def C8 : Entry := fun args w K Kp => unArgs [.one (.ptr)] args.toList fun x => F.mheap_Heap_Mem env x.1 (fun r1 w' => K (.pointer r1) w') w
noncomputable def body8 : Code := (Go.Proofs.Tryd.f8.body).getD .skip
def ann8 : Ann := { loops := [], joins := [] }
theorem tie8 (x : ArgsV [.one (.ptr)]) (K Kp : Value → World → Prop) (w : World) : F.mheap_Heap_Mem env x.1 (fun r1 w' => K (.pointer r1) w') w =
    ev Go.Proofs.Tryd.prog (tabC []) (ground Go.Proofs.Tryd.prog) ann8 body8 (finQ Go.Proofs.Tryd.prog Go.Proofs.Tryd.f8 K Kp) (initF (mkArgs [.one (.ptr)] x)) w := by kernel_rfl
theorem fits8 : FitsOne Go.Proofs.Tryd.prog 8 C8 :=
  fits_of_tie (T := []) (A := ann8) (fn := Go.Proofs.Tryd.f8) (c := body8) fits_nil mixed Go.Proofs.Tryd.func8 Go.Proofs.Tryd.call8 (by kernel_rfl) (by kernel_rfl) (by kernel_rfl) tie8

/- F.stretch_Set_Has -/
noncomputable def C46 : Entry := fun args w K Kp => unArgs [.one (.ptr), .one (.int .u64)] args.toList fun x => F.stretch_Set_Has env x.1 x.2.1 (fun r1 w' => K (.bool r1) w') w
noncomputable def body46 : Code := (Go.Proofs.Tryd.f46.body).getD .skip
def ann46 : Ann := { loops := [], joins := [] }
def T0.stretch_Set_Has (E : Env) (c_stretch_Set_at : ∀ (a0 : (Option Addr)) (a1 : Int) (K : Int → World → Prop) (w : World), Prop) (a0 : (Option Addr)) (a1 : Int) (K : Bool → World → Prop) (w : World) : Prop :=
  c_stretch_Set_at a0 a1 (fun r1 w2 =>
  NC a0 fun p3 =>
  ∃ x4 : SlV, w2.cell? p3 = some (.slice x4.base x4.len x4.cap) ∧
  CND (decide ((r1 : Int) < ((x4.len : Nat) : Int))) (
    NC a0 fun p5 =>
    ∃ x6 : SlV, w2.cell? p5 = some (.slice x6.base x6.len x6.cap) ∧
    NC x6.base fun p7 =>
    ((0 : Int) ≤ r1 ∧ (r1 : Int) < (x6.len : Nat)) ∧
    ∃ x8 : Int, w2.cell? (p7.add (Int.toNat r1 * 2)) = some (.int .u64 x8) ∧
    K (decide ((x8 : Int) ≤ a1)) w2
  ) (
    K false w2
  )
  ) w

theorem tieZ46 (c_stretch_Set_at : ∀ (a0 : (Option Addr)) (a1 : Int) (K : Int → World → Prop) (w : World), Prop) (x : ArgsV [.one (.ptr), .one (.int .u64)]) (K Kp : Value → World → Prop) (w : World) : T0.stretch_Set_Has env c_stretch_Set_at x.1 x.2.1 (fun r1 w' => K (.bool r1) w') w =
    ev Go.Proofs.Tryd.prog (tabC [(80, fun args w K Kp => unArgs [.one (.ptr), .one (.int .u64)] args.toList fun x => c_stretch_Set_at x.1 x.2.1 (fun r1 w' => K (.int .i64 r1) w') w)]) (ground Go.Proofs.Tryd.prog) ann46 body46 (finQ Go.Proofs.Tryd.prog Go.Proofs.Tryd.f46 K Kp) (initF (mkArgs [.one (.ptr), .one (.int .u64)] x)) w := by kernel_rfl
theorem tie46 (x : ArgsV [.one (.ptr), .one (.int .u64)]) (K Kp : Value → World → Prop) (w : World) : F.stretch_Set_Has env x.1 x.2.1 (fun r1 w' => K (.bool r1) w') w =
    ev Go.Proofs.Tryd.prog (tabC [(80, C80)]) (ground Go.Proofs.Tryd.prog) ann46 body46 (finQ Go.Proofs.Tryd.prog Go.Proofs.Tryd.f46 K Kp) (initF (mkArgs [.one (.ptr), .one (.int .u64)] x)) w := tieZ46 (F.stretch_Set_at env) x K Kp w
theorem fits46 : FitsOne Go.Proofs.Tryd.prog 46 C46 :=
  fits_of_tie (T := [(80, C80)]) (A := ann46) (fn := Go.Proofs.Tryd.f46) (c := body46) (fits_cons fits80 fits_nil) mixed Go.Proofs.Tryd.func46 Go.Proofs.Tryd.call46 (by kernel_rfl) (by kernel_rfl) (by kernel_rfl) tie46

/- F.vmem_Mem_at -/
noncomputable def C21 : Entry := fun args w K Kp => unArgs [.one (.ptr), .one (.int .u64)] args.toList fun x => F.vmem_Mem_at env x.1 x.2.1 (fun r1 r2 w' => K (.tuple ⟨[.int .u64 r1, .int .u64 r2]⟩) w') Kp w
noncomputable def body21 : Code := (Go.Proofs.Tryd.f21.body).getD .skip
def ann21 : Ann := { loops := [], joins := [] }
def T0.vmem_Mem_at (E : Env) (c_stretch_Set_Has : ∀ (a0 : (Option Addr)) (a1 : Int) (K : Bool → World → Prop) (w : World), Prop) (a0 : (Option Addr)) (a1 : Int) (K : Int → Int → World → Prop) (Kp : Value → World → Prop) (w : World) : Prop :=
  8192 ≠ (0 : Int) ∧
  8 ≠ (0 : Int) ∧
  CND (((Int.tmod a1 8) : Int) != 0) (
    Kp (.iface E.t_vmem_fault (.agg ⟨[.int .i64 11]⟩)) w
  ) (
    NC a0 fun p1 =>
    c_stretch_Set_Has (some (p1.add 5)) (u64 (Int.tdiv a1 8192)) (fun r2 w3 =>
    CND (!r2) (
      Kp (.iface E.t_vmem_fault (.agg ⟨[.int .i64 12]⟩)) w3
    ) (
      8192 ≠ (0 : Int) ∧
      8 ≠ (0 : Int) ∧
      LET (u64 (Int.tdiv (Int.tmod a1 8192) 8) : Int) fun t4 =>
      K (u64 (Int.tdiv a1 8192)) t4 w3
    )
    ) w
  )

theorem tieZ21 (c_stretch_Set_Has : ∀ (a0 : (Option Addr)) (a1 : Int) (K : Bool → World → Prop) (w : World), Prop) (x : ArgsV [.one (.ptr), .one (.int .u64)]) (K Kp : Value → World → Prop) (w : World) : T0.vmem_Mem_at env c_stretch_Set_Has x.1 x.2.1 (fun r1 r2 w' => K (.tuple ⟨[.int .u64 r1, .int .u64 r2]⟩) w') Kp w =
    ev Go.Proofs.Tryd.prog (tabC [(46, fun args w K Kp => unArgs [.one (.ptr), .one (.int .u64)] args.toList fun x => c_stretch_Set_Has x.1 x.2.1 (fun r1 w' => K (.bool r1) w') w)]) (ground Go.Proofs.Tryd.prog) ann21 body21 (finQ Go.Proofs.Tryd.prog Go.Proofs.Tryd.f21 K Kp) (initF (mkArgs [.one (.ptr), .one (.int .u64)] x)) w := by kernel_rfl
theorem tie21 (x : ArgsV [.one (.ptr), .one (.int .u64)]) (K Kp : Value → World → Prop) (w : World) : F.vmem_Mem_at env x.1 x.2.1 (fun r1 r2 w' => K (.tuple ⟨[.int .u64 r1, .int .u64 r2]⟩) w') Kp w =
    ev Go.Proofs.Tryd.prog (tabC [(46, C46)]) (ground Go.Proofs.Tryd.prog) ann21 body21 (finQ Go.Proofs.Tryd.prog Go.Proofs.Tryd.f21 K Kp) (initF (mkArgs [.one (.ptr), .one (.int .u64)] x)) w := tieZ21 (F.stretch_Set_Has env) x K Kp w
theorem fits21 : FitsOne Go.Proofs.Tryd.prog 21 C21 :=
  fits_of_tie (T := [(46, C46)]) (A := ann21) (fn := Go.Proofs.Tryd.f21) (c := body21) (fits_cons fits46 fits_nil) mixed Go.Proofs.Tryd.func21 Go.Proofs.Tryd.call21 (by kernel_rfl) (by kernel_rfl) (by kernel_rfl) tie21

/- F.vmem_Mem_stored -/
noncomputable def C22 : Entry := fun args w K Kp => unArgs [.one (.ptr), .one (.int .u64)] args.toList fun x => F.vmem_Mem_stored env x.1 x.2.1 (fun r1 w' => K (.pointer r1) w') w
noncomputable def body22 : Code := (Go.Proofs.Tryd.f22.body).getD .skip
def ann22 : Ann := { loops := [(5, [(16, .one (.int .i64))])], joins := [] }
theorem tie22 (x : ArgsV [.one (.ptr), .one (.int .u64)]) (K Kp : Value → World → Prop) (w : World) : F.vmem_Mem_stored env x.1 x.2.1 (fun r1 w' => K (.pointer r1) w') w =
    ev Go.Proofs.Tryd.prog (tabC []) (ground Go.Proofs.Tryd.prog) ann22 body22 (finQ Go.Proofs.Tryd.prog Go.Proofs.Tryd.f22 K Kp) (initF (mkArgs [.one (.ptr), .one (.int .u64)] x)) w := by kernel_rfl
theorem fits22 : FitsOne Go.Proofs.Tryd.prog 22 C22 :=
  fits_of_tie (T := []) (A := ann22) (fn := Go.Proofs.Tryd.f22) (c := body22) fits_nil mixed Go.Proofs.Tryd.func22 Go.Proofs.Tryd.call22 (by kernel_rfl) (by kernel_rfl) (by kernel_rfl) tie22

/- F.vmem_caught -/
noncomputable def D20 : EntryD := fun args pv w K => unArgs [.one (.ptr)] args.toList fun x => F.vmem_caught env x.1 (pv.getD .nilIface) (fun w' => K pv.isSome w') w
noncomputable def body20 : Code := (Go.Proofs.Tryd.f20.body).getD .skip
def ann20 : Ann := { loops := [], joins := [] }
noncomputable def rest20 : Code := ((recOf body20).map (·.2)).getD .skip
theorem tie20 (x : ArgsV [.one (.ptr)]) (v : Value) (K : World → Prop) (w : World) : F.vmem_caught env x.1 v K w =
    ev Go.Proofs.Tryd.prog (tabC []) (ground Go.Proofs.Tryd.prog) ann20 rest20 (finQ Go.Proofs.Tryd.prog Go.Proofs.Tryd.f20 (fun _ w' => K w') noP) ((initF (mkArgs [.one (.ptr)] x)).put 5 v) w := by kernel_rfl
theorem fitsD20 : FitsDOne Go.Proofs.Tryd.prog 20 D20 :=
  fitsD_rec (T := []) (A := ann20) (fn := Go.Proofs.Tryd.f20) (c := body20) (y := rest20) (d := 5) (l := [.one (.ptr)]) (F := fun (x : ArgsV [.one (.ptr)]) v K w => F.vmem_caught env x.1 v K w) fits_nil mixed Go.Proofs.Tryd.func20 Go.Proofs.Tryd.call20 (by kernel_rfl) (by kernel_rfl) (by kernel_rfl) (by kernel_rfl) (by kernel_rfl) tie20

/- F.vmem_Mem_Store -/
noncomputable def C9 : Entry := fun args w K Kp => unArgs [.one (.ptr), .one (.int .u64), .one (.int .u64)] args.toList fun x => F.vmem_Mem_Store env x.1 x.2.1 x.2.2.1 (fun r1 w' => K (.int .i64 r1) w') w
noncomputable def body9 : Code := (Go.Proofs.Tryd.f9.body).getD .skip
def ann9 : Ann := { loops := [], joins := [] }
def T0.vmem_Mem_Store (E : Env) (c_vmem_Mem_at : ∀ (a0 : (Option Addr)) (a1 : Int) (K : Int → Int → World → Prop) (Kp : Value → World → Prop) (w : World), Prop) (c_vmem_Mem_stored : ∀ (a0 : (Option Addr)) (a1 : Int) (K : (Option Addr) → World → Prop) (w : World), Prop) (a0 : (Option Addr)) (a1 : Int) (a2 : Int) (K : Int → World → Prop) (w : World) : Prop :=
  AL (.cells #[.int .i64 0] E.t_api_Errno) w fun b1 w2 =>
  c_vmem_Mem_at a0 a1 (fun r3 r4 w5 =>
  c_vmem_Mem_stored a0 r3 (fun r6 w7 =>
  NC r6 fun p8 =>
  ((0 : Int) ≤ r4 ∧ (r4 : Int) < (1024 : Nat)) ∧
  stCells (p8.add (Int.toNat r4 * 1)) 0 [.int .u64 a2] w7 fun w9 =>
  stCells (Addr.mk b1 0 none) 0 [.int .i64 0] w9 fun w10 =>
  F.vmem_caught E (some (Addr.mk b1 0 none)) .nilIface (fun w11 =>
    ∃ x12 : Int, w11.cell? (Addr.mk b1 0 none) = some (.int .i64 x12) ∧
    K x12 w11
  ) w10
  ) w5
  ) (fun v13 w14 =>
    F.vmem_caught E (some (Addr.mk b1 0 none)) v13 (fun w15 =>
      ∃ x16 : Int, w15.cell? (Addr.mk b1 0 none) = some (.int .i64 x16) ∧
      K x16 w15
    ) w14
  ) w2

theorem tieZ9 (c_vmem_Mem_at : ∀ (a0 : (Option Addr)) (a1 : Int) (K : Int → Int → World → Prop) (Kp : Value → World → Prop) (w : World), Prop) (c_vmem_Mem_stored : ∀ (a0 : (Option Addr)) (a1 : Int) (K : (Option Addr) → World → Prop) (w : World), Prop) (x : ArgsV [.one (.ptr), .one (.int .u64), .one (.int .u64)]) (K : Value → World → Prop) (w : World) : T0.vmem_Mem_Store env c_vmem_Mem_at c_vmem_Mem_stored x.1 x.2.1 x.2.2.1 (fun r1 w' => K (.int .i64 r1) w') w =
    evD Go.Proofs.Tryd.prog (tabC [(21, fun args w K Kp => unArgs [.one (.ptr), .one (.int .u64)] args.toList fun x => c_vmem_Mem_at x.1 x.2.1 (fun r1 r2 w' => K (.tuple ⟨[.int .u64 r1, .int .u64 r2]⟩) w') Kp w), (22, fun args w K Kp => unArgs [.one (.ptr), .one (.int .u64)] args.toList fun x => c_vmem_Mem_stored x.1 x.2.1 (fun r1 w' => K (.pointer r1) w') w)]) (ground Go.Proofs.Tryd.prog) ann9 (finQ Go.Proofs.Tryd.prog Go.Proofs.Tryd.f9 K noP) (finD Go.Proofs.Tryd.prog Go.Proofs.Tryd.f9 (tabD [(20, D20)]) K noP) body9 (initF (mkArgs [.one (.ptr), .one (.int .u64), .one (.int .u64)] x)) w := by kernel_rfl
theorem tie9 (x : ArgsV [.one (.ptr), .one (.int .u64), .one (.int .u64)]) (K : Value → World → Prop) (w : World) : F.vmem_Mem_Store env x.1 x.2.1 x.2.2.1 (fun r1 w' => K (.int .i64 r1) w') w =
    evD Go.Proofs.Tryd.prog (tabC [(21, C21), (22, C22)]) (ground Go.Proofs.Tryd.prog) ann9 (finQ Go.Proofs.Tryd.prog Go.Proofs.Tryd.f9 K noP) (finD Go.Proofs.Tryd.prog Go.Proofs.Tryd.f9 (tabD [(20, D20)]) K noP) body9 (initF (mkArgs [.one (.ptr), .one (.int .u64), .one (.int .u64)] x)) w := tieZ9 (F.vmem_Mem_at env) (F.vmem_Mem_stored env) x K w
theorem fits9 : FitsOne Go.Proofs.Tryd.prog 9 C9 :=
  fits_of_tieD (T := [(21, C21), (22, C22)]) (TD := [(20, D20)]) (A := ann9) (fn := Go.Proofs.Tryd.f9) (c := body9) (fits_cons fits21 (fits_cons fits22 fits_nil)) (fitsD_cons fitsD20 fitsD_nil) mixed Go.Proofs.Tryd.func9 Go.Proofs.Tryd.call9 (by kernel_rfl) (by kernel_rfl) (by kernel_rfl) tie9

/- F.radix_Tree_Scavenge -/
noncomputable def C23 : Entry := fun args w K Kp => unArgs [.one (.ptr), .one (.int .u64)] args.toList fun x => F.radix_Tree_Scavenge env x.1 x.2.1 (fun r1 r2 w' => K (.tuple ⟨[.int .u64 r1, .int .u64 r2]⟩) w') w
noncomputable def body23 : Code := (Go.Proofs.Tryd.f23.body).getD .skip
def ann23 : Ann := { loops := [], joins := [(3, [(20, .one (.bool))])] }
def T0.radix_Tree_Scavenge (E : Env) (c_stretch_Set_All : ∀ (a0 : (Option Addr)) (K : SlV → World → Prop) (w : World), Prop) (c_stretch_Set_Cut : ∀ (a0 : (Option Addr)) (a1 : Int) (a2 : Int) (K : World → Prop) (w : World), Prop) (c_stretch_Set_Add : ∀ (a0 : (Option Addr)) (a1 : Int) (a2 : Int) (K : World → Prop) (w : World), Prop) (a0 : (Option Addr)) (a1 : Int) (K : Int → Int → World → Prop) (w : World) : Prop :=
  NC a0 fun p1 =>
  c_stretch_Set_All (some (p1.add 6)) (fun r2 w3 =>
  JOIN (Bool × Unit) (fun J4 =>
    CND ((((r2.len : Nat) : Int) : Int) == 0) (
      J4 (true, ()) w3
    ) (
      J4 ((a1 : Int) == 0, ()) w3
    )
  ) fun s5 _ w6 =>
    CND (s5.1) (
      K 0 0 w6
    ) (
      NC r2.base fun p7 =>
      ((0 : Int) ≤ (i64 (((r2.len : Nat) : Int) - 1)) ∧ ((i64 (((r2.len : Nat) : Int) - 1)) : Int) < (r2.len : Nat)) ∧
      ∃ c8 : Int, w6.cell? ((p7.add (Int.toNat (i64 (((r2.len : Nat) : Int) - 1)) * 2)).add 0) = some (.int .u64 c8) ∧
      ∃ c9 : Int, w6.cell? ((p7.add (Int.toNat (i64 (((r2.len : Nat) : Int) - 1)) * 2)).add 1) = some (.int .u64 c9) ∧
      AL (.cells #[.int .u64 0, .int .u64 0] E.t_stretch_One) w6 fun b10 w11 =>
      stCells (Addr.mk b10 0 none) 0 [.int .u64 c8, .int .u64 c9] w11 fun w12 =>
      ∃ x13 : Int, w12.cell? (Addr.mk b10 0 none) = some (.int .u64 x13) ∧
      ∃ x14 : Int, w12.cell? ((Addr.mk b10 0 none).add 1) = some (.int .u64 x14) ∧
      512 ≠ (0 : Int) ∧
      LET (maxI x13 (u64 ((u64 (Int.tdiv (u64 (x14 - 1)) 512)) * 512)) : Int) fun from_15 =>
      ∃ x16 : Int, w12.cell? ((Addr.mk b10 0 none).add 1) = some (.int .u64 x16) ∧
      LET (minI (u64 (x16 - from_15)) a1 : Int) fun n_17 =>
      ∃ x18 : Int, w12.cell? ((Addr.mk b10 0 none).add 1) = some (.int .u64 x18) ∧
      NC a0 fun p19 =>
      c_stretch_Set_Cut (some (p19.add 6)) (u64 (x18 - n_17)) (u64 ((u64 (x18 - n_17)) + n_17)) (fun  w20 =>
      NC a0 fun p21 =>
      c_stretch_Set_Add (some (p21.add 4)) (u64 (x18 - n_17)) (u64 ((u64 (x18 - n_17)) + n_17)) (fun  w22 =>
      K (u64 (x18 - n_17)) n_17 w22
      ) w20
      ) w12
    )
  ) w

theorem tieZ23 (c_stretch_Set_All : ∀ (a0 : (Option Addr)) (K : SlV → World → Prop) (w : World), Prop) (c_stretch_Set_Cut : ∀ (a0 : (Option Addr)) (a1 : Int) (a2 : Int) (K : World → Prop) (w : World), Prop) (c_stretch_Set_Add : ∀ (a0 : (Option Addr)) (a1 : Int) (a2 : Int) (K : World → Prop) (w : World), Prop) (x : ArgsV [.one (.ptr), .one (.int .u64)]) (K Kp : Value → World → Prop) (w : World) : T0.radix_Tree_Scavenge env c_stretch_Set_All c_stretch_Set_Cut c_stretch_Set_Add x.1 x.2.1 (fun r1 r2 w' => K (.tuple ⟨[.int .u64 r1, .int .u64 r2]⟩) w') w =
    ev Go.Proofs.Tryd.prog (tabC [(47, fun args w K Kp => unArgs [.one (.ptr)] args.toList fun x => c_stretch_Set_All x.1 (fun r1 w' => K (.slice r1.base r1.len r1.cap) w') w), (48, fun args w K Kp => unArgs [.one (.ptr), .one (.int .u64), .one (.int .u64)] args.toList fun x => c_stretch_Set_Cut x.1 x.2.1 x.2.2.1 (fun  w' => K (.tuple ⟨[]⟩) w') w), (49, fun args w K Kp => unArgs [.one (.ptr), .one (.int .u64), .one (.int .u64)] args.toList fun x => c_stretch_Set_Add x.1 x.2.1 x.2.2.1 (fun  w' => K (.tuple ⟨[]⟩) w') w)]) (ground Go.Proofs.Tryd.prog) ann23 body23 (finQ Go.Proofs.Tryd.prog Go.Proofs.Tryd.f23 K Kp) (initF (mkArgs [.one (.ptr), .one (.int .u64)] x)) w := by kernel_rfl
theorem tie23 (x : ArgsV [.one (.ptr), .one (.int .u64)]) (K Kp : Value → World → Prop) (w : World) : F.radix_Tree_Scavenge env x.1 x.2.1 (fun r1 r2 w' => K (.tuple ⟨[.int .u64 r1, .int .u64 r2]⟩) w') w =
    ev Go.Proofs.Tryd.prog (tabC [(47, C47), (48, C48), (49, C49)]) (ground Go.Proofs.Tryd.prog) ann23 body23 (finQ Go.Proofs.Tryd.prog Go.Proofs.Tryd.f23 K Kp) (initF (mkArgs [.one (.ptr), .one (.int .u64)] x)) w := tieZ23 (F.stretch_Set_All env) (F.stretch_Set_Cut env) (F.stretch_Set_Add env) x K Kp w
theorem fits23 : FitsOne Go.Proofs.Tryd.prog 23 C23 :=
  fits_of_tie (T := [(47, C47), (48, C48), (49, C49)]) (A := ann23) (fn := Go.Proofs.Tryd.f23) (c := body23) (fits_cons fits47 (fits_cons fits48 (fits_cons fits49 fits_nil))) mixed Go.Proofs.Tryd.func23 Go.Proofs.Tryd.call23 (by kernel_rfl) (by kernel_rfl) (by kernel_rfl) tie23

/- F.vmem_forget_uint64_ -/
noncomputable def C52 : Entry := fun args w K Kp => unArgs [.one (.map), .one (.int .u64), .one (.int .u64)] args.toList fun x => F.vmem_forget_uint64_ env x.1 x.2.1 x.2.2.1 (fun  w' => K (.tuple ⟨[]⟩) w') w
noncomputable def body52 : Code := (Go.Proofs.Tryd.f52.body).getD .skip
def ann52 : Ann := { loops := [(2, []), (7, [(7, .one (.int .u64))])], joins := [(3, [(18, .one (.bool))]), (5, [(28, .one (.bool))])] }
theorem tie52 (x : ArgsV [.one (.map), .one (.int .u64), .one (.int .u64)]) (K Kp : Value → World → Prop) (w : World) : F.vmem_forget_uint64_ env x.1 x.2.1 x.2.2.1 (fun  w' => K (.tuple ⟨[]⟩) w') w =
    ev Go.Proofs.Tryd.prog (tabC []) (ground Go.Proofs.Tryd.prog) ann52 body52 (finQ Go.Proofs.Tryd.prog Go.Proofs.Tryd.f52 K Kp) (initF (mkArgs [.one (.map), .one (.int .u64), .one (.int .u64)] x)) w := by kernel_rfl
theorem fits52 : FitsOne Go.Proofs.Tryd.prog 52 C52 :=
  fits_of_tie (T := []) (A := ann52) (fn := Go.Proofs.Tryd.f52) (c := body52) fits_nil mixed Go.Proofs.Tryd.func52 Go.Proofs.Tryd.call52 (by kernel_rfl) (by kernel_rfl) (by kernel_rfl) tie52

/- F.vmem_forget___1024_uint64_ -/
noncomputable def C53 : Entry := fun args w K Kp => unArgs [.one (.map), .one (.int .u64), .one (.int .u64)] args.toList fun x => F.vmem_forget___1024_uint64_ env x.1 x.2.1 x.2.2.1 (fun  w' => K (.tuple ⟨[]⟩) w') w
noncomputable def body53 : Code := (Go.Proofs.Tryd.f53.body).getD .skip
def ann53 : Ann := { loops := [(2, []), (7, [(7, .one (.int .u64))])], joins := [(3, [(18, .one (.bool))]), (5, [(28, .one (.bool))])] }
theorem tie53 (x : ArgsV [.one (.map), .one (.int .u64), .one (.int .u64)]) (K Kp : Value → World → Prop) (w : World) : F.vmem_forget___1024_uint64_ env x.1 x.2.1 x.2.2.1 (fun  w' => K (.tuple ⟨[]⟩) w') w =
    ev Go.Proofs.Tryd.prog (tabC []) (ground Go.Proofs.Tryd.prog) ann53 body53 (finQ Go.Proofs.Tryd.prog Go.Proofs.Tryd.f53 K Kp) (initF (mkArgs [.one (.map), .one (.int .u64), .one (.int .u64)] x)) w := by kernel_rfl
theorem fits53 : FitsOne Go.Proofs.Tryd.prog 53 C53 :=
  fits_of_tie (T := []) (A := ann53) (fn := Go.Proofs.Tryd.f53) (c := body53) fits_nil mixed Go.Proofs.Tryd.func53 Go.Proofs.Tryd.call53 (by kernel_rfl) (by kernel_rfl) (by kernel_rfl) tie53

/- F.vmem_Mem_Release -/
noncomputable def C24 : Entry := fun args w K Kp => unArgs [.one (.ptr), .one (.int .u64), .one (.int .u64)] args.toList fun x => F.vmem_Mem_Release env x.1 x.2.1 x.2.2.1 (fun r1 w' => K (.int .i64 r1) w') w
noncomputable def body24 : Code := (Go.Proofs.Tryd.f24.body).getD .skip
def ann24 : Ann := { loops := [], joins := [] }
def T0.vmem_Mem_Release (E : Env) (c_vmem_right : ∀ (a0 : Int) (a1 : Int) (K : Bool → World → Prop) (w : World), Prop) (c_stretch_Set_Count : ∀ (a0 : (Option Addr)) (a1 : Int) (a2 : Int) (K : Int → World → Prop) (w : World), Prop) (c_stretch_Set_Cut : ∀ (a0 : (Option Addr)) (a1 : Int) (a2 : Int) (K : World → Prop) (w : World), Prop) (c_stretch_Set_Add : ∀ (a0 : (Option Addr)) (a1 : Int) (a2 : Int) (K : World → Prop) (w : World), Prop) (c_vmem_forget_uint64_ : ∀ (a0 : (Option Nat)) (a1 : Int) (a2 : Int) (K : World → Prop) (w : World), Prop) (c_vmem_forget___1024_uint64_ : ∀ (a0 : (Option Nat)) (a1 : Int) (a2 : Int) (K : World → Prop) (w : World), Prop) (a0 : (Option Addr)) (a1 : Int) (a2 : Int) (K : Int → World → Prop) (w : World) : Prop :=
  c_vmem_right a1 a2 (fun r1 w2 =>
  CND (!r1) (
    K 1 w2
  ) (
    NC a0 fun p3 =>
    c_stretch_Set_Count (some (p3.add 5)) a1 (u64 (a1 + a2)) (fun r4 w5 =>
    CND ((r4 : Int) != a2) (
      K 33 w5
    ) (
      NC a0 fun p6 =>
      c_stretch_Set_Cut (some (p6.add 5)) a1 (u64 (a1 + a2)) (fun  w7 =>
      NC a0 fun p8 =>
      c_stretch_Set_Add (some (p8.add 7)) a1 (u64 (a1 + a2)) (fun  w9 =>
      NC a0 fun p10 =>
      ∃ x11 : (Option Nat), w9.cell? (p10.add 9) = some (.map x11) ∧
      c_vmem_forget_uint64_ x11 a1 (u64 (a1 + a2)) (fun  w12 =>
      NC a0 fun p13 =>
      ∃ x14 : (Option Nat), w12.cell? (p13.add 10) = some (.map x14) ∧
      c_vmem_forget___1024_uint64_ x14 a1 (u64 (a1 + a2)) (fun  w15 =>
      K 0 w15
      ) w12
      ) w9
      ) w7
      ) w5
    )
    ) w2
  )
  ) w

theorem tieZ24 (c_vmem_right : ∀ (a0 : Int) (a1 : Int) (K : Bool → World → Prop) (w : World), Prop) (c_stretch_Set_Count : ∀ (a0 : (Option Addr)) (a1 : Int) (a2 : Int) (K : Int → World → Prop) (w : World), Prop) (c_stretch_Set_Cut : ∀ (a0 : (Option Addr)) (a1 : Int) (a2 : Int) (K : World → Prop) (w : World), Prop) (c_stretch_Set_Add : ∀ (a0 : (Option Addr)) (a1 : Int) (a2 : Int) (K : World → Prop) (w : World), Prop) (c_vmem_forget_uint64_ : ∀ (a0 : (Option Nat)) (a1 : Int) (a2 : Int) (K : World → Prop) (w : World), Prop) (c_vmem_forget___1024_uint64_ : ∀ (a0 : (Option Nat)) (a1 : Int) (a2 : Int) (K : World → Prop) (w : World), Prop) (x : ArgsV [.one (.ptr), .one (.int .u64), .one (.int .u64)]) (K Kp : Value → World → Prop) (w : World) : T0.vmem_Mem_Release env c_vmem_right c_stretch_Set_Count c_stretch_Set_Cut c_stretch_Set_Add c_vmem_forget_uint64_ c_vmem_forget___1024_uint64_ x.1 x.2.1 x.2.2.1 (fun r1 w' => K (.int .i64 r1) w') w =
    ev Go.Proofs.Tryd.prog (tabC [(50, fun args w K Kp => unArgs [.one (.int .u64), .one (.int .u64)] args.toList fun x => c_vmem_right x.1 x.2.1 (fun r1 w' => K (.bool r1) w') w), (51, fun args w K Kp => unArgs [.one (.ptr), .one (.int .u64), .one (.int .u64)] args.toList fun x => c_stretch_Set_Count x.1 x.2.1 x.2.2.1 (fun r1 w' => K (.int .u64 r1) w') w), (48, fun args w K Kp => unArgs [.one (.ptr), .one (.int .u64), .one (.int .u64)] args.toList fun x => c_stretch_Set_Cut x.1 x.2.1 x.2.2.1 (fun  w' => K (.tuple ⟨[]⟩) w') w), (49, fun args w K Kp => unArgs [.one (.ptr), .one (.int .u64), .one (.int .u64)] args.toList fun x => c_stretch_Set_Add x.1 x.2.1 x.2.2.1 (fun  w' => K (.tuple ⟨[]⟩) w') w), (52, fun args w K Kp => unArgs [.one (.map), .one (.int .u64), .one (.int .u64)] args.toList fun x => c_vmem_forget_uint64_ x.1 x.2.1 x.2.2.1 (fun  w' => K (.tuple ⟨[]⟩) w') w), (53, fun args w K Kp => unArgs [.one (.map), .one (.int .u64), .one (.int .u64)] args.toList fun x => c_vmem_forget___1024_uint64_ x.1 x.2.1 x.2.2.1 (fun  w' => K (.tuple ⟨[]⟩) w') w)]) (ground Go.Proofs.Tryd.prog) ann24 body24 (finQ Go.Proofs.Tryd.prog Go.Proofs.Tryd.f24 K Kp) (initF (mkArgs [.one (.ptr), .one (.int .u64), .one (.int .u64)] x)) w := by kernel_rfl
theorem tie24 (x : ArgsV [.one (.ptr), .one (.int .u64), .one (.int .u64)]) (K Kp : Value → World → Prop) (w : World) : F.vmem_Mem_Release env x.1 x.2.1 x.2.2.1 (fun r1 w' => K (.int .i64 r1) w') w =
    ev Go.Proofs.Tryd.prog (tabC [(50, C50), (51, C51), (48, C48), (49, C49), (52, C52), (53, C53)]) (ground Go.Proofs.Tryd.prog) ann24 body24 (finQ Go.Proofs.Tryd.prog Go.Proofs.Tryd.f24 K Kp) (initF (mkArgs [.one (.ptr), .one (.int .u64), .one (.int .u64)] x)) w := tieZ24 (F.vmem_right env) (F.stretch_Set_Count env) (F.stretch_Set_Cut env) (F.stretch_Set_Add env) (F.vmem_forget_uint64_ env) (F.vmem_forget___1024_uint64_ env) x K Kp w
theorem fits24 : FitsOne Go.Proofs.Tryd.prog 24 C24 :=
  fits_of_tie (T := [(50, C50), (51, C51), (48, C48), (49, C49), (52, C52), (53, C53)]) (A := ann24) (fn := Go.Proofs.Tryd.f24) (c := body24) (fits_cons fits50 (fits_cons fits51 (fits_cons fits48 (fits_cons fits49 (fits_cons fits52 (fits_cons fits53 fits_nil)))))) mixed Go.Proofs.Tryd.func24 Go.Proofs.Tryd.call24 (by kernel_rfl) (by kernel_rfl) (by kernel_rfl) tie24

/- F.mheap_Heap_Scavenge -/
noncomputable def C10 : Entry := fun args w K Kp => unArgs [.one (.ptr), .one (.int .u64)] args.toList fun x => F.mheap_Heap_Scavenge env x.1 x.2.1 (fun r1 w' => K (.int .u64 r1) w') w
noncomputable def body10 : Code := (Go.Proofs.Tryd.f10.body).getD .skip
def ann10 : Ann := { loops := [(2, [(5, .one (.int .u64))])], joins := [] }
def T0.mheap_Heap_Scavenge (E : Env) (c_radix_Tree_Scavenge : ∀ (a0 : (Option Addr)) (a1 : Int) (K : Int → Int → World → Prop) (w : World), Prop) (c_vmem_Mem_Release : ∀ (a0 : (Option Addr)) (a1 : Int) (a2 : Int) (K : Int → World → Prop) (w : World), Prop) (a0 : (Option Addr)) (a1 : Int) (K : Int → World → Prop) (w : World) : Prop :=
  LOOP (Int × Unit) (a1, ()) w fun s1 _ w2 next3 =>
    CND (decide ((s1.1 : Int) > 0)) (
      NC a0 fun p4 =>
      ∃ x5 : (Option Addr), w2.cell? (p4.add 1) = some (.pointer x5) ∧
      c_radix_Tree_Scavenge x5 s1.1 (fun r6 r7 w8 =>
      CND ((r7 : Int) == 0) (
        K (u64 (a1 - s1.1)) w8
      ) (
        NC a0 fun p9 =>
        ∃ x10 : (Option Addr), w8.cell? p9 = some (.pointer x10) ∧
        c_vmem_Mem_Release x10 r6 r7 (fun r11 w12 =>
        next3 (u64 (s1.1 - r7), ()) w12
        ) w8
      )
      ) w2
    ) (
      K (u64 (a1 - s1.1)) w2
    )

theorem tieZ10 (c_radix_Tree_Scavenge : ∀ (a0 : (Option Addr)) (a1 : Int) (K : Int → Int → World → Prop) (w : World), Prop) (c_vmem_Mem_Release : ∀ (a0 : (Option Addr)) (a1 : Int) (a2 : Int) (K : Int → World → Prop) (w : World), Prop) (x : ArgsV [.one (.ptr), .one (.int .u64)]) (K Kp : Value → World → Prop) (w : World) : T0.mheap_Heap_Scavenge env c_radix_Tree_Scavenge c_vmem_Mem_Release x.1 x.2.1 (fun r1 w' => K (.int .u64 r1) w') w =
    ev Go.Proofs.Tryd.prog (tabC [(23, fun args w K Kp => unArgs [.one (.ptr), .one (.int .u64)] args.toList fun x => c_radix_Tree_Scavenge x.1 x.2.1 (fun r1 r2 w' => K (.tuple ⟨[.int .u64 r1, .int .u64 r2]⟩) w') w), (24, fun args w K Kp => unArgs [.one (.ptr), .one (.int .u64), .one (.int .u64)] args.toList fun x => c_vmem_Mem_Release x.1 x.2.1 x.2.2.1 (fun r1 w' => K (.int .i64 r1) w') w)]) (ground Go.Proofs.Tryd.prog) ann10 body10 (finQ Go.Proofs.Tryd.prog Go.Proofs.Tryd.f10 K Kp) (initF (mkArgs [.one (.ptr), .one (.int .u64)] x)) w := by kernel_rfl
theorem tie10 (x : ArgsV [.one (.ptr), .one (.int .u64)]) (K Kp : Value → World → Prop) (w : World) : F.mheap_Heap_Scavenge env x.1 x.2.1 (fun r1 w' => K (.int .u64 r1) w') w =
    ev Go.Proofs.Tryd.prog (tabC [(23, C23), (24, C24)]) (ground Go.Proofs.Tryd.prog) ann10 body10 (finQ Go.Proofs.Tryd.prog Go.Proofs.Tryd.f10 K Kp) (initF (mkArgs [.one (.ptr), .one (.int .u64)] x)) w := tieZ10 (F.radix_Tree_Scavenge env) (F.vmem_Mem_Release env) x K Kp w
theorem fits10 : FitsOne Go.Proofs.Tryd.prog 10 C10 :=
  fits_of_tie (T := [(23, C23), (24, C24)]) (A := ann10) (fn := Go.Proofs.Tryd.f10) (c := body10) (fits_cons fits23 (fits_cons fits24 fits_nil)) mixed Go.Proofs.Tryd.func10 Go.Proofs.Tryd.call10 (by kernel_rfl) (by kernel_rfl) (by kernel_rfl) tie10

/- F.span_Span_Die -/
noncomputable def C25 : Entry := fun args w K Kp => unArgs [.one (.ptr)] args.toList fun x => F.span_Span_Die env x.1 (fun r1 w' => K (.int .i64 r1) w') w
noncomputable def body25 : Code := (Go.Proofs.Tryd.f25.body).getD .skip
def ann25 : Ann := { loops := [], joins := [(2, [(16, .one (.bool))])] }
theorem tie25 (x : ArgsV [.one (.ptr)]) (K Kp : Value → World → Prop) (w : World) : F.span_Span_Die env x.1 (fun r1 w' => K (.int .i64 r1) w') w =
    ev Go.Proofs.Tryd.prog (tabC []) (ground Go.Proofs.Tryd.prog) ann25 body25 (finQ Go.Proofs.Tryd.prog Go.Proofs.Tryd.f25 K Kp) (initF (mkArgs [.one (.ptr)] x)) w := by kernel_rfl
theorem fits25 : FitsOne Go.Proofs.Tryd.prog 25 C25 :=
  fits_of_tie (T := []) (A := ann25) (fn := Go.Proofs.Tryd.f25) (c := body25) fits_nil mixed Go.Proofs.Tryd.func25 Go.Proofs.Tryd.call25 (by kernel_rfl) (by kernel_rfl) (by kernel_rfl) tie25

/- F.fix_Fix_Live -/
noncomputable def C58 : Entry := fun args w K Kp => unArgs [.one (.ptr), .one (.int .i64)] args.toList fun x => F.fix_Fix_Live env x.1 x.2.1 (fun r1 w' => K (.bool r1) w') w
noncomputable def body58 : Code := (Go.Proofs.Tryd.f58.body).getD .skip
def ann58 : Ann := { loops := [], joins := [] }
theorem tie58 (x : ArgsV [.one (.ptr), .one (.int .i64)]) (K Kp : Value → World → Prop) (w : World) : F.fix_Fix_Live env x.1 x.2.1 (fun r1 w' => K (.bool r1) w') w =
    ev Go.Proofs.Tryd.prog (tabC []) (ground Go.Proofs.Tryd.prog) ann58 body58 (finQ Go.Proofs.Tryd.prog Go.Proofs.Tryd.f58 K Kp) (initF (mkArgs [.one (.ptr), .one (.int .i64)] x)) w := by kernel_rfl
theorem fits58 : FitsOne Go.Proofs.Tryd.prog 58 C58 :=
  fits_of_tie (T := []) (A := ann58) (fn := Go.Proofs.Tryd.f58) (c := body58) fits_nil mixed Go.Proofs.Tryd.func58 Go.Proofs.Tryd.call58 (by kernel_rfl) (by kernel_rfl) (by kernel_rfl) tie58

/- F.fix_Fix_Give -/
noncomputable def C28 : Entry := fun args w K Kp => unArgs [.one (.ptr), .one (.int .i64)] args.toList fun x => F.fix_Fix_Give env x.1 x.2.1 (fun r1 w' => K (.int .i64 r1) w') w
noncomputable def body28 : Code := (Go.Proofs.Tryd.f28.body).getD .skip
def ann28 : Ann := { loops := [], joins := [] }
def T0.fix_Fix_Give (E : Env) (c_fix_Fix_Live : ∀ (a0 : (Option Addr)) (a1 : Int) (K : Bool → World → Prop) (w : World), Prop) (a0 : (Option Addr)) (a1 : Int) (K : Int → World → Prop) (w : World) : Prop :=
  c_fix_Fix_Live a0 a1 (fun r1 w2 =>
  CND (!r1) (
    K 31 w2
  ) (
    NC a0 fun p3 =>
    ∃ x4 : SlV, w2.cell? (p3.add 1) = some (.slice x4.base x4.len x4.cap) ∧
    NC x4.base fun p5 =>
    ((0 : Int) ≤ (i64 (a1 - 1)) ∧ ((i64 (a1 - 1)) : Int) < (x4.len : Nat)) ∧
    ∃ x6 : (Option Addr), w2.cell? (p5.add (Int.toNat (i64 (a1 - 1)) * 1)) = some (.pointer x6) ∧
    NC a0 fun p7 =>
    ∃ x8 : (Option Addr), w2.cell? (p7.add 2) = some (.pointer x8) ∧
    NC x6 fun p9 =>
    stCells (p9.add 1) 0 [.bool false] w2 fun w10 =>
    NC x6 fun p11 =>
    stCells (p11.add 2) 0 [.pointer x8] w10 fun w12 =>
    NC a0 fun p13 =>
    stCells (p13.add 2) 0 [.pointer x6] w12 fun w14 =>
    NC a0 fun p15 =>
    ∃ x16 : Int, w14.cell? (p15.add 3) = some (.int .i64 x16) ∧
    NC a0 fun p17 =>
    stCells (p17.add 3) 0 [.int .i64 (i64 (x16 - 1))] w14 fun w18 =>
    K 0 w18
  )
  ) w

theorem tieZ28 (c_fix_Fix_Live : ∀ (a0 : (Option Addr)) (a1 : Int) (K : Bool → World → Prop) (w : World), Prop) (x : ArgsV [.one (.ptr), .one (.int .i64)]) (K Kp : Value → World → Prop) (w : World) : T0.fix_Fix_Give env c_fix_Fix_Live x.1 x.2.1 (fun r1 w' => K (.int .i64 r1) w') w =
    ev Go.Proofs.Tryd.prog (tabC [(58, fun args w K Kp => unArgs [.one (.ptr), .one (.int .i64)] args.toList fun x => c_fix_Fix_Live x.1 x.2.1 (fun r1 w' => K (.bool r1) w') w)]) (ground Go.Proofs.Tryd.prog) ann28 body28 (finQ Go.Proofs.Tryd.prog Go.Proofs.Tryd.f28 K Kp) (initF (mkArgs [.one (.ptr), .one (.int .i64)] x)) w := by kernel_rfl
theorem tie28 (x : ArgsV [.one (.ptr), .one (.int .i64)]) (K Kp : Value → World → Prop) (w : World) : F.fix_Fix_Give env x.1 x.2.1 (fun r1 w' => K (.int .i64 r1) w') w =
    ev Go.Proofs.Tryd.prog (tabC [(58, C58)]) (ground Go.Proofs.Tryd.prog) ann28 body28 (finQ Go.Proofs.Tryd.prog Go.Proofs.Tryd.f28 K Kp) (initF (mkArgs [.one (.ptr), .one (.int .i64)] x)) w := tieZ28 (F.fix_Fix_Live env) x K Kp w
theorem fits28 : FitsOne Go.Proofs.Tryd.prog 28 C28 :=
  fits_of_tie (T := [(58, C58)]) (A := ann28) (fn := Go.Proofs.Tryd.f28) (c := body28) (fits_cons fits58 fits_nil) mixed Go.Proofs.Tryd.func28 Go.Proofs.Tryd.call28 (by kernel_rfl) (by kernel_rfl) (by kernel_rfl) tie28

/- F.mheap_Heap_Free -/
noncomputable def C11 : Entry := fun args w K Kp => unArgs [.one (.ptr), .one (.int .i64)] args.toList fun x => F.mheap_Heap_Free env x.1 x.2.1 (fun r1 w' => K (.int .i64 r1) w') w
noncomputable def body11 : Code := (Go.Proofs.Tryd.f11.body).getD .skip
def ann11 : Ann := { loops := [], joins := [] }
def T0.mheap_Heap_Free (E : Env) (c_span_Span_Die : ∀ (a0 : (Option Addr)) (K : Int → World → Prop) (w : World), Prop) (c_span_Span_Info : ∀ (a0 : (Option Addr)) (K : Int → Int → Int → Int → Bool → Int → Int → Int → Bool → Bool → World → Prop) (w : World), Prop) (c_arena_Map_Set : ∀ (a0 : (Option Addr)) (a1 : Int) (a2 : Int) (a3 : Int) (K : Int → World → Prop) (w : World), Prop) (c_radix_Tree_Give : ∀ (a0 : (Option Addr)) (a1 : Int) (a2 : Int) (K : Int → World → Prop) (w : World), Prop) (c_fix_Fix_Give : ∀ (a0 : (Option Addr)) (a1 : Int) (K : Int → World → Prop) (w : World), Prop) (a0 : (Option Addr)) (a1 : Int) (K : Int → World → Prop) (w : World) : Prop :=
  NC a0 fun p1 =>
  ∃ x2 : (Option Nat), w.cell? (p1.add 4) = some (.map x2) ∧
  LKP .i64 a1 x2 w (.pointer none) fun v3 ok4 es5 =>
  ∃ x6 : (Option Addr), v3 = .pointer x6 ∧
  CND (!ok4) (
    K 35 w
  ) (
    c_span_Span_Die x6 (fun r7 w8 =>
    CND ((r7 : Int) != 0) (
      K r7 w8
    ) (
      c_span_Span_Info x6 (fun r9 r10 r11 r12 r13 r14 r15 r16 r17 r18 w19 =>
      AL (.cells #[.int .u64 0, .int .i64 0, .int .i64 0, .int .i64 0, .bool false, .int .i64 0, .int .i64 0, .int .i64 0, .bool false, .bool false] E.t_api_Info) w19 fun b20 w21 =>
      stCells (Addr.mk b20 0 none) 0 [.int .u64 r9, .int .i64 r10, .int .i64 r11, .int .i64 r12, .bool r13, .int .i64 r14, .int .i64 r15, .int .i64 r16, .bool r17, .bool r18] w21 fun w22 =>
      ∃ x23 : Int, w22.drew.cell? (Addr.mk b20 0 none) = some (.int .u64 x23) ∧
      8192 ≠ (0 : Int) ∧
      ∃ x24 : Int, w22.drew.cell? ((Addr.mk b20 0 none).add 1) = some (.int .i64 x24) ∧
      NC a0 fun p25 =>
      ∃ x26 : (Option Addr), w22.drew.cell? (p25.add 2) = some (.pointer x26) ∧
      c_arena_Map_Set x26 (u64 (Int.tdiv x23 8192)) (u64 (x24)) 0 (fun r27 w28 =>
      NC a0 fun p29 =>
      ∃ x30 : (Option Addr), w28.cell? (p29.add 1) = some (.pointer x30) ∧
      c_radix_Tree_Give x30 (u64 (Int.tdiv x23 8192)) (u64 (x24)) (fun r31 w32 =>
      NC a0 fun p33 =>
      ∃ x34 : (Option Addr), w32.cell? (p33.add 3) = some (.pointer x34) ∧
      c_fix_Fix_Give x34 a1 (fun r35 w36 =>
      NC a0 fun p37 =>
      ∃ x38 : Int, w36.cell? (p37.add 70) = some (.int .u64 x38) ∧
      NC a0 fun p39 =>
      stCells (p39.add 70) 0 [.int .u64 (u64 (x38 - (u64 (x24))))] w36 fun w40 =>
      NC a0 fun p41 =>
      ∃ x42 : (Option Nat), w40.cell? (p41.add 4) = some (.map x42) ∧
      MDEL .i64 a1 x42 w40 fun w43 =>
      K 0 w43
      ) w32
      ) w28
      ) w22.drew
      ) w8
    )
    ) w
  )

theorem tieZ11 (c_span_Span_Die : ∀ (a0 : (Option Addr)) (K : Int → World → Prop) (w : World), Prop) (c_span_Span_Info : ∀ (a0 : (Option Addr)) (K : Int → Int → Int → Int → Bool → Int → Int → Int → Bool → Bool → World → Prop) (w : World), Prop) (c_arena_Map_Set : ∀ (a0 : (Option Addr)) (a1 : Int) (a2 : Int) (a3 : Int) (K : Int → World → Prop) (w : World), Prop) (c_radix_Tree_Give : ∀ (a0 : (Option Addr)) (a1 : Int) (a2 : Int) (K : Int → World → Prop) (w : World), Prop) (c_fix_Fix_Give : ∀ (a0 : (Option Addr)) (a1 : Int) (K : Int → World → Prop) (w : World), Prop) (x : ArgsV [.one (.ptr), .one (.int .i64)]) (K Kp : Value → World → Prop) (w : World) : T0.mheap_Heap_Free env c_span_Span_Die c_span_Span_Info c_arena_Map_Set c_radix_Tree_Give c_fix_Fix_Give x.1 x.2.1 (fun r1 w' => K (.int .i64 r1) w') w =
    ev Go.Proofs.Tryd.prog (tabC [(25, fun args w K Kp => unArgs [.one (.ptr)] args.toList fun x => c_span_Span_Die x.1 (fun r1 w' => K (.int .i64 r1) w') w), (7, fun args w K Kp => unArgs [.one (.ptr)] args.toList fun x => c_span_Span_Info x.1 (fun r1 r2 r3 r4 r5 r6 r7 r8 r9 r10 w' => K (.agg ⟨[.int .u64 r1, .int .i64 r2, .int .i64 r3, .int .i64 r4, .bool r5, .int .i64 r6, .int .i64 r7, .int .i64 r8, .bool r9, .bool r10]⟩) w') w), (26, fun args w K Kp => unArgs [.one (.ptr), .one (.int .u64), .one (.int .u64), .one (.int .i64)] args.toList fun x => c_arena_Map_Set x.1 x.2.1 x.2.2.1 x.2.2.2.1 (fun r1 w' => K (.int .i64 r1) w') w), (27, fun args w K Kp => unArgs [.one (.ptr), .one (.int .u64), .one (.int .u64)] args.toList fun x => c_radix_Tree_Give x.1 x.2.1 x.2.2.1 (fun r1 w' => K (.int .i64 r1) w') w), (28, fun args w K Kp => unArgs [.one (.ptr), .one (.int .i64)] args.toList fun x => c_fix_Fix_Give x.1 x.2.1 (fun r1 w' => K (.int .i64 r1) w') w)]) (ground Go.Proofs.Tryd.prog) ann11 body11 (finQ Go.Proofs.Tryd.prog Go.Proofs.Tryd.f11 K Kp) (initF (mkArgs [.one (.ptr), .one (.int .i64)] x)) w := by kernel_rfl
theorem tie11 (x : ArgsV [.one (.ptr), .one (.int .i64)]) (K Kp : Value → World → Prop) (w : World) : F.mheap_Heap_Free env x.1 x.2.1 (fun r1 w' => K (.int .i64 r1) w') w =
    ev Go.Proofs.Tryd.prog (tabC [(25, C25), (7, C7), (26, C26), (27, C27), (28, C28)]) (ground Go.Proofs.Tryd.prog) ann11 body11 (finQ Go.Proofs.Tryd.prog Go.Proofs.Tryd.f11 K Kp) (initF (mkArgs [.one (.ptr), .one (.int .i64)] x)) w := tieZ11 (F.span_Span_Die env) (F.span_Span_Info env) (F.arena_Map_Set env) (F.radix_Tree_Give env) (F.fix_Fix_Give env) x K Kp w
theorem fits11 : FitsOne Go.Proofs.Tryd.prog 11 C11 :=
  fits_of_tie (T := [(25, C25), (7, C7), (26, C26), (27, C27), (28, C28)]) (A := ann11) (fn := Go.Proofs.Tryd.f11) (c := body11) (fits_cons fits25 (fits_cons fits7 (fits_cons fits26 (fits_cons fits27 (fits_cons fits28 fits_nil))))) mixed Go.Proofs.Tryd.func11 Go.Proofs.Tryd.call11 (by kernel_rfl) (by kernel_rfl) (by kernel_rfl) tie11

/- F.vmem_Mem_Load -/
noncomputable def C12 : Entry := fun args w K Kp => unArgs [.one (.ptr), .one (.int .u64)] args.toList fun x => F.vmem_Mem_Load env x.1 x.2.1 (fun r1 r2 w' => K (.tuple ⟨[.int .u64 r1, .int .i64 r2]⟩) w') w
noncomputable def body12 : Code := (Go.Proofs.Tryd.f12.body).getD .skip
def ann12 : Ann := { loops := [], joins := [] }
def T0.vmem_Mem_Load (E : Env) (c_vmem_Mem_at : ∀ (a0 : (Option Addr)) (a1 : Int) (K : Int → Int → World → Prop) (Kp : Value → World → Prop) (w : World), Prop) (a0 : (Option Addr)) (a1 : Int) (K : Int → Int → World → Prop) (w : World) : Prop :=
  AL (.cells #[.int .i64 0] E.t_api_Errno) w fun b1 w2 =>
  c_vmem_Mem_at a0 a1 (fun r3 r4 w5 =>
  NC a0 fun p6 =>
  ∃ x7 : (Option Nat), w5.cell? (p6.add 10) = some (.map x7) ∧
  LKP .u64 r3 x7 w5 (.pointer none) fun v8 ok9 es10 =>
  ∃ x11 : (Option Addr), v8 = .pointer x11 ∧
  CND (!x11.isNone) (
    NC x11 fun p12 =>
    ((0 : Int) ≤ r4 ∧ (r4 : Int) < (1024 : Nat)) ∧
    ∃ x13 : Int, w5.cell? (p12.add (Int.toNat r4 * 1)) = some (.int .u64 x13) ∧
    stCells (Addr.mk b1 0 none) 0 [.int .i64 0] w5 fun w14 =>
    F.vmem_caught E (some (Addr.mk b1 0 none)) .nilIface (fun w15 =>
      ∃ x16 : Int, w15.cell? (Addr.mk b1 0 none) = some (.int .i64 x16) ∧
      K x13 x16 w15
    ) w14
  ) (
    NC a0 fun p17 =>
    ∃ x18 : (Option Nat), w5.cell? (p17.add 9) = some (.map x18) ∧
    LKP .u64 r3 x18 w5 (.int .u64 0) fun v19 ok20 es21 =>
    ∃ x22 : Int, v19 = .int .u64 x22 ∧
    stCells (Addr.mk b1 0 none) 0 [.int .i64 0] w5 fun w23 =>
    F.vmem_caught E (some (Addr.mk b1 0 none)) .nilIface (fun w24 =>
      ∃ x25 : Int, w24.cell? (Addr.mk b1 0 none) = some (.int .i64 x25) ∧
      K x22 x25 w24
    ) w23
  )
  ) (fun v26 w27 =>
    F.vmem_caught E (some (Addr.mk b1 0 none)) v26 (fun w28 =>
      ∃ x29 : Int, w28.cell? (Addr.mk b1 0 none) = some (.int .i64 x29) ∧
      K 0 x29 w28
    ) w27
  ) w2

theorem tieZ12 (c_vmem_Mem_at : ∀ (a0 : (Option Addr)) (a1 : Int) (K : Int → Int → World → Prop) (Kp : Value → World → Prop) (w : World), Prop) (x : ArgsV [.one (.ptr), .one (.int .u64)]) (K : Value → World → Prop) (w : World) : T0.vmem_Mem_Load env c_vmem_Mem_at x.1 x.2.1 (fun r1 r2 w' => K (.tuple ⟨[.int .u64 r1, .int .i64 r2]⟩) w') w =
    evD Go.Proofs.Tryd.prog (tabC [(21, fun args w K Kp => unArgs [.one (.ptr), .one (.int .u64)] args.toList fun x => c_vmem_Mem_at x.1 x.2.1 (fun r1 r2 w' => K (.tuple ⟨[.int .u64 r1, .int .u64 r2]⟩) w') Kp w)]) (ground Go.Proofs.Tryd.prog) ann12 (finQ Go.Proofs.Tryd.prog Go.Proofs.Tryd.f12 K noP) (finD Go.Proofs.Tryd.prog Go.Proofs.Tryd.f12 (tabD [(20, D20)]) K noP) body12 (initF (mkArgs [.one (.ptr), .one (.int .u64)] x)) w := by kernel_rfl
theorem tie12 (x : ArgsV [.one (.ptr), .one (.int .u64)]) (K : Value → World → Prop) (w : World) : F.vmem_Mem_Load env x.1 x.2.1 (fun r1 r2 w' => K (.tuple ⟨[.int .u64 r1, .int .i64 r2]⟩) w') w =
    evD Go.Proofs.Tryd.prog (tabC [(21, C21)]) (ground Go.Proofs.Tryd.prog) ann12 (finQ Go.Proofs.Tryd.prog Go.Proofs.Tryd.f12 K noP) (finD Go.Proofs.Tryd.prog Go.Proofs.Tryd.f12 (tabD [(20, D20)]) K noP) body12 (initF (mkArgs [.one (.ptr), .one (.int .u64)] x)) w := tieZ12 (F.vmem_Mem_at env) x K w
theorem fits12 : FitsOne Go.Proofs.Tryd.prog 12 C12 :=
  fits_of_tieD (T := [(21, C21)]) (TD := [(20, D20)]) (A := ann12) (fn := Go.Proofs.Tryd.f12) (c := body12) (fits_cons fits21 fits_nil) (fitsD_cons fitsD20 fitsD_nil) mixed Go.Proofs.Tryd.func12 Go.Proofs.Tryd.call12 (by kernel_rfl) (by kernel_rfl) (by kernel_rfl) tie12

/- F.arena_Map_Has -/
noncomputable def C59 : Entry := fun args w K Kp => unArgs [.one (.ptr), .one (.int .u64)] args.toList fun x => F.arena_Map_Has env x.1 x.2.1 (fun r1 w' => K (.bool r1) w') w
noncomputable def body59 : Code := (Go.Proofs.Tryd.f59.body).getD .skip
def ann59 : Ann := { loops := [], joins := [] }
def T0.arena_Map_Has (E : Env) (c_stretch_Set_Has : ∀ (a0 : (Option Addr)) (a1 : Int) (K : Bool → World → Prop) (w : World), Prop) (a0 : (Option Addr)) (a1 : Int) (K : Bool → World → Prop) (w : World) : Prop :=
  NC a0 fun p1 =>
  4194304 ≠ (0 : Int) ∧
  c_stretch_Set_Has (some p1) (u64 (Int.tdiv a1 4194304)) (fun r2 w3 =>
  K r2 w3
  ) w

theorem tieZ59 (c_stretch_Set_Has : ∀ (a0 : (Option Addr)) (a1 : Int) (K : Bool → World → Prop) (w : World), Prop) (x : ArgsV [.one (.ptr), .one (.int .u64)]) (K Kp : Value → World → Prop) (w : World) : T0.arena_Map_Has env c_stretch_Set_Has x.1 x.2.1 (fun r1 w' => K (.bool r1) w') w =
    ev Go.Proofs.Tryd.prog (tabC [(46, fun args w K Kp => unArgs [.one (.ptr), .one (.int .u64)] args.toList fun x => c_stretch_Set_Has x.1 x.2.1 (fun r1 w' => K (.bool r1) w') w)]) (ground Go.Proofs.Tryd.prog) ann59 body59 (finQ Go.Proofs.Tryd.prog Go.Proofs.Tryd.f59 K Kp) (initF (mkArgs [.one (.ptr), .one (.int .u64)] x)) w := by kernel_rfl
theorem tie59 (x : ArgsV [.one (.ptr), .one (.int .u64)]) (K Kp : Value → World → Prop) (w : World) : F.arena_Map_Has env x.1 x.2.1 (fun r1 w' => K (.bool r1) w') w =
    ev Go.Proofs.Tryd.prog (tabC [(46, C46)]) (ground Go.Proofs.Tryd.prog) ann59 body59 (finQ Go.Proofs.Tryd.prog Go.Proofs.Tryd.f59 K Kp) (initF (mkArgs [.one (.ptr), .one (.int .u64)] x)) w := tieZ59 (F.stretch_Set_Has env) x K Kp w
theorem fits59 : FitsOne Go.Proofs.Tryd.prog 59 C59 :=
  fits_of_tie (T := [(46, C46)]) (A := ann59) (fn := Go.Proofs.Tryd.f59) (c := body59) (fits_cons fits46 fits_nil) mixed Go.Proofs.Tryd.func59 Go.Proofs.Tryd.call59 (by kernel_rfl) (by kernel_rfl) (by kernel_rfl) tie59

/- F.arena_Map_whole -/
noncomputable def C81 : Entry := fun args w K Kp => unArgs [.one (.ptr), .one (.int .u64)] args.toList fun x => F.arena_Map_whole env x.1 x.2.1 (fun r1 w' => K (.int .i64 r1) w') w
noncomputable def body81 : Code := (Go.Proofs.Tryd.f81.body).getD .skip
def ann81 : Ann := { loops := [(2, [(12, .one (.int .i64))])], joins := [(5, [(25, .one (.bool))])] }
theorem tie81 (x : ArgsV [.one (.ptr), .one (.int .u64)]) (K Kp : Value → World → Prop) (w : World) : F.arena_Map_whole env x.1 x.2.1 (fun r1 w' => K (.int .i64 r1) w') w =
    ev Go.Proofs.Tryd.prog (tabC []) (ground Go.Proofs.Tryd.prog) ann81 body81 (finQ Go.Proofs.Tryd.prog Go.Proofs.Tryd.f81 K Kp) (initF (mkArgs [.one (.ptr), .one (.int .u64)] x)) w := by kernel_rfl
theorem fits81 : FitsOne Go.Proofs.Tryd.prog 81 C81 :=
  fits_of_tie (T := []) (A := ann81) (fn := Go.Proofs.Tryd.f81) (c := body81) fits_nil mixed Go.Proofs.Tryd.func81 Go.Proofs.Tryd.call81 (by kernel_rfl) (by kernel_rfl) (by kernel_rfl) tie81

/- F.arena_Map_At -/
noncomputable def C63 : Entry := fun args w K Kp => unArgs [.one (.ptr), .one (.int .u64)] args.toList fun x => F.arena_Map_At env x.1 x.2.1 (fun r1 w' => K (.int .i64 r1) w') w
noncomputable def body63 : Code := (Go.Proofs.Tryd.f63.body).getD .skip
def ann63 : Ann := { loops := [], joins := [] }
def T0.arena_Map_At (E : Env) (c_arena_Map_whole : ∀ (a0 : (Option Addr)) (a1 : Int) (K : Int → World → Prop) (w : World), Prop) (a0 : (Option Addr)) (a1 : Int) (K : Int → World → Prop) (w : World) : Prop :=
  8192 ≠ (0 : Int) ∧
  NC a0 fun p1 =>
  ∃ x2 : (Option Nat), w.cell? (p1.add 3) = some (.map x2) ∧
  512 ≠ (0 : Int) ∧
  LKP .u64 (u64 (Int.tdiv (u64 (Int.tdiv a1 8192)) 512)) x2 w (.pointer none) fun v3 ok4 es5 =>
  ∃ x6 : (Option Addr), v3 = .pointer x6 ∧
  CND (!x6.isNone) (
    512 ≠ (0 : Int) ∧
    NC x6 fun p7 =>
    ((0 : Int) ≤ (Int.tmod (u64 (Int.tdiv a1 8192)) 512) ∧ ((Int.tmod (u64 (Int.tdiv a1 8192)) 512) : Int) < (512 : Nat)) ∧
    ∃ x8 : Int, w.cell? (p7.add (Int.toNat (Int.tmod (u64 (Int.tdiv a1 8192)) 512) * 1)) = some (.int .i64 x8) ∧
    K x8 w
  ) (
    512 ≠ (0 : Int) ∧
    c_arena_Map_whole a0 (u64 (Int.tdiv (u64 (Int.tdiv a1 8192)) 512)) (fun r9 w10 =>
    K r9 w10
    ) w
  )

theorem tieZ63 (c_arena_Map_whole : ∀ (a0 : (Option Addr)) (a1 : Int) (K : Int → World → Prop) (w : World), Prop) (x : ArgsV [.one (.ptr), .one (.int .u64)]) (K Kp : Value → World → Prop) (w : World) : T0.arena_Map_At env c_arena_Map_whole x.1 x.2.1 (fun r1 w' => K (.int .i64 r1) w') w =
    ev Go.Proofs.Tryd.prog (tabC [(81, fun args w K Kp => unArgs [.one (.ptr), .one (.int .u64)] args.toList fun x => c_arena_Map_whole x.1 x.2.1 (fun r1 w' => K (.int .i64 r1) w') w)]) (ground Go.Proofs.Tryd.prog) ann63 body63 (finQ Go.Proofs.Tryd.prog Go.Proofs.Tryd.f63 K Kp) (initF (mkArgs [.one (.ptr), .one (.int .u64)] x)) w := by kernel_rfl
theorem tie63 (x : ArgsV [.one (.ptr), .one (.int .u64)]) (K Kp : Value → World → Prop) (w : World) : F.arena_Map_At env x.1 x.2.1 (fun r1 w' => K (.int .i64 r1) w') w =
    ev Go.Proofs.Tryd.prog (tabC [(81, C81)]) (ground Go.Proofs.Tryd.prog) ann63 body63 (finQ Go.Proofs.Tryd.prog Go.Proofs.Tryd.f63 K Kp) (initF (mkArgs [.one (.ptr), .one (.int .u64)] x)) w := tieZ63 (F.arena_Map_whole env) x K Kp w
theorem fits63 : FitsOne Go.Proofs.Tryd.prog 63 C63 :=
  fits_of_tie (T := [(81, C81)]) (A := ann63) (fn := Go.Proofs.Tryd.f63) (c := body63) (fits_cons fits81 fits_nil) mixed Go.Proofs.Tryd.func63 Go.Proofs.Tryd.call63 (by kernel_rfl) (by kernel_rfl) (by kernel_rfl) tie63

/- F.mheap_Heap_Of -/
noncomputable def C31 : Entry := fun args w K Kp => unArgs [.one (.ptr), .one (.int .u64)] args.toList fun x => F.mheap_Heap_Of env x.1 x.2.1 (fun r1 w' => K (.int .i64 r1) w') w
noncomputable def body31 : Code := (Go.Proofs.Tryd.f31.body).getD .skip
def ann31 : Ann := { loops := [], joins := [] }
def T0.mheap_Heap_Of (E : Env) (c_arena_Map_At : ∀ (a0 : (Option Addr)) (a1 : Int) (K : Int → World → Prop) (w : World), Prop) (a0 : (Option Addr)) (a1 : Int) (K : Int → World → Prop) (w : World) : Prop :=
  NC a0 fun p1 =>
  ∃ x2 : (Option Addr), w.cell? (p1.add 2) = some (.pointer x2) ∧
  c_arena_Map_At x2 a1 (fun r3 w4 =>
  K r3 w4
  ) w

theorem tieZ31 (c_arena_Map_At : ∀ (a0 : (Option Addr)) (a1 : Int) (K : Int → World → Prop) (w : World), Prop) (x : ArgsV [.one (.ptr), .one (.int .u64)]) (K Kp : Value → World → Prop) (w : World) : T0.mheap_Heap_Of env c_arena_Map_At x.1 x.2.1 (fun r1 w' => K (.int .i64 r1) w') w =
    ev Go.Proofs.Tryd.prog (tabC [(63, fun args w K Kp => unArgs [.one (.ptr), .one (.int .u64)] args.toList fun x => c_arena_Map_At x.1 x.2.1 (fun r1 w' => K (.int .i64 r1) w') w)]) (ground Go.Proofs.Tryd.prog) ann31 body31 (finQ Go.Proofs.Tryd.prog Go.Proofs.Tryd.f31 K Kp) (initF (mkArgs [.one (.ptr), .one (.int .u64)] x)) w := by kernel_rfl
theorem tie31 (x : ArgsV [.one (.ptr), .one (.int .u64)]) (K Kp : Value → World → Prop) (w : World) : F.mheap_Heap_Of env x.1 x.2.1 (fun r1 w' => K (.int .i64 r1) w') w =
    ev Go.Proofs.Tryd.prog (tabC [(63, C63)]) (ground Go.Proofs.Tryd.prog) ann31 body31 (finQ Go.Proofs.Tryd.prog Go.Proofs.Tryd.f31 K Kp) (initF (mkArgs [.one (.ptr), .one (.int .u64)] x)) w := tieZ31 (F.arena_Map_At env) x K Kp w
theorem fits31 : FitsOne Go.Proofs.Tryd.prog 31 C31 :=
  fits_of_tie (T := [(63, C63)]) (A := ann31) (fn := Go.Proofs.Tryd.f31) (c := body31) (fits_cons fits63 fits_nil) mixed Go.Proofs.Tryd.func31 Go.Proofs.Tryd.call31 (by kernel_rfl) (by kernel_rfl) (by kernel_rfl) tie31

/- F.pcache_Cache_Tell -/
noncomputable def C60 : Entry := fun args w K Kp => unArgs [.one (.ptr)] args.toList fun x => F.pcache_Cache_Tell env x.1 (fun r1 r2 r3 w' => K (.tuple ⟨[.int .u64 r1, .int .u64 r2, .int .u64 r3]⟩) w') w
noncomputable def body60 : Code := (Go.Proofs.Tryd.f60.body).getD .skip
def ann60 : Ann := { loops := [], joins := [] }
def T0.pcache_Cache_Tell (E : Env) (c_pcache_Cache_Empty : ∀ (a0 : (Option Addr)) (K : Bool → World → Prop) (w : World), Prop) (a0 : (Option Addr)) (K : Int → Int → Int → World → Prop) (w : World) : Prop :=
  c_pcache_Cache_Empty a0 (fun r1 w2 =>
  CND (r1) (
    K 0 0 0 w2
  ) (
    NC a0 fun p3 =>
    ∃ x4 : Int, w2.drew.cell? p3 = some (.int .u64 x4) ∧
    NC a0 fun p5 =>
    ∃ x6 : Int, w2.drew.cell? (p5.add 1) = some (.int .u64 x6) ∧
    NC a0 fun p7 =>
    ∃ x8 : Int, w2.drew.cell? (p7.add 2) = some (.int .u64 x8) ∧
    K x4 x6 x8 w2.drew
  )
  ) w

theorem tieZ60 (c_pcache_Cache_Empty : ∀ (a0 : (Option Addr)) (K : Bool → World → Prop) (w : World), Prop) (x : ArgsV [.one (.ptr)]) (K Kp : Value → World → Prop) (w : World) : T0.pcache_Cache_Tell env c_pcache_Cache_Empty x.1 (fun r1 r2 r3 w' => K (.tuple ⟨[.int .u64 r1, .int .u64 r2, .int .u64 r3]⟩) w') w =
    ev Go.Proofs.Tryd.prog (tabC [(67, fun args w K Kp => unArgs [.one (.ptr)] args.toList fun x => c_pcache_Cache_Empty x.1 (fun r1 w' => K (.bool r1) w') w)]) (ground Go.Proofs.Tryd.prog) ann60 body60 (finQ Go.Proofs.Tryd.prog Go.Proofs.Tryd.f60 K Kp) (initF (mkArgs [.one (.ptr)] x)) w := by kernel_rfl
theorem tie60 (x : ArgsV [.one (.ptr)]) (K Kp : Value → World → Prop) (w : World) : F.pcache_Cache_Tell env x.1 (fun r1 r2 r3 w' => K (.tuple ⟨[.int .u64 r1, .int .u64 r2, .int .u64 r3]⟩) w') w =
    ev Go.Proofs.Tryd.prog (tabC [(67, C67)]) (ground Go.Proofs.Tryd.prog) ann60 body60 (finQ Go.Proofs.Tryd.prog Go.Proofs.Tryd.f60 K Kp) (initF (mkArgs [.one (.ptr)] x)) w := tieZ60 (F.pcache_Cache_Empty env) x K Kp w
theorem fits60 : FitsOne Go.Proofs.Tryd.prog 60 C60 :=
  fits_of_tie (T := [(67, C67)]) (A := ann60) (fn := Go.Proofs.Tryd.f60) (c := body60) (fits_cons fits67 fits_nil) mixed Go.Proofs.Tryd.func60 Go.Proofs.Tryd.call60 (by kernel_rfl) (by kernel_rfl) (by kernel_rfl) tie60

/- F.mheap_Heap_Owner -/
noncomputable def C29 : Entry := fun args w K Kp => unArgs [.one (.ptr), .one (.int .u64)] args.toList fun x => F.mheap_Heap_Owner env x.1 x.2.1 (fun r1 r2 w' => K (.tuple ⟨[.int .i64 r1, .int .i64 r2]⟩) w') w
noncomputable def body29 : Code := (Go.Proofs.Tryd.f29.body).getD .skip
def ann29 : Ann := { loops := [(7, [(35, .one (.int .i64))])], joins := [(2, [(23, .one (.bool))]), (11, [(62, .one (.bool))])] }
def T0.mheap_Heap_Owner (E : Env) (c_arena_Map_Has : ∀ (a0 : (Option Addr)) (a1 : Int) (K : Bool → World → Prop) (w : World), Prop) (c_mheap_Heap_Of : ∀ (a0 : (Option Addr)) (a1 : Int) (K : Int → World → Prop) (w : World), Prop) (c_pcache_Cache_Tell : ∀ (a0 : (Option Addr)) (K : Int → Int → Int → World → Prop) (w : World), Prop) (a0 : (Option Addr)) (a1 : Int) (K : Int → Int → World → Prop) (w : World) : Prop :=
  JOIN (Bool × Unit) (fun J1 =>
    CND (decide ((a1 : Int) ≥ 34359738368)) (
      J1 (true, ()) w
    ) (
      NC a0 fun p4 =>
      ∃ x5 : (Option Addr), w.cell? (p4.add 2) = some (.pointer x5) ∧
      c_arena_Map_Has x5 (u64 (a1 * 8192)) (fun r6 w7 =>
      J1 (!r6, ()) w7
      ) w
    )
  ) fun s2 _ w3 =>
    CND (s2.1) (
      K 0 0 w3
    ) (
      c_mheap_Heap_Of a0 (u64 (a1 * 8192)) (fun r8 w9 =>
      CND (decide ((r8 : Int) > 0)) (
        K 3 r8 w9
      ) (
        NC a0 fun p10 =>
        ∃ c11 : (Option Addr), w9.cell? ((p10.add 5).add 0) = some (.pointer c11) ∧
        ∃ c12 : (Option Addr), w9.cell? ((p10.add 5).add 1) = some (.pointer c12) ∧
        ∃ c13 : (Option Addr), w9.cell? ((p10.add 5).add 2) = some (.pointer c13) ∧
        ∃ c14 : (Option Addr), w9.cell? ((p10.add 5).add 3) = some (.pointer c14) ∧
        ∃ c15 : (Option Addr), w9.cell? ((p10.add 5).add 4) = some (.pointer c15) ∧
        ∃ c16 : (Option Addr), w9.cell? ((p10.add 5).add 5) = some (.pointer c16) ∧
        ∃ c17 : (Option Addr), w9.cell? ((p10.add 5).add 6) = some (.pointer c17) ∧
        ∃ c18 : (Option Addr), w9.cell? ((p10.add 5).add 7) = some (.pointer c18) ∧
        ∃ c19 : (Option Addr), w9.cell? ((p10.add 5).add 8) = some (.pointer c19) ∧
        ∃ c20 : (Option Addr), w9.cell? ((p10.add 5).add 9) = some (.pointer c20) ∧
        ∃ c21 : (Option Addr), w9.cell? ((p10.add 5).add 10) = some (.pointer c21) ∧
        ∃ c22 : (Option Addr), w9.cell? ((p10.add 5).add 11) = some (.pointer c22) ∧
        ∃ c23 : (Option Addr), w9.cell? ((p10.add 5).add 12) = some (.pointer c23) ∧
        ∃ c24 : (Option Addr), w9.cell? ((p10.add 5).add 13) = some (.pointer c24) ∧
        ∃ c25 : (Option Addr), w9.cell? ((p10.add 5).add 14) = some (.pointer c25) ∧
        ∃ c26 : (Option Addr), w9.cell? ((p10.add 5).add 15) = some (.pointer c26) ∧
        ∃ c27 : (Option Addr), w9.cell? ((p10.add 5).add 16) = some (.pointer c27) ∧
        ∃ c28 : (Option Addr), w9.cell? ((p10.add 5).add 17) = some (.pointer c28) ∧
        ∃ c29 : (Option Addr), w9.cell? ((p10.add 5).add 18) = some (.pointer c29) ∧
        ∃ c30 : (Option Addr), w9.cell? ((p10.add 5).add 19) = some (.pointer c30) ∧
        ∃ c31 : (Option Addr), w9.cell? ((p10.add 5).add 20) = some (.pointer c31) ∧
        ∃ c32 : (Option Addr), w9.cell? ((p10.add 5).add 21) = some (.pointer c32) ∧
        ∃ c33 : (Option Addr), w9.cell? ((p10.add 5).add 22) = some (.pointer c33) ∧
        ∃ c34 : (Option Addr), w9.cell? ((p10.add 5).add 23) = some (.pointer c34) ∧
        ∃ c35 : (Option Addr), w9.cell? ((p10.add 5).add 24) = some (.pointer c35) ∧
        ∃ c36 : (Option Addr), w9.cell? ((p10.add 5).add 25) = some (.pointer c36) ∧
        ∃ c37 : (Option Addr), w9.cell? ((p10.add 5).add 26) = some (.pointer c37) ∧
        ∃ c38 : (Option Addr), w9.cell? ((p10.add 5).add 27) = some (.pointer c38) ∧
        ∃ c39 : (Option Addr), w9.cell? ((p10.add 5).add 28) = some (.pointer c39) ∧
        ∃ c40 : (Option Addr), w9.cell? ((p10.add 5).add 29) = some (.pointer c40) ∧
        ∃ c41 : (Option Addr), w9.cell? ((p10.add 5).add 30) = some (.pointer c41) ∧
        ∃ c42 : (Option Addr), w9.cell? ((p10.add 5).add 31) = some (.pointer c42) ∧
        ∃ c43 : (Option Addr), w9.cell? ((p10.add 5).add 32) = some (.pointer c43) ∧
        ∃ c44 : (Option Addr), w9.cell? ((p10.add 5).add 33) = some (.pointer c44) ∧
        ∃ c45 : (Option Addr), w9.cell? ((p10.add 5).add 34) = some (.pointer c45) ∧
        ∃ c46 : (Option Addr), w9.cell? ((p10.add 5).add 35) = some (.pointer c46) ∧
        ∃ c47 : (Option Addr), w9.cell? ((p10.add 5).add 36) = some (.pointer c47) ∧
        ∃ c48 : (Option Addr), w9.cell? ((p10.add 5).add 37) = some (.pointer c48) ∧
        ∃ c49 : (Option Addr), w9.cell? ((p10.add 5).add 38) = some (.pointer c49) ∧
        ∃ c50 : (Option Addr), w9.cell? ((p10.add 5).add 39) = some (.pointer c50) ∧
        ∃ c51 : (Option Addr), w9.cell? ((p10.add 5).add 40) = some (.pointer c51) ∧
        ∃ c52 : (Option Addr), w9.cell? ((p10.add 5).add 41) = some (.pointer c52) ∧
        ∃ c53 : (Option Addr), w9.cell? ((p10.add 5).add 42) = some (.pointer c53) ∧
        ∃ c54 : (Option Addr), w9.cell? ((p10.add 5).add 43) = some (.pointer c54) ∧
        ∃ c55 : (Option Addr), w9.cell? ((p10.add 5).add 44) = some (.pointer c55) ∧
        ∃ c56 : (Option Addr), w9.cell? ((p10.add 5).add 45) = some (.pointer c56) ∧
        ∃ c57 : (Option Addr), w9.cell? ((p10.add 5).add 46) = some (.pointer c57) ∧
        ∃ c58 : (Option Addr), w9.cell? ((p10.add 5).add 47) = some (.pointer c58) ∧
        ∃ c59 : (Option Addr), w9.cell? ((p10.add 5).add 48) = some (.pointer c59) ∧
        ∃ c60 : (Option Addr), w9.cell? ((p10.add 5).add 49) = some (.pointer c60) ∧
        ∃ c61 : (Option Addr), w9.cell? ((p10.add 5).add 50) = some (.pointer c61) ∧
        ∃ c62 : (Option Addr), w9.cell? ((p10.add 5).add 51) = some (.pointer c62) ∧
        ∃ c63 : (Option Addr), w9.cell? ((p10.add 5).add 52) = some (.pointer c63) ∧
        ∃ c64 : (Option Addr), w9.cell? ((p10.add 5).add 53) = some (.pointer c64) ∧
        ∃ c65 : (Option Addr), w9.cell? ((p10.add 5).add 54) = some (.pointer c65) ∧
        ∃ c66 : (Option Addr), w9.cell? ((p10.add 5).add 55) = some (.pointer c66) ∧
        ∃ c67 : (Option Addr), w9.cell? ((p10.add 5).add 56) = some (.pointer c67) ∧
        ∃ c68 : (Option Addr), w9.cell? ((p10.add 5).add 57) = some (.pointer c68) ∧
        ∃ c69 : (Option Addr), w9.cell? ((p10.add 5).add 58) = some (.pointer c69) ∧
        ∃ c70 : (Option Addr), w9.cell? ((p10.add 5).add 59) = some (.pointer c70) ∧
        ∃ c71 : (Option Addr), w9.cell? ((p10.add 5).add 60) = some (.pointer c71) ∧
        ∃ c72 : (Option Addr), w9.cell? ((p10.add 5).add 61) = some (.pointer c72) ∧
        ∃ c73 : (Option Addr), w9.cell? ((p10.add 5).add 62) = some (.pointer c73) ∧
        ∃ c74 : (Option Addr), w9.cell? ((p10.add 5).add 63) = some (.pointer c74) ∧
        LOOP (Int × Unit) (0, ()) w9 fun s75 _ w76 next77 =>
          CND (decide ((s75.1 : Int) < 64)) (
            ((0 : Int) ≤ s75.1 ∧ (s75.1 : Int) < (64 : Nat)) ∧
            c_pcache_Cache_Tell (List.getD [c11, c12, c13, c14, c15, c16, c17, c18, c19, c20, c21, c22, c23, c24, c25, c26, c27, c28, c29, c30, c31, c32, c33, c34, c35, c36, c37, c38, c39, c40, c41, c42, c43, c44, c45, c46, c47, c48, c49, c50, c51, c52, c53, c54, c55, c56, c57, c58, c59, c60, c61, c62, c63, c64, c65, c66, c67, c68, c69, c70, c71, c72, c73, c74] (Int.toNat s75.1) none) (fun r78 r79 r80 w81 =>
            JOIN (Bool × Unit) (fun J82 =>
              CND (decide ((a1 : Int) ≥ r78)) (
                CND (decide (((u64 (a1 - r78)) : Int) < 64)) (
                  (0 : Int) ≤ (u64 (a1 - r78)) ∧
                  J82 (((bitK .u64 0 (Int.fdiv r79 (2 ^ (min (Int.toNat (u64 (a1 - r78))) (IntKind.bits .u64)))) 1) : Int) == 1, ()) w81
                ) (
                  J82 (false, ()) w81
                )
              ) (
                J82 (false, ()) w81
              )
            ) fun s83 _ w84 =>
              CND (s83.1) (
                K 2 s75.1 w84
              ) (
                next77 (i64 (s75.1 + 1), ()) w84
              )
            ) w76
          ) (
            K 1 0 w76
          )
      )
      ) w3
    )

theorem tieZ29 (c_arena_Map_Has : ∀ (a0 : (Option Addr)) (a1 : Int) (K : Bool → World → Prop) (w : World), Prop) (c_mheap_Heap_Of : ∀ (a0 : (Option Addr)) (a1 : Int) (K : Int → World → Prop) (w : World), Prop) (c_pcache_Cache_Tell : ∀ (a0 : (Option Addr)) (K : Int → Int → Int → World → Prop) (w : World), Prop) (x : ArgsV [.one (.ptr), .one (.int .u64)]) (K Kp : Value → World → Prop) (w : World) : T0.mheap_Heap_Owner env c_arena_Map_Has c_mheap_Heap_Of c_pcache_Cache_Tell x.1 x.2.1 (fun r1 r2 w' => K (.tuple ⟨[.int .i64 r1, .int .i64 r2]⟩) w') w =
    ev Go.Proofs.Tryd.prog (tabC [(59, fun args w K Kp => unArgs [.one (.ptr), .one (.int .u64)] args.toList fun x => c_arena_Map_Has x.1 x.2.1 (fun r1 w' => K (.bool r1) w') w), (31, fun args w K Kp => unArgs [.one (.ptr), .one (.int .u64)] args.toList fun x => c_mheap_Heap_Of x.1 x.2.1 (fun r1 w' => K (.int .i64 r1) w') w), (60, fun args w K Kp => unArgs [.one (.ptr)] args.toList fun x => c_pcache_Cache_Tell x.1 (fun r1 r2 r3 w' => K (.tuple ⟨[.int .u64 r1, .int .u64 r2, .int .u64 r3]⟩) w') w)]) (ground Go.Proofs.Tryd.prog) ann29 body29 (finQ Go.Proofs.Tryd.prog Go.Proofs.Tryd.f29 K Kp) (initF (mkArgs [.one (.ptr), .one (.int .u64)] x)) w := by kernel_rfl
theorem tie29 (x : ArgsV [.one (.ptr), .one (.int .u64)]) (K Kp : Value → World → Prop) (w : World) : F.mheap_Heap_Owner env x.1 x.2.1 (fun r1 r2 w' => K (.tuple ⟨[.int .i64 r1, .int .i64 r2]⟩) w') w =
    ev Go.Proofs.Tryd.prog (tabC [(59, C59), (31, C31), (60, C60)]) (ground Go.Proofs.Tryd.prog) ann29 body29 (finQ Go.Proofs.Tryd.prog Go.Proofs.Tryd.f29 K Kp) (initF (mkArgs [.one (.ptr), .one (.int .u64)] x)) w := tieZ29 (F.arena_Map_Has env) (F.mheap_Heap_Of env) (F.pcache_Cache_Tell env) x K Kp w
theorem fits29 : FitsOne Go.Proofs.Tryd.prog 29 C29 :=
  fits_of_tie (T := [(59, C59), (31, C31), (60, C60)]) (A := ann29) (fn := Go.Proofs.Tryd.f29) (c := body29) (fits_cons fits59 (fits_cons fits31 (fits_cons fits60 fits_nil))) mixed Go.Proofs.Tryd.func29 Go.Proofs.Tryd.call29 (by kernel_rfl) (by kernel_rfl) (by kernel_rfl) tie29

/- F.stretch_Set_Sum -/
noncomputable def C83 : Entry := fun args w K Kp => unArgs [.one (.ptr)] args.toList fun x => F.stretch_Set_Sum env x.1 (fun r1 w' => K (.int .u64 r1) w') w
noncomputable def body83 : Code := (Go.Proofs.Tryd.f83.body).getD .skip
def ann83 : Ann := { loops := [], joins := [] }
theorem tie83 (x : ArgsV [.one (.ptr)]) (K Kp : Value → World → Prop) (w : World) : F.stretch_Set_Sum env x.1 (fun r1 w' => K (.int .u64 r1) w') w =
    ev Go.Proofs.Tryd.prog (tabC []) (ground Go.Proofs.Tryd.prog) ann83 body83 (finQ Go.Proofs.Tryd.prog Go.Proofs.Tryd.f83 K Kp) (initF (mkArgs [.one (.ptr)] x)) w := by kernel_rfl
theorem fits83 : FitsOne Go.Proofs.Tryd.prog 83 C83 :=
  fits_of_tie (T := []) (A := ann83) (fn := Go.Proofs.Tryd.f83) (c := body83) fits_nil mixed Go.Proofs.Tryd.func83 Go.Proofs.Tryd.call83 (by kernel_rfl) (by kernel_rfl) (by kernel_rfl) tie83

/- F.radix_Tree_Released -/
noncomputable def C61 : Entry := fun args w K Kp => unArgs [.one (.ptr)] args.toList fun x => F.radix_Tree_Released env x.1 (fun r1 w' => K (.int .u64 r1) w') w
noncomputable def body61 : Code := (Go.Proofs.Tryd.f61.body).getD .skip
def ann61 : Ann := { loops := [], joins := [] }
def T0.radix_Tree_Released (E : Env) (c_stretch_Set_Sum : ∀ (a0 : (Option Addr)) (K : Int → World → Prop) (w : World), Prop) (a0 : (Option Addr)) (K : Int → World → Prop) (w : World) : Prop :=
  NC a0 fun p1 =>
  c_stretch_Set_Sum (some (p1.add 4)) (fun r2 w3 =>
  K r2 w3
  ) w

theorem tieZ61 (c_stretch_Set_Sum : ∀ (a0 : (Option Addr)) (K : Int → World → Prop) (w : World), Prop) (x : ArgsV [.one (.ptr)]) (K Kp : Value → World → Prop) (w : World) : T0.radix_Tree_Released env c_stretch_Set_Sum x.1 (fun r1 w' => K (.int .u64 r1) w') w =
    ev Go.Proofs.Tryd.prog (tabC [(83, fun args w K Kp => unArgs [.one (.ptr)] args.toList fun x => c_stretch_Set_Sum x.1 (fun r1 w' => K (.int .u64 r1) w') w)]) (ground Go.Proofs.Tryd.prog) ann61 body61 (finQ Go.Proofs.Tryd.prog Go.Proofs.Tryd.f61 K Kp) (initF (mkArgs [.one (.ptr)] x)) w := by kernel_rfl
theorem tie61 (x : ArgsV [.one (.ptr)]) (K Kp : Value → World → Prop) (w : World) : F.radix_Tree_Released env x.1 (fun r1 w' => K (.int .u64 r1) w') w =
    ev Go.Proofs.Tryd.prog (tabC [(83, C83)]) (ground Go.Proofs.Tryd.prog) ann61 body61 (finQ Go.Proofs.Tryd.prog Go.Proofs.Tryd.f61 K Kp) (initF (mkArgs [.one (.ptr)] x)) w := tieZ61 (F.stretch_Set_Sum env) x K Kp w
theorem fits61 : FitsOne Go.Proofs.Tryd.prog 61 C61 :=
  fits_of_tie (T := [(83, C83)]) (A := ann61) (fn := Go.Proofs.Tryd.f61) (c := body61) (fits_cons fits83 fits_nil) mixed Go.Proofs.Tryd.func61 Go.Proofs.Tryd.call61 (by kernel_rfl) (by kernel_rfl) (by kernel_rfl) tie61

/- F.arena_Map_Count -/
noncomputable def C62 : Entry := fun args w K Kp => unArgs [.one (.ptr)] args.toList fun x => F.arena_Map_Count env x.1 (fun r1 w' => K (.int .u64 r1) w') w
noncomputable def body62 : Code := (Go.Proofs.Tryd.f62.body).getD .skip
def ann62 : Ann := { loops := [], joins := [] }
def T0.arena_Map_Count (E : Env) (c_stretch_Set_Sum : ∀ (a0 : (Option Addr)) (K : Int → World → Prop) (w : World), Prop) (a0 : (Option Addr)) (K : Int → World → Prop) (w : World) : Prop :=
  NC a0 fun p1 =>
  c_stretch_Set_Sum (some p1) (fun r2 w3 =>
  K r2 w3
  ) w

theorem tieZ62 (c_stretch_Set_Sum : ∀ (a0 : (Option Addr)) (K : Int → World → Prop) (w : World), Prop) (x : ArgsV [.one (.ptr)]) (K Kp : Value → World → Prop) (w : World) : T0.arena_Map_Count env c_stretch_Set_Sum x.1 (fun r1 w' => K (.int .u64 r1) w') w =
    ev Go.Proofs.Tryd.prog (tabC [(83, fun args w K Kp => unArgs [.one (.ptr)] args.toList fun x => c_stretch_Set_Sum x.1 (fun r1 w' => K (.int .u64 r1) w') w)]) (ground Go.Proofs.Tryd.prog) ann62 body62 (finQ Go.Proofs.Tryd.prog Go.Proofs.Tryd.f62 K Kp) (initF (mkArgs [.one (.ptr)] x)) w := by kernel_rfl
theorem tie62 (x : ArgsV [.one (.ptr)]) (K Kp : Value → World → Prop) (w : World) : F.arena_Map_Count env x.1 (fun r1 w' => K (.int .u64 r1) w') w =
    ev Go.Proofs.Tryd.prog (tabC [(83, C83)]) (ground Go.Proofs.Tryd.prog) ann62 body62 (finQ Go.Proofs.Tryd.prog Go.Proofs.Tryd.f62 K Kp) (initF (mkArgs [.one (.ptr)] x)) w := tieZ62 (F.stretch_Set_Sum env) x K Kp w
theorem fits62 : FitsOne Go.Proofs.Tryd.prog 62 C62 :=
  fits_of_tie (T := [(83, C83)]) (A := ann62) (fn := Go.Proofs.Tryd.f62) (c := body62) (fits_cons fits83 fits_nil) mixed Go.Proofs.Tryd.func62 Go.Proofs.Tryd.call62 (by kernel_rfl) (by kernel_rfl) (by kernel_rfl) tie62

/- F.mheap_Heap_Pages -/
noncomputable def C30 : Entry := fun args w K Kp => unArgs [.one (.ptr)] args.toList fun x => F.mheap_Heap_Pages env x.1 (fun r1 r2 r3 w' => K (.tuple ⟨[.int .u64 r1, .int .u64 r2, .int .u64 r3]⟩) w') w
noncomputable def body30 : Code := (Go.Proofs.Tryd.f30.body).getD .skip
def ann30 : Ann := { loops := [(3, [(5, .one (.int .u64)), (20, .one (.int .i64))]), (6, [(5, .one (.int .u64)), (10, .one (.int .u64))])], joins := [] }
def T0.mheap_Heap_Pages (E : Env) (c_radix_Tree_Released : ∀ (a0 : (Option Addr)) (K : Int → World → Prop) (w : World), Prop) (c_pcache_Cache_Tell : ∀ (a0 : (Option Addr)) (K : Int → Int → Int → World → Prop) (w : World), Prop) (c_arena_Map_Count : ∀ (a0 : (Option Addr)) (K : Int → World → Prop) (w : World), Prop) (a0 : (Option Addr)) (K : Int → Int → Int → World → Prop) (w : World) : Prop :=
  NC a0 fun p1 =>
  ∃ x2 : (Option Addr), w.cell? (p1.add 1) = some (.pointer x2) ∧
  c_radix_Tree_Released x2 (fun r3 w4 =>
  NC a0 fun p5 =>
  ∃ c6 : (Option Addr), w4.cell? ((p5.add 5).add 0) = some (.pointer c6) ∧
  ∃ c7 : (Option Addr), w4.cell? ((p5.add 5).add 1) = some (.pointer c7) ∧
  ∃ c8 : (Option Addr), w4.cell? ((p5.add 5).add 2) = some (.pointer c8) ∧
  ∃ c9 : (Option Addr), w4.cell? ((p5.add 5).add 3) = some (.pointer c9) ∧
  ∃ c10 : (Option Addr), w4.cell? ((p5.add 5).add 4) = some (.pointer c10) ∧
  ∃ c11 : (Option Addr), w4.cell? ((p5.add 5).add 5) = some (.pointer c11) ∧
  ∃ c12 : (Option Addr), w4.cell? ((p5.add 5).add 6) = some (.pointer c12) ∧
  ∃ c13 : (Option Addr), w4.cell? ((p5.add 5).add 7) = some (.pointer c13) ∧
  ∃ c14 : (Option Addr), w4.cell? ((p5.add 5).add 8) = some (.pointer c14) ∧
  ∃ c15 : (Option Addr), w4.cell? ((p5.add 5).add 9) = some (.pointer c15) ∧
  ∃ c16 : (Option Addr), w4.cell? ((p5.add 5).add 10) = some (.pointer c16) ∧
  ∃ c17 : (Option Addr), w4.cell? ((p5.add 5).add 11) = some (.pointer c17) ∧
  ∃ c18 : (Option Addr), w4.cell? ((p5.add 5).add 12) = some (.pointer c18) ∧
  ∃ c19 : (Option Addr), w4.cell? ((p5.add 5).add 13) = some (.pointer c19) ∧
  ∃ c20 : (Option Addr), w4.cell? ((p5.add 5).add 14) = some (.pointer c20) ∧
  ∃ c21 : (Option Addr), w4.cell? ((p5.add 5).add 15) = some (.pointer c21) ∧
  ∃ c22 : (Option Addr), w4.cell? ((p5.add 5).add 16) = some (.pointer c22) ∧
  ∃ c23 : (Option Addr), w4.cell? ((p5.add 5).add 17) = some (.pointer c23) ∧
  ∃ c24 : (Option Addr), w4.cell? ((p5.add 5).add 18) = some (.pointer c24) ∧
  ∃ c25 : (Option Addr), w4.cell? ((p5.add 5).add 19) = some (.pointer c25) ∧
  ∃ c26 : (Option Addr), w4.cell? ((p5.add 5).add 20) = some (.pointer c26) ∧
  ∃ c27 : (Option Addr), w4.cell? ((p5.add 5).add 21) = some (.pointer c27) ∧
  ∃ c28 : (Option Addr), w4.cell? ((p5.add 5).add 22) = some (.pointer c28) ∧
  ∃ c29 : (Option Addr), w4.cell? ((p5.add 5).add 23) = some (.pointer c29) ∧
  ∃ c30 : (Option Addr), w4.cell? ((p5.add 5).add 24) = some (.pointer c30) ∧
  ∃ c31 : (Option Addr), w4.cell? ((p5.add 5).add 25) = some (.pointer c31) ∧
  ∃ c32 : (Option Addr), w4.cell? ((p5.add 5).add 26) = some (.pointer c32) ∧
  ∃ c33 : (Option Addr), w4.cell? ((p5.add 5).add 27) = some (.pointer c33) ∧
  ∃ c34 : (Option Addr), w4.cell? ((p5.add 5).add 28) = some (.pointer c34) ∧
  ∃ c35 : (Option Addr), w4.cell? ((p5.add 5).add 29) = some (.pointer c35) ∧
  ∃ c36 : (Option Addr), w4.cell? ((p5.add 5).add 30) = some (.pointer c36) ∧
  ∃ c37 : (Option Addr), w4.cell? ((p5.add 5).add 31) = some (.pointer c37) ∧
  ∃ c38 : (Option Addr), w4.cell? ((p5.add 5).add 32) = some (.pointer c38) ∧
  ∃ c39 : (Option Addr), w4.cell? ((p5.add 5).add 33) = some (.pointer c39) ∧
  ∃ c40 : (Option Addr), w4.cell? ((p5.add 5).add 34) = some (.pointer c40) ∧
  ∃ c41 : (Option Addr), w4.cell? ((p5.add 5).add 35) = some (.pointer c41) ∧
  ∃ c42 : (Option Addr), w4.cell? ((p5.add 5).add 36) = some (.pointer c42) ∧
  ∃ c43 : (Option Addr), w4.cell? ((p5.add 5).add 37) = some (.pointer c43) ∧
  ∃ c44 : (Option Addr), w4.cell? ((p5.add 5).add 38) = some (.pointer c44) ∧
  ∃ c45 : (Option Addr), w4.cell? ((p5.add 5).add 39) = some (.pointer c45) ∧
  ∃ c46 : (Option Addr), w4.cell? ((p5.add 5).add 40) = some (.pointer c46) ∧
  ∃ c47 : (Option Addr), w4.cell? ((p5.add 5).add 41) = some (.pointer c47) ∧
  ∃ c48 : (Option Addr), w4.cell? ((p5.add 5).add 42) = some (.pointer c48) ∧
  ∃ c49 : (Option Addr), w4.cell? ((p5.add 5).add 43) = some (.pointer c49) ∧
  ∃ c50 : (Option Addr), w4.cell? ((p5.add 5).add 44) = some (.pointer c50) ∧
  ∃ c51 : (Option Addr), w4.cell? ((p5.add 5).add 45) = some (.pointer c51) ∧
  ∃ c52 : (Option Addr), w4.cell? ((p5.add 5).add 46) = some (.pointer c52) ∧
  ∃ c53 : (Option Addr), w4.cell? ((p5.add 5).add 47) = some (.pointer c53) ∧
  ∃ c54 : (Option Addr), w4.cell? ((p5.add 5).add 48) = some (.pointer c54) ∧
  ∃ c55 : (Option Addr), w4.cell? ((p5.add 5).add 49) = some (.pointer c55) ∧
  ∃ c56 : (Option Addr), w4.cell? ((p5.add 5).add 50) = some (.pointer c56) ∧
  ∃ c57 : (Option Addr), w4.cell? ((p5.add 5).add 51) = some (.pointer c57) ∧
  ∃ c58 : (Option Addr), w4.cell? ((p5.add 5).add 52) = some (.pointer c58) ∧
  ∃ c59 : (Option Addr), w4.cell? ((p5.add 5).add 53) = some (.pointer c59) ∧
  ∃ c60 : (Option Addr), w4.cell? ((p5.add 5).add 54) = some (.pointer c60) ∧
  ∃ c61 : (Option Addr), w4.cell? ((p5.add 5).add 55) = some (.pointer c61) ∧
  ∃ c62 : (Option Addr), w4.cell? ((p5.add 5).add 56) = some (.pointer c62) ∧
  ∃ c63 : (Option Addr), w4.cell? ((p5.add 5).add 57) = some (.pointer c63) ∧
  ∃ c64 : (Option Addr), w4.cell? ((p5.add 5).add 58) = some (.pointer c64) ∧
  ∃ c65 : (Option Addr), w4.cell? ((p5.add 5).add 59) = some (.pointer c65) ∧
  ∃ c66 : (Option Addr), w4.cell? ((p5.add 5).add 60) = some (.pointer c66) ∧
  ∃ c67 : (Option Addr), w4.cell? ((p5.add 5).add 61) = some (.pointer c67) ∧
  ∃ c68 : (Option Addr), w4.cell? ((p5.add 5).add 62) = some (.pointer c68) ∧
  ∃ c69 : (Option Addr), w4.cell? ((p5.add 5).add 63) = some (.pointer c69) ∧
  LOOP (Int × Int × Unit) (r3, 0, ()) w4 fun s70 _ w71 next72 =>
    CND (decide ((s70.2.1 : Int) < 64)) (
      ((0 : Int) ≤ s70.2.1 ∧ (s70.2.1 : Int) < (64 : Nat)) ∧
      c_pcache_Cache_Tell (List.getD [c6, c7, c8, c9, c10, c11, c12, c13, c14, c15, c16, c17, c18, c19, c20, c21, c22, c23, c24, c25, c26, c27, c28, c29, c30, c31, c32, c33, c34, c35, c36, c37, c38, c39, c40, c41, c42, c43, c44, c45, c46, c47, c48, c49, c50, c51, c52, c53, c54, c55, c56, c57, c58, c59, c60, c61, c62, c63, c64, c65, c66, c67, c68, c69] (Int.toNat s70.2.1) none) (fun r73 r74 r75 w76 =>
      LOOP (Int × Int × Unit) (s70.1, r75, ()) w76 fun s77 _ w78 next79 =>
        CND ((s77.2.1 : Int) != 0) (
          LET (bitK .u64 0 s77.2.1 (u64 (s77.2.1 - 1)) : Int) fun r_80 =>
          next79 (u64 (s77.1 + 1), r_80, ()) w78
        ) (
          next72 (s77.1, i64 (s70.2.1 + 1), ()) w78
        )
      ) w71
    ) (
      NC a0 fun p81 =>
      ∃ x82 : (Option Addr), w71.drew.cell? (p81.add 2) = some (.pointer x82) ∧
      NC a0 fun p83 =>
      ∃ x84 : Int, w71.drew.cell? (p83.add 70) = some (.int .u64 x84) ∧
      c_arena_Map_Count x82 (fun r85 w86 =>
      w86.cell? (p83.add 70) = some (.int .u64 x84) ∧
      K (u64 (r85 * 512)) x84 s70.1 w86
      ) w71.drew
    )
  ) w

theorem tieZ30 (c_radix_Tree_Released : ∀ (a0 : (Option Addr)) (K : Int → World → Prop) (w : World), Prop) (c_pcache_Cache_Tell : ∀ (a0 : (Option Addr)) (K : Int → Int → Int → World → Prop) (w : World), Prop) (c_arena_Map_Count : ∀ (a0 : (Option Addr)) (K : Int → World → Prop) (w : World), Prop) (x : ArgsV [.one (.ptr)]) (K Kp : Value → World → Prop) (w : World) : T0.mheap_Heap_Pages env c_radix_Tree_Released c_pcache_Cache_Tell c_arena_Map_Count x.1 (fun r1 r2 r3 w' => K (.tuple ⟨[.int .u64 r1, .int .u64 r2, .int .u64 r3]⟩) w') w =
    ev Go.Proofs.Tryd.prog (tabC [(61, fun args w K Kp => unArgs [.one (.ptr)] args.toList fun x => c_radix_Tree_Released x.1 (fun r1 w' => K (.int .u64 r1) w') w), (60, fun args w K Kp => unArgs [.one (.ptr)] args.toList fun x => c_pcache_Cache_Tell x.1 (fun r1 r2 r3 w' => K (.tuple ⟨[.int .u64 r1, .int .u64 r2, .int .u64 r3]⟩) w') w), (62, fun args w K Kp => unArgs [.one (.ptr)] args.toList fun x => c_arena_Map_Count x.1 (fun r1 w' => K (.int .u64 r1) w') w)]) (ground Go.Proofs.Tryd.prog) ann30 body30 (finQ Go.Proofs.Tryd.prog Go.Proofs.Tryd.f30 K Kp) (initF (mkArgs [.one (.ptr)] x)) w := by kernel_rfl
theorem tie30 (x : ArgsV [.one (.ptr)]) (K Kp : Value → World → Prop) (w : World) : F.mheap_Heap_Pages env x.1 (fun r1 r2 r3 w' => K (.tuple ⟨[.int .u64 r1, .int .u64 r2, .int .u64 r3]⟩) w') w =
    ev Go.Proofs.Tryd.prog (tabC [(61, C61), (60, C60), (62, C62)]) (ground Go.Proofs.Tryd.prog) ann30 body30 (finQ Go.Proofs.Tryd.prog Go.Proofs.Tryd.f30 K Kp) (initF (mkArgs [.one (.ptr)] x)) w := tieZ30 (F.radix_Tree_Released env) (F.pcache_Cache_Tell env) (F.arena_Map_Count env) x K Kp w
theorem fits30 : FitsOne Go.Proofs.Tryd.prog 30 C30 :=
  fits_of_tie (T := [(61, C61), (60, C60), (62, C62)]) (A := ann30) (fn := Go.Proofs.Tryd.f30) (c := body30) (fits_cons fits61 (fits_cons fits60 (fits_cons fits62 fits_nil))) mixed Go.Proofs.Tryd.func30 Go.Proofs.Tryd.call30 (by kernel_rfl) (by kernel_rfl) (by kernel_rfl) tie30

/- F.mallowlaw16_awake -/
noncomputable def C13 : Entry := fun args w K Kp => unArgs [] args.toList fun x => F.mallowlaw16_awake env  (fun r1 w' => K (.bool r1) w') w
noncomputable def body13 : Code := (Go.Proofs.Tryd.f13.body).getD .skip
def ann13 : Ann := { loops := [], joins := [] }
def T0.mallowlaw16_awake (E : Env) (c_vmem_New : ∀ (a0_0 : SlV) (a0_1 : SlV) (a0_2 : SlV) (K : (Option Addr) → World → Prop) (w : World), Prop) (c_mheap_New : ∀ (a0 : (Option Addr)) (K : (Option Addr) → World → Prop) (w : World), Prop) (c_mheap_Heap_Alloc : ∀ (a0 : (Option Addr)) (a1 : Int) (a2 : Int) (a3 : Int) (a4 : Bool) (K : Int → Int → World → Prop) (w : World), Prop) (c_mheap_Heap_Owner : ∀ (a0 : (Option Addr)) (a1 : Int) (K : Int → Int → World → Prop) (w : World), Prop) (c_mheap_Heap_Pages : ∀ (a0 : (Option Addr)) (K : Int → Int → Int → World → Prop) (w : World), Prop) (c_mheap_Heap_Of : ∀ (a0 : (Option Addr)) (a1 : Int) (K : Int → World → Prop) (w : World), Prop) (K : Bool → World → Prop) (w : World) : Prop :=
  c_vmem_New ⟨none, 0, 0⟩ ⟨none, 0, 0⟩ ⟨none, 0, 0⟩ (fun r1 w2 =>
  CND (r1.isNone) (
    K false w2
  ) (
    c_mheap_New r1 (fun r3 w4 =>
    CND (r3.isNone) (
      K false w4
    ) (
      c_mheap_Heap_Alloc r3 0 1 5 false (fun r5 r6 w7 =>
      c_mheap_Heap_Alloc r3 0 1 5 false (fun r8 r9 w10 =>
      c_mheap_Heap_Alloc r3 0 16 0 false (fun r11 r12 w13 =>
      c_mheap_Heap_Owner r3 514 (fun r14 r15 w16 =>
      c_mheap_Heap_Pages r3 (fun r17 r18 r19 w20 =>
      CND ((r5 : Int) == 1) (
        CND ((r8 : Int) == 2) (
          CND ((r11 : Int) == 3) (
            CND ((r6 : Int) == 0) (
              CND ((r9 : Int) == 0) (
                CND ((r12 : Int) == 0) (
                  c_mheap_Heap_Of r3 4194304 (fun r21 w22 =>
                  CND ((r21 : Int) == 1) (
                    c_mheap_Heap_Of r3 4718592 (fun r23 w24 =>
                    CND ((r23 : Int) == 3) (
                      CND ((r14 : Int) == 2) (
                        CND ((r15 : Int) == 0) (
                          CND ((r17 : Int) == 512) (
                            K ((r18 : Int) == 18) w24
                          ) (
                            K false w24
                          )
                        ) (
                          K false w24
                        )
                      ) (
                        K false w24
                      )
                    ) (
                      K false w24
                    )
                    ) w22
                  ) (
                    K false w22
                  )
                  ) w20
                ) (
                  K false w20
                )
              ) (
                K false w20
              )
            ) (
              K false w20
            )
          ) (
            K false w20
          )
        ) (
          K false w20
        )
      ) (
        K false w20
      )
      ) w16
      ) w13
      ) w10
      ) w7
      ) w4
    )
    ) w2
  )
  ) w

theorem tieZ13 (c_vmem_New : ∀ (a0_0 : SlV) (a0_1 : SlV) (a0_2 : SlV) (K : (Option Addr) → World → Prop) (w : World), Prop) (c_mheap_New : ∀ (a0 : (Option Addr)) (K : (Option Addr) → World → Prop) (w : World), Prop) (c_mheap_Heap_Alloc : ∀ (a0 : (Option Addr)) (a1 : Int) (a2 : Int) (a3 : Int) (a4 : Bool) (K : Int → Int → World → Prop) (w : World), Prop) (c_mheap_Heap_Owner : ∀ (a0 : (Option Addr)) (a1 : Int) (K : Int → Int → World → Prop) (w : World), Prop) (c_mheap_Heap_Pages : ∀ (a0 : (Option Addr)) (K : Int → Int → Int → World → Prop) (w : World), Prop) (c_mheap_Heap_Of : ∀ (a0 : (Option Addr)) (a1 : Int) (K : Int → World → Prop) (w : World), Prop) (x : ArgsV []) (K Kp : Value → World → Prop) (w : World) : T0.mallowlaw16_awake env c_vmem_New c_mheap_New c_mheap_Heap_Alloc c_mheap_Heap_Owner c_mheap_Heap_Pages c_mheap_Heap_Of  (fun r1 w' => K (.bool r1) w') w =
    ev Go.Proofs.Tryd.prog (tabC [(14, fun args w K Kp => unArgs [.agg [.sl, .sl, .sl]] args.toList fun x => c_vmem_New x.1.1 x.1.2.1 x.1.2.2.1 (fun r1 w' => K (.pointer r1) w') w), (16, fun args w K Kp => unArgs [.one (.ptr)] args.toList fun x => c_mheap_New x.1 (fun r1 w' => K (.pointer r1) w') w), (5, fun args w K Kp => unArgs [.one (.ptr), .one (.int .i64), .one (.int .u64), .one (.int .i64), .one (.bool)] args.toList fun x => c_mheap_Heap_Alloc x.1 x.2.1 x.2.2.1 x.2.2.2.1 x.2.2.2.2.1 (fun r1 r2 w' => K (.tuple ⟨[.int .i64 r1, .int .i64 r2]⟩) w') w), (29, fun args w K Kp => unArgs [.one (.ptr), .one (.int .u64)] args.toList fun x => c_mheap_Heap_Owner x.1 x.2.1 (fun r1 r2 w' => K (.tuple ⟨[.int .i64 r1, .int .i64 r2]⟩) w') w), (30, fun args w K Kp => unArgs [.one (.ptr)] args.toList fun x => c_mheap_Heap_Pages x.1 (fun r1 r2 r3 w' => K (.tuple ⟨[.int .u64 r1, .int .u64 r2, .int .u64 r3]⟩) w') w), (31, fun args w K Kp => unArgs [.one (.ptr), .one (.int .u64)] args.toList fun x => c_mheap_Heap_Of x.1 x.2.1 (fun r1 w' => K (.int .i64 r1) w') w)]) (ground Go.Proofs.Tryd.prog) ann13 body13 (finQ Go.Proofs.Tryd.prog Go.Proofs.Tryd.f13 K Kp) (initF (mkArgs [] x)) w := by kernel_rfl
theorem tie13 (x : ArgsV []) (K Kp : Value → World → Prop) (w : World) : F.mallowlaw16_awake env  (fun r1 w' => K (.bool r1) w') w =
    ev Go.Proofs.Tryd.prog (tabC [(14, C14), (16, C16), (5, C5), (29, C29), (30, C30), (31, C31)]) (ground Go.Proofs.Tryd.prog) ann13 body13 (finQ Go.Proofs.Tryd.prog Go.Proofs.Tryd.f13 K Kp) (initF (mkArgs [] x)) w := tieZ13 (F.vmem_New env) (F.mheap_New env) (F.mheap_Heap_Alloc env) (F.mheap_Heap_Owner env) (F.mheap_Heap_Pages env) (F.mheap_Heap_Of env) x K Kp w
theorem fits13 : FitsOne Go.Proofs.Tryd.prog 13 C13 :=
  fits_of_tie (T := [(14, C14), (16, C16), (5, C5), (29, C29), (30, C30), (31, C31)]) (A := ann13) (fn := Go.Proofs.Tryd.f13) (c := body13) (fits_cons fits14 (fits_cons fits16 (fits_cons fits5 (fits_cons fits29 (fits_cons fits30 (fits_cons fits31 fits_nil)))))) mixed Go.Proofs.Tryd.func13 Go.Proofs.Tryd.call13 (by kernel_rfl) (by kernel_rfl) (by kernel_rfl) tie13

/- F.mallowlaw16_HeapReleases -/
noncomputable def C3 : Entry := fun args w K Kp => unArgs [.one (.int .u64), .one (.int .u64), .one (.int .u64), .one (.int .u64)] args.toList fun x => F.mallowlaw16_HeapReleases env x.1 x.2.1 x.2.2.1 x.2.2.2.1 (fun r1 w' => K (.bool r1) w') w
noncomputable def body3 : Code := (Go.Proofs.Tryd.f3.body).getD .skip
def ann3 : Ann := { loops := [(5, [(10, .one (.int .i64))])], joins := [(2, [(51, .one (.bool))]), (16, [(103, .one (.bool))]), (19, [(126, .one (.bool))]), (26, [(23, .one (.int .u64))]), (31, [(166, .one (.bool))]), (36, [(205, .one (.bool))]), (38, [(231, .one (.bool))])] }
def T0.mallowlaw16_HeapReleases (E : Env) (c_mallowlaw16_fresh : ∀ (a0_0 : SlV) (a0_1 : SlV) (a0_2 : SlV) (K : (Option Addr) → World → Prop) (w : World), Prop) (c_mheap_Heap_Alloc : ∀ (a0 : (Option Addr)) (a1 : Int) (a2 : Int) (a3 : Int) (a4 : Bool) (K : Int → Int → World → Prop) (w : World), Prop) (c_mheap_Heap_Span : ∀ (a0 : (Option Addr)) (a1 : Int) (K : (Option Addr) → Int → World → Prop) (w : World), Prop) (c_span_Span_Info : ∀ (a0 : (Option Addr)) (K : Int → Int → Int → Int → Bool → Int → Int → Int → Bool → Bool → World → Prop) (w : World), Prop) (c_mheap_Heap_Mem : ∀ (a0 : (Option Addr)) (K : (Option Addr) → World → Prop) (w : World), Prop) (c_vmem_Mem_Store : ∀ (a0 : (Option Addr)) (a1 : Int) (a2 : Int) (K : Int → World → Prop) (w : World), Prop) (c_mheap_Heap_Scavenge : ∀ (a0 : (Option Addr)) (a1 : Int) (K : Int → World → Prop) (w : World), Prop) (c_mheap_Heap_Free : ∀ (a0 : (Option Addr)) (a1 : Int) (K : Int → World → Prop) (w : World), Prop) (c_vmem_Mem_Load : ∀ (a0 : (Option Addr)) (a1 : Int) (K : Int → Int → World → Prop) (w : World), Prop) (c_mallowlaw16_awake : ∀ (K : Bool → World → Prop) (w : World), Prop) (a0 : Int) (a1 : Int) (a2 : Int) (a3 : Int) (K : Bool → World → Prop) (w : World) : Prop :=
  JOIN (Bool × Unit) (fun J1 =>
    CND (decide ((a0 : Int) < 1)) (
      J1 (true, ()) w
    ) (
      CND (decide ((a0 : Int) > 400)) (
        J1 (true, ()) w
      ) (
        CND (decide ((a1 : Int) < 1)) (
          J1 (true, ()) w
        ) (
          CND (decide ((a1 : Int) > 100)) (
            J1 (true, ()) w
          ) (
            J1 (decide ((a2 : Int) > 600), ()) w
          )
        )
      )
    )
  ) fun s2 _ w3 =>
    CND (s2.1) (
      K true w3
    ) (
      AL (.cells #[.slice none 0 0, .slice none 0 0, .slice none 0 0] E.t_api_Answers) w3 fun b4 w5 =>
      LOOP (Int × Unit) (0, ()) w5 fun s6 _ w7 next8 =>
        CND (decide ((s6.1 : Int) < 600)) (
          ∃ x9 : SlV, w7.cell? ((Addr.mk b4 0 none).add 2) = some (.slice x9.base x9.len x9.cap) ∧
          AL (.cells ⟨[.int .u64 a3]⟩ E.t_uint64) w7 fun b10 w11 =>
          APP E.t_uint64 1 8 #[.int .u64 0] x9 ⟨(some (Addr.mk b10 0 none)), 1, 1⟩ w11 fun s12 w13 =>
          stCells ((Addr.mk b4 0 none).add 2) 0 [.slice s12.base s12.len s12.cap] w13 fun w14 =>
          next8 (i64 (s6.1 + 1), ()) w14
        ) (
          ∃ c15 : SlV, w7.cell? ((Addr.mk b4 0 none).add 0) = some (.slice c15.base c15.len c15.cap) ∧
          ∃ c16 : SlV, w7.cell? ((Addr.mk b4 0 none).add 1) = some (.slice c16.base c16.len c16.cap) ∧
          ∃ c17 : SlV, w7.cell? ((Addr.mk b4 0 none).add 2) = some (.slice c17.base c17.len c17.cap) ∧
          c_mallowlaw16_fresh c15 c16 c17 (fun r18 w19 =>
          CND (r18.isNone) (
            K false w19
          ) (
            c_mheap_Heap_Alloc r18 (-1) a0 0 false (fun r20 r21 w22 =>
            c_mheap_Heap_Alloc r18 (-1) a1 0 false (fun r23 r24 w25 =>
            c_mheap_Heap_Span r18 r20 (fun r26 r27 w28 =>
            c_mheap_Heap_Span r18 r23 (fun r29 r30 w31 =>
            JOIN (Bool × Unit) (fun J32 =>
              CND ((r21 : Int) != 0) (
                J32 (true, ()) w31
              ) (
                CND ((r24 : Int) != 0) (
                  J32 (true, ()) w31
                ) (
                  CND (r26.isNone) (
                    J32 (true, ()) w31
                  ) (
                    J32 (r29.isNone, ()) w31
                  )
                )
              )
            ) fun s33 _ w34 =>
              CND (s33.1) (
                K false w34
              ) (
                c_span_Span_Info r26 (fun r35 r36 r37 r38 r39 r40 r41 r42 r43 r44 w45 =>
                c_span_Span_Info r29 (fun r46 r47 r48 r49 r50 r51 r52 r53 r54 r55 w56 =>
                JOIN (Bool × Unit) (fun J57 =>
                  c_mheap_Heap_Mem r18 (fun r60 w61 =>
                  c_vmem_Mem_Store r60 r35 11 (fun r62 w63 =>
                  CND ((r62 : Int) != 0) (
                    J57 (true, ()) w63
                  ) (
                    c_mheap_Heap_Mem r18 (fun r64 w65 =>
                    c_vmem_Mem_Store r64 r46 12 (fun r66 w67 =>
                    CND ((r66 : Int) != 0) (
                      J57 (true, ()) w67
                    ) (
                      c_mheap_Heap_Scavenge r18 1 (fun r68 w69 =>
                      J57 ((r68 : Int) != 0, ()) w69
                      ) w67
                    )
                    ) w65
                    ) w63
                  )
                  ) w61
                  ) w56
                ) fun s58 _ w59 =>
                  CND (s58.1) (
                    K false w59
                  ) (
                    c_mheap_Heap_Free r18 r20 (fun r70 w71 =>
                    CND ((r70 : Int) != 0) (
                      K false w71
                    ) (
                      c_mheap_Heap_Scavenge r18 a2 (fun r72 w73 =>
                      JOIN (Int × Unit) (fun J74 =>
                        CND (decide ((a2 : Int) > a0)) (
                          J74 (a0, ()) w73
                        ) (
                          J74 (a2, ()) w73
                        )
                      ) fun s75 _ w76 =>
                        CND ((r72 : Int) != s75.1) (
                          K false w76
                        ) (
                          c_mheap_Heap_Alloc r18 (-1) a0 0 false (fun r77 r78 w79 =>
                          c_mheap_Heap_Span r18 r77 (fun r80 r81 w82 =>
                          JOIN (Bool × Unit) (fun J83 =>
                            CND ((r78 : Int) != 0) (
                              J83 (true, ()) w82
                            ) (
                              CND (r80.isNone) (
                                J83 (true, ()) w82
                              ) (
                                c_span_Span_Info r80 (fun r86 r87 r88 r89 r90 r91 r92 r93 r94 r95 w96 =>
                                J83 ((r86 : Int) != r35, ()) w96
                                ) w82
                              )
                            )
                          ) fun s84 _ w85 =>
                            CND (s84.1) (
                              K false w85
                            ) (
                              c_mheap_Heap_Mem r18 (fun r97 w98 =>
                              c_vmem_Mem_Load r97 r35 (fun r99 r100 w101 =>
                              c_mheap_Heap_Mem r18 (fun r102 w103 =>
                              c_vmem_Mem_Load r102 r46 (fun r104 r105 w106 =>
                              c_mheap_Heap_Mem r18 (fun r107 w108 =>
                              c_vmem_Mem_Load r107 (u64 ((u64 (r35 + (u64 (a0 * 8192)))) - 8)) (fun r109 r110 w111 =>
                              JOIN (Bool × Unit) (fun J112 =>
                                CND ((r100 : Int) != 0) (
                                  J112 (true, ()) w111
                                ) (
                                  CND ((r105 : Int) != 0) (
                                    J112 (true, ()) w111
                                  ) (
                                    CND ((r110 : Int) != 0) (
                                      J112 (true, ()) w111
                                    ) (
                                      J112 ((r104 : Int) != 12, ()) w111
                                    )
                                  )
                                )
                              ) fun s113 _ w114 =>
                                CND (s113.1) (
                                  K false w114
                                ) (
                                  JOIN (Bool × Unit) (fun J115 =>
                                    CND ((r72 : Int) == a0) (
                                      CND ((r99 : Int) != a3) (
                                        J115 (true, ()) w114
                                      ) (
                                        CND (decide ((r72 : Int) < a0)) (
                                          CND ((r99 : Int) != 11) (
                                            J115 (true, ()) w114
                                          ) (
                                            CND (decide ((r72 : Int) > 0)) (
                                              J115 ((r109 : Int) != a3, ()) w114
                                            ) (
                                              J115 (false, ()) w114
                                            )
                                          )
                                        ) (
                                          CND (decide ((r72 : Int) > 0)) (
                                            J115 ((r109 : Int) != a3, ()) w114
                                          ) (
                                            J115 (false, ()) w114
                                          )
                                        )
                                      )
                                    ) (
                                      CND (decide ((r72 : Int) < a0)) (
                                        CND ((r99 : Int) != 11) (
                                          J115 (true, ()) w114
                                        ) (
                                          CND (decide ((r72 : Int) > 0)) (
                                            J115 ((r109 : Int) != a3, ()) w114
                                          ) (
                                            J115 (false, ()) w114
                                          )
                                        )
                                      ) (
                                        CND (decide ((r72 : Int) > 0)) (
                                          J115 ((r109 : Int) != a3, ()) w114
                                        ) (
                                          J115 (false, ()) w114
                                        )
                                      )
                                    )
                                  ) fun s116 _ w117 =>
                                    CND (s116.1) (
                                      K false w117
                                    ) (
                                      c_mallowlaw16_awake  (fun r118 w119 =>
                                      K r118 w119
                                      ) w117
                                    )
                                )
                              ) w108
                              ) w106
                              ) w103
                              ) w101
                              ) w98
                              ) w85
                            )
                          ) w79
                          ) w76
                        )
                      ) w71
                    )
                    ) w59
                  )
                ) w45
                ) w34
              )
            ) w28
            ) w25
            ) w22
            ) w19
          )
          ) w7
        )
    )

theorem tieZ3 (c_mallowlaw16_fresh : ∀ (a0_0 : SlV) (a0_1 : SlV) (a0_2 : SlV) (K : (Option Addr) → World → Prop) (w : World), Prop) (c_mheap_Heap_Alloc : ∀ (a0 : (Option Addr)) (a1 : Int) (a2 : Int) (a3 : Int) (a4 : Bool) (K : Int → Int → World → Prop) (w : World), Prop) (c_mheap_Heap_Span : ∀ (a0 : (Option Addr)) (a1 : Int) (K : (Option Addr) → Int → World → Prop) (w : World), Prop) (c_span_Span_Info : ∀ (a0 : (Option Addr)) (K : Int → Int → Int → Int → Bool → Int → Int → Int → Bool → Bool → World → Prop) (w : World), Prop) (c_mheap_Heap_Mem : ∀ (a0 : (Option Addr)) (K : (Option Addr) → World → Prop) (w : World), Prop) (c_vmem_Mem_Store : ∀ (a0 : (Option Addr)) (a1 : Int) (a2 : Int) (K : Int → World → Prop) (w : World), Prop) (c_mheap_Heap_Scavenge : ∀ (a0 : (Option Addr)) (a1 : Int) (K : Int → World → Prop) (w : World), Prop) (c_mheap_Heap_Free : ∀ (a0 : (Option Addr)) (a1 : Int) (K : Int → World → Prop) (w : World), Prop) (c_vmem_Mem_Load : ∀ (a0 : (Option Addr)) (a1 : Int) (K : Int → Int → World → Prop) (w : World), Prop) (c_mallowlaw16_awake : ∀ (K : Bool → World → Prop) (w : World), Prop) (x : ArgsV [.one (.int .u64), .one (.int .u64), .one (.int .u64), .one (.int .u64)]) (K Kp : Value → World → Prop) (w : World) : T0.mallowlaw16_HeapReleases env c_mallowlaw16_fresh c_mheap_Heap_Alloc c_mheap_Heap_Span c_span_Span_Info c_mheap_Heap_Mem c_vmem_Mem_Store c_mheap_Heap_Scavenge c_mheap_Heap_Free c_vmem_Mem_Load c_mallowlaw16_awake x.1 x.2.1 x.2.2.1 x.2.2.2.1 (fun r1 w' => K (.bool r1) w') w =
    ev Go.Proofs.Tryd.prog (tabC [(4, fun args w K Kp => unArgs [.agg [.sl, .sl, .sl]] args.toList fun x => c_mallowlaw16_fresh x.1.1 x.1.2.1 x.1.2.2.1 (fun r1 w' => K (.pointer r1) w') w), (5, fun args w K Kp => unArgs [.one (.ptr), .one (.int .i64), .one (.int .u64), .one (.int .i64), .one (.bool)] args.toList fun x => c_mheap_Heap_Alloc x.1 x.2.1 x.2.2.1 x.2.2.2.1 x.2.2.2.2.1 (fun r1 r2 w' => K (.tuple ⟨[.int .i64 r1, .int .i64 r2]⟩) w') w), (6, fun args w K Kp => unArgs [.one (.ptr), .one (.int .i64)] args.toList fun x => c_mheap_Heap_Span x.1 x.2.1 (fun r1 r2 w' => K (.tuple ⟨[.pointer r1, .int .i64 r2]⟩) w') w), (7, fun args w K Kp => unArgs [.one (.ptr)] args.toList fun x => c_span_Span_Info x.1 (fun r1 r2 r3 r4 r5 r6 r7 r8 r9 r10 w' => K (.agg ⟨[.int .u64 r1, .int .i64 r2, .int .i64 r3, .int .i64 r4, .bool r5, .int .i64 r6, .int .i64 r7, .int .i64 r8, .bool r9, .bool r10]⟩) w') w), (8, fun args w K Kp => unArgs [.one (.ptr)] args.toList fun x => c_mheap_Heap_Mem x.1 (fun r1 w' => K (.pointer r1) w') w), (9, fun args w K Kp => unArgs [.one (.ptr), .one (.int .u64), .one (.int .u64)] args.toList fun x => c_vmem_Mem_Store x.1 x.2.1 x.2.2.1 (fun r1 w' => K (.int .i64 r1) w') w), (10, fun args w K Kp => unArgs [.one (.ptr), .one (.int .u64)] args.toList fun x => c_mheap_Heap_Scavenge x.1 x.2.1 (fun r1 w' => K (.int .u64 r1) w') w), (11, fun args w K Kp => unArgs [.one (.ptr), .one (.int .i64)] args.toList fun x => c_mheap_Heap_Free x.1 x.2.1 (fun r1 w' => K (.int .i64 r1) w') w), (12, fun args w K Kp => unArgs [.one (.ptr), .one (.int .u64)] args.toList fun x => c_vmem_Mem_Load x.1 x.2.1 (fun r1 r2 w' => K (.tuple ⟨[.int .u64 r1, .int .i64 r2]⟩) w') w), (13, fun args w K Kp => unArgs [] args.toList fun x => c_mallowlaw16_awake  (fun r1 w' => K (.bool r1) w') w)]) (ground Go.Proofs.Tryd.prog) ann3 body3 (finQ Go.Proofs.Tryd.prog Go.Proofs.Tryd.f3 K Kp) (initF (mkArgs [.one (.int .u64), .one (.int .u64), .one (.int .u64), .one (.int .u64)] x)) w := by kernel_rfl
theorem tie3 (x : ArgsV [.one (.int .u64), .one (.int .u64), .one (.int .u64), .one (.int .u64)]) (K Kp : Value → World → Prop) (w : World) : F.mallowlaw16_HeapReleases env x.1 x.2.1 x.2.2.1 x.2.2.2.1 (fun r1 w' => K (.bool r1) w') w =
    ev Go.Proofs.Tryd.prog (tabC [(4, C4), (5, C5), (6, C6), (7, C7), (8, C8), (9, C9), (10, C10), (11, C11), (12, C12), (13, C13)]) (ground Go.Proofs.Tryd.prog) ann3 body3 (finQ Go.Proofs.Tryd.prog Go.Proofs.Tryd.f3 K Kp) (initF (mkArgs [.one (.int .u64), .one (.int .u64), .one (.int .u64), .one (.int .u64)] x)) w := tieZ3 (F.mallowlaw16_fresh env) (F.mheap_Heap_Alloc env) (F.mheap_Heap_Span env) (F.span_Span_Info env) (F.mheap_Heap_Mem env) (F.vmem_Mem_Store env) (F.mheap_Heap_Scavenge env) (F.mheap_Heap_Free env) (F.vmem_Mem_Load env) (F.mallowlaw16_awake env) x K Kp w
theorem fits3 : FitsOne Go.Proofs.Tryd.prog 3 C3 :=
  fits_of_tie (T := [(4, C4), (5, C5), (6, C6), (7, C7), (8, C8), (9, C9), (10, C10), (11, C11), (12, C12), (13, C13)]) (A := ann3) (fn := Go.Proofs.Tryd.f3) (c := body3) (fits_cons fits4 (fits_cons fits5 (fits_cons fits6 (fits_cons fits7 (fits_cons fits8 (fits_cons fits9 (fits_cons fits10 (fits_cons fits11 (fits_cons fits12 (fits_cons fits13 fits_nil)))))))))) mixed Go.Proofs.Tryd.func3 Go.Proofs.Tryd.call3 (by kernel_rfl) (by kernel_rfl) (by kernel_rfl) tie3

/- F.arena_Map_leaf -/
noncomputable def C56 : Entry := fun args w K Kp => unArgs [.one (.ptr), .one (.int .u64)] args.toList fun x => F.arena_Map_leaf env x.1 x.2.1 (fun r1 w' => K (.pointer r1) w') w
noncomputable def body56 : Code := (Go.Proofs.Tryd.f56.body).getD .skip
def ann56 : Ann := { loops := [(7, [(25, .one (.int .i64))])], joins := [] }
def T0.arena_Map_leaf (E : Env) (c_arena_Map_whole : ∀ (a0 : (Option Addr)) (a1 : Int) (K : Int → World → Prop) (w : World), Prop) (c_arena_Map_cut : ∀ (a0 : (Option Addr)) (a1 : Int) (a2 : Int) (K : World → Prop) (w : World), Prop) (a0 : (Option Addr)) (a1 : Int) (K : (Option Addr) → World → Prop) (w : World) : Prop :=
  NC a0 fun p1 =>
  ∃ x2 : (Option Nat), w.cell? (p1.add 3) = some (.map x2) ∧
  LKP .u64 a1 x2 w (.pointer none) fun v3 ok4 es5 =>
  ∃ x6 : (Option Addr), v3 = .pointer x6 ∧
  CND (x6.isNone) (
    c_arena_Map_whole a0 a1 (fun r7 w8 =>
    c_arena_Map_cut a0 a1 (u64 (a1 + 1)) (fun  w9 =>
    AL (.cells (Array.replicate 512 (.int .i64 0)) E.t__512_int) w9 fun b10 w11 =>
    LOOP (Int × Unit) (0, ()) w11 fun s12 _ w13 next14 =>
      CND (decide ((s12.1 : Int) < 512)) (
        ((0 : Int) ≤ s12.1 ∧ (s12.1 : Int) < (512 : Nat)) ∧
        stCells ((Addr.mk b10 0 none).add (Int.toNat s12.1 * 1)) 0 [.int .i64 r7] w13 fun w15 =>
        next14 (i64 (s12.1 + 1), ()) w15
      ) (
        NC a0 fun p16 =>
        ∃ x17 : (Option Nat), w13.cell? (p16.add 3) = some (.map x17) ∧
        MUPD .u64 a1 (.pointer (some (Addr.mk b10 0 none))) x17 w13 fun w18 =>
        K (some (Addr.mk b10 0 none)) w18
      )
    ) w8
    ) w
  ) (
    K x6 w
  )

theorem tieZ56 (c_arena_Map_whole : ∀ (a0 : (Option Addr)) (a1 : Int) (K : Int → World → Prop) (w : World), Prop) (c_arena_Map_cut : ∀ (a0 : (Option Addr)) (a1 : Int) (a2 : Int) (K : World → Prop) (w : World), Prop) (x : ArgsV [.one (.ptr), .one (.int .u64)]) (K Kp : Value → World → Prop) (w : World) : T0.arena_Map_leaf env c_arena_Map_whole c_arena_Map_cut x.1 x.2.1 (fun r1 w' => K (.pointer r1) w') w =
    ev Go.Proofs.Tryd.prog (tabC [(81, fun args w K Kp => unArgs [.one (.ptr), .one (.int .u64)] args.toList fun x => c_arena_Map_whole x.1 x.2.1 (fun r1 w' => K (.int .i64 r1) w') w), (54, fun args w K Kp => unArgs [.one (.ptr), .one (.int .u64), .one (.int .u64)] args.toList fun x => c_arena_Map_cut x.1 x.2.1 x.2.2.1 (fun  w' => K (.tuple ⟨[]⟩) w') w)]) (ground Go.Proofs.Tryd.prog) ann56 body56 (finQ Go.Proofs.Tryd.prog Go.Proofs.Tryd.f56 K Kp) (initF (mkArgs [.one (.ptr), .one (.int .u64)] x)) w := by kernel_rfl
theorem tie56 (x : ArgsV [.one (.ptr), .one (.int .u64)]) (K Kp : Value → World → Prop) (w : World) : F.arena_Map_leaf env x.1 x.2.1 (fun r1 w' => K (.pointer r1) w') w =
    ev Go.Proofs.Tryd.prog (tabC [(81, C81), (54, C54)]) (ground Go.Proofs.Tryd.prog) ann56 body56 (finQ Go.Proofs.Tryd.prog Go.Proofs.Tryd.f56 K Kp) (initF (mkArgs [.one (.ptr), .one (.int .u64)] x)) w := tieZ56 (F.arena_Map_whole env) (F.arena_Map_cut env) x K Kp w
theorem fits56 : FitsOne Go.Proofs.Tryd.prog 56 C56 :=
  fits_of_tie (T := [(81, C81), (54, C54)]) (A := ann56) (fn := Go.Proofs.Tryd.f56) (c := body56) (fits_cons fits81 (fits_cons fits54 fits_nil)) mixed Go.Proofs.Tryd.func56 Go.Proofs.Tryd.call56 (by kernel_rfl) (by kernel_rfl) (by kernel_rfl) tie56

/- F.arena_Map_Set_1 -/
noncomputable def C55 : Entry := fun args w K Kp => unArgs [.one (.int .u64), .one (.int .u64), .one (.ptr), .one (.ptr)] args.toList fun x => F.arena_Map_Set_1 env x.1 x.2.1 x.2.2.1 x.2.2.2.1 (fun  w' => K (.tuple ⟨[]⟩) w') w
noncomputable def body55 : Code := (Go.Proofs.Tryd.f55.body).getD .skip
def ann55 : Ann := { loops := [(1, [(6, .one (.int .u64))])], joins := [] }
def T0.arena_Map_Set_1 (E : Env) (c_arena_Map_leaf : ∀ (a0 : (Option Addr)) (a1 : Int) (K : (Option Addr) → World → Prop) (w : World), Prop) (a0 : Int) (a1 : Int) (a2 : (Option Addr)) (a3 : (Option Addr)) (K : World → Prop) (w : World) : Prop :=
  LOOP (Int × Unit) (a0, ()) w fun s1 _ w2 next3 =>
    CND (decide ((s1.1 : Int) < a1)) (
      NC a3 fun p4 =>
      ∃ x5 : (Option Addr), w2.drew.cell? p4 = some (.pointer x5) ∧
      512 ≠ (0 : Int) ∧
      512 ≠ (0 : Int) ∧
      NC a2 fun p6 =>
      ∃ x7 : Int, w2.drew.cell? p6 = some (.int .i64 x7) ∧
      c_arena_Map_leaf x5 (u64 (Int.tdiv s1.1 512)) (fun r8 w9 =>
      w9.cell? p6 = some (.int .i64 x7) ∧
      NC r8 fun p10 =>
      ((0 : Int) ≤ (Int.tmod s1.1 512) ∧ ((Int.tmod s1.1 512) : Int) < (512 : Nat)) ∧
      stCells (p10.add (Int.toNat (Int.tmod s1.1 512) * 1)) 0 [.int .i64 x7] w9 fun w11 =>
      next3 (u64 (s1.1 + 1), ()) w11
      ) w2.drew
    ) (
      K  w2
    )

theorem tieZ55 (c_arena_Map_leaf : ∀ (a0 : (Option Addr)) (a1 : Int) (K : (Option Addr) → World → Prop) (w : World), Prop) (x : ArgsV [.one (.int .u64), .one (.int .u64), .one (.ptr), .one (.ptr)]) (K Kp : Value → World → Prop) (w : World) : T0.arena_Map_Set_1 env c_arena_Map_leaf x.1 x.2.1 x.2.2.1 x.2.2.2.1 (fun  w' => K (.tuple ⟨[]⟩) w') w =
    ev Go.Proofs.Tryd.prog (tabC [(56, fun args w K Kp => unArgs [.one (.ptr), .one (.int .u64)] args.toList fun x => c_arena_Map_leaf x.1 x.2.1 (fun r1 w' => K (.pointer r1) w') w)]) (ground Go.Proofs.Tryd.prog) ann55 body55 (finQ Go.Proofs.Tryd.prog Go.Proofs.Tryd.f55 K Kp) (initF (mkArgs [.one (.int .u64), .one (.int .u64), .one (.ptr), .one (.ptr)] x)) w := by kernel_rfl
theorem tie55 (x : ArgsV [.one (.int .u64), .one (.int .u64), .one (.ptr), .one (.ptr)]) (K Kp : Value → World → Prop) (w : World) : F.arena_Map_Set_1 env x.1 x.2.1 x.2.2.1 x.2.2.2.1 (fun  w' => K (.tuple ⟨[]⟩) w') w =
    ev Go.Proofs.Tryd.prog (tabC [(56, C56)]) (ground Go.Proofs.Tryd.prog) ann55 body55 (finQ Go.Proofs.Tryd.prog Go.Proofs.Tryd.f55 K Kp) (initF (mkArgs [.one (.int .u64), .one (.int .u64), .one (.ptr), .one (.ptr)] x)) w := tieZ55 (F.arena_Map_leaf env) x K Kp w
theorem fits55 : FitsOne Go.Proofs.Tryd.prog 55 C55 :=
  fits_of_tie (T := [(56, C56)]) (A := ann55) (fn := Go.Proofs.Tryd.f55) (c := body55) (fits_cons fits56 fits_nil) mixed Go.Proofs.Tryd.func55 Go.Proofs.Tryd.call55 (by kernel_rfl) (by kernel_rfl) (by kernel_rfl) tie55

/- F.stretch_Set_at_1 -/
noncomputable def C93 : Entry := fun args w K Kp => unArgs [.one (.int .i64), .one (.ptr), .one (.ptr)] args.toList fun x => F.stretch_Set_at_1 env x.1 x.2.1 x.2.2.1 (fun r1 w' => K (.bool r1) w') w
noncomputable def body93 : Code := (Go.Proofs.Tryd.f93.body).getD .skip
def ann93 : Ann := { loops := [], joins := [] }
theorem tie93 (x : ArgsV [.one (.int .i64), .one (.ptr), .one (.ptr)]) (K Kp : Value → World → Prop) (w : World) : F.stretch_Set_at_1 env x.1 x.2.1 x.2.2.1 (fun r1 w' => K (.bool r1) w') w =
    ev Go.Proofs.Tryd.prog (tabC []) (ground Go.Proofs.Tryd.prog) ann93 body93 (finQ Go.Proofs.Tryd.prog Go.Proofs.Tryd.f93 K Kp) (initF (mkArgs [.one (.int .i64), .one (.ptr), .one (.ptr)] x)) w := by kernel_rfl
theorem fits93 : FitsOne Go.Proofs.Tryd.prog 93 C93 :=
  fits_of_tie (T := []) (A := ann93) (fn := Go.Proofs.Tryd.f93) (c := body93) fits_nil mixed Go.Proofs.Tryd.func93 Go.Proofs.Tryd.call93 (by kernel_rfl) (by kernel_rfl) (by kernel_rfl) tie93

/- F.gosem_cut_vars -/
noncomputable def C120 : Entry := fun args w K Kp => unArgs [] args.toList fun x => F.gosem_cut_vars env  (fun  w' => K (.tuple ⟨[]⟩) w') w
noncomputable def body120 : Code := (Go.Proofs.Tryd.f120.body).getD .skip
def ann120 : Ann := { loops := [], joins := [] }
theorem tie120 (x : ArgsV []) (K Kp : Value → World → Prop) (w : World) : F.gosem_cut_vars env  (fun  w' => K (.tuple ⟨[]⟩) w') w =
    ev Go.Proofs.Tryd.prog (tabC []) (ground Go.Proofs.Tryd.prog) ann120 body120 (finQ Go.Proofs.Tryd.prog Go.Proofs.Tryd.f120 K Kp) (initF (mkArgs [] x)) w := by kernel_rfl
theorem fits120 : FitsOne Go.Proofs.Tryd.prog 120 C120 :=
  fits_of_tie (T := []) (A := ann120) (fn := Go.Proofs.Tryd.f120) (c := body120) fits_nil mixed Go.Proofs.Tryd.func120 Go.Proofs.Tryd.call120 (by kernel_rfl) (by kernel_rfl) (by kernel_rfl) tie120

end Go.Sh

set_option linter.all false
namespace Go.Sh

theorem at1_mono {E : Env} {i : Int} {p1 p2 : Option Addr} {w : World} {K K' : Bool → World → Prop} (hk : ∀ b w', K b w' → K' b w') (h : F.stretch_Set_at_1 E i p1 p2 K w) : F.stretch_Set_at_1 E i p1 p2 K' w := by
  unfold F.stretch_Set_at_1 at h ⊢
  obtain ⟨q1, rfl, x2, h2, h⟩ := NC_elim h
  obtain ⟨q3, rfl, x4, h4, h⟩ := NC_elim h
  obtain ⟨q5, h5, hi, x6, h6, h⟩ := NC_elim h
  obtain ⟨q7, rfl, x8, h8, h⟩ := NC_elim h
  refine ⟨some q3, h2, x4, h4, ?_⟩
  rw [h5]
  exact ⟨hi, x6, h6, x8, h8, hk _ _ h⟩

theorem ground_mono {P : Program} (g : FuncId) (args : Array Value) (w : World) (K K' : Value → World → Prop) (hk : ∀ v w', K v w' → K' v w') (h : ground P g args w K noP) : ground P g args w K' noP :=
  ⟨h.1, h.2.mono fun e w' hE => let ⟨v, hv, h⟩ := hE.val; .inl ⟨v, hv, hk v w' h⟩⟩

end Go.Sh
