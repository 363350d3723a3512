/- Each shallow form is what the code of its function comes to: the second half. No further condition. -/
import Derived.Test.YtaaojaeeefbjiaaDoorT
import Derived.Test.YtaaojaeeefbjiaaDoorProg
import Derived.KernelRfl
import Derived.Test.YtaaojaeeefbjiaaDoorS
import Derived.Test.YtaaojaeeefbjiaaDoorA
import Derived.Calls
set_option linter.all false
set_option maxRecDepth 100000
set_option maxHeartbeats 4000000
namespace Go.Sh
open Go.Proofs

/- F.radix_Tree_Give -/
noncomputable def C37 : Entry := fun args w K Kp => unArgs [.one (.ptr), .one (.int .u64), .one (.int .u64)] args.toList fun x => F.radix_Tree_Give env x.1 x.2.1 x.2.2.1 (fun r1 w' => K (.int .i64 r1) w') w
noncomputable def body37 : Code := (Go.Proofs.Tryd.f37.body).getD .skip
def ann37 : Ann := { loops := [], joins := [] }
def T0.radix_Tree_Give (E : Env) (c_radix_Tree_freed : ∀ (a0 : (Option Addr)) (a1 : Int) (a2 : Int) (a3 : (Option Addr)) (K : Int → World → Prop) (w : World), Prop) (a0 : (Option Addr)) (a1 : Int) (a2 : Int) (K : Int → World → Prop) (w : World) : Prop :=
  NC a0 fun p1 =>
  c_radix_Tree_freed a0 a1 a2 (some (p1.add 6)) (fun r2 w3 =>
  K r2 w3
  ) w

theorem tieZ37 (c_radix_Tree_freed : ∀ (a0 : (Option Addr)) (a1 : Int) (a2 : Int) (a3 : (Option Addr)) (K : Int → World → Prop) (w : World), Prop) (x : ArgsV [.one (.ptr), .one (.int .u64), .one (.int .u64)]) (K Kp : Value → World → Prop) (w : World) : T0.radix_Tree_Give env c_radix_Tree_freed x.1 x.2.1 x.2.2.1 (fun r1 w' => K (.int .i64 r1) w') w =
    ev Go.Proofs.Tryd.prog (tabC [(68, fun args w K Kp => unArgs [.one (.ptr), .one (.int .u64), .one (.int .u64), .one (.ptr)] args.toList fun x => c_radix_Tree_freed x.1 x.2.1 x.2.2.1 x.2.2.2.1 (fun r1 w' => K (.int .i64 r1) w') w)]) (ground Go.Proofs.Tryd.prog) ann37 body37 (finQ Go.Proofs.Tryd.prog Go.Proofs.Tryd.f37 K Kp) (initF (mkArgs [.one (.ptr), .one (.int .u64), .one (.int .u64)] x)) w := by kernel_rfl
theorem tie37 (x : ArgsV [.one (.ptr), .one (.int .u64), .one (.int .u64)]) (K Kp : Value → World → Prop) (w : World) : F.radix_Tree_Give env x.1 x.2.1 x.2.2.1 (fun r1 w' => K (.int .i64 r1) w') w =
    ev Go.Proofs.Tryd.prog (tabC [(68, C68)]) (ground Go.Proofs.Tryd.prog) ann37 body37 (finQ Go.Proofs.Tryd.prog Go.Proofs.Tryd.f37 K Kp) (initF (mkArgs [.one (.ptr), .one (.int .u64), .one (.int .u64)] x)) w := tieZ37 (F.radix_Tree_freed env) x K Kp w
theorem fits37 : FitsOne Go.Proofs.Tryd.prog 37 C37 :=
  fits_of_tie (T := [(68, C68)]) (A := ann37) (fn := Go.Proofs.Tryd.f37) (c := body37) (fits_cons fits68 fits_nil) mixed Go.Proofs.Tryd.func37 Go.Proofs.Tryd.call37 (by kernel_rfl) (by kernel_rfl) (by kernel_rfl) tie37

/- F.mheap_Heap_back -/
noncomputable def C52 : Entry := fun args w K Kp => unArgs [.one (.ptr), .one (.int .u64), .one (.int .u64)] args.toList fun x => F.mheap_Heap_back env x.1 x.2.1 x.2.2.1 (fun  w' => K (.tuple ⟨[]⟩) w') w
noncomputable def body52 : Code := (Go.Proofs.Tryd.f52.body).getD .skip
def ann52 : Ann := { loops := [(2, [(6, .one (.int .u64)), (20, .one (.int .i64))])], joins := [] }
def T0.mheap_Heap_back (E : Env) (c_vmem_Mem_Ready : ∀ (a0 : (Option Addr)) (a1 : Int) (a2 : Int) (K : SlV → World → Prop) (w : World), Prop) (c_radix_Tree_Back : ∀ (a0 : (Option Addr)) (a1 : Int) (a2 : Int) (K : Int → World → Prop) (w : World), Prop) (c_radix_Tree_Give : ∀ (a0 : (Option Addr)) (a1 : Int) (a2 : Int) (K : Int → World → Prop) (w : World), Prop) (a0 : (Option Addr)) (a1 : Int) (a2 : Int) (K : World → Prop) (w : World) : Prop :=
  NC a0 fun p1 =>
  ∃ x2 : (Option Addr), w.cell? p1 = some (.pointer x2) ∧
  c_vmem_Mem_Ready x2 a1 (u64 (a1 + a2)) (fun r3 w4 =>
  LOOP (Int × Int × Unit) (a1, 0, ()) w4 fun s5 _ w6 next7 =>
    CND (decide ((s5.2.1 : Int) < ((r3.len : Nat) : Int))) (
      NC r3.base fun p8 =>
      ((0 : Int) ≤ s5.2.1 ∧ (s5.2.1 : Int) < (r3.len : Nat)) ∧
      ∃ c9 : Int, w6.cell? ((p8.add (Int.toNat s5.2.1 * 2)).add 0) = some (.int .u64 c9) ∧
      ∃ c10 : Int, w6.cell? ((p8.add (Int.toNat s5.2.1 * 2)).add 1) = some (.int .u64 c10) ∧
      AL (.cells #[.int .u64 0, .int .u64 0] E.t_stretch_One) w6 fun b11 w12 =>
      stCells (Addr.mk b11 0 none) 0 [.int .u64 c9, .int .u64 c10] w12 fun w13 =>
      NC a0 fun p14 =>
      ∃ x15 : (Option Addr), w13.drew.cell? (p14.add 1) = some (.pointer x15) ∧
      ∃ x16 : Int, w13.drew.cell? (Addr.mk b11 0 none) = some (.int .u64 x16) ∧
      c_radix_Tree_Back x15 s5.1 (u64 (x16 - s5.1)) (fun r17 w18 =>
      w18.cell? (Addr.mk b11 0 none) = some (.int .u64 x16) ∧
      NC a0 fun p19 =>
      ∃ x20 : (Option Addr), w18.drew.cell? (p19.add 1) = some (.pointer x20) ∧
      ∃ x21 : Int, w18.drew.cell? (Addr.mk b11 0 none) = some (.int .u64 x21) ∧
      ∃ x22 : Int, w18.drew.cell? ((Addr.mk b11 0 none).add 1) = some (.int .u64 x22) ∧
      ∃ x23 : Int, w18.drew.cell? (Addr.mk b11 0 none) = some (.int .u64 x23) ∧
      c_radix_Tree_Give x20 x21 (u64 (x22 - x23)) (fun r24 w25 =>
      w25.cell? (Addr.mk b11 0 none) = some (.int .u64 x23) ∧
      w25.cell? ((Addr.mk b11 0 none).add 1) = some (.int .u64 x22) ∧
      ∃ x26 : Int, w25.cell? ((Addr.mk b11 0 none).add 1) = some (.int .u64 x26) ∧
      next7 (x26, i64 (s5.2.1 + 1), ()) w25
      ) w18.drew
      ) w13.drew
    ) (
      NC a0 fun p27 =>
      ∃ x28 : (Option Addr), w6.cell? (p27.add 1) = some (.pointer x28) ∧
      c_radix_Tree_Back x28 s5.1 (u64 ((u64 (a1 + a2)) - s5.1)) (fun r29 w30 =>
      K  w30
      ) w6
    )
  ) w

theorem tieZ52 (c_vmem_Mem_Ready : ∀ (a0 : (Option Addr)) (a1 : Int) (a2 : Int) (K : SlV → World → Prop) (w : World), Prop) (c_radix_Tree_Back : ∀ (a0 : (Option Addr)) (a1 : Int) (a2 : Int) (K : Int → World → Prop) (w : World), Prop) (c_radix_Tree_Give : ∀ (a0 : (Option Addr)) (a1 : Int) (a2 : Int) (K : Int → World → Prop) (w : World), Prop) (x : ArgsV [.one (.ptr), .one (.int .u64), .one (.int .u64)]) (K Kp : Value → World → Prop) (w : World) : T0.mheap_Heap_back env c_vmem_Mem_Ready c_radix_Tree_Back c_radix_Tree_Give x.1 x.2.1 x.2.2.1 (fun  w' => K (.tuple ⟨[]⟩) w') w =
    ev Go.Proofs.Tryd.prog (tabC [(78, fun args w K Kp => unArgs [.one (.ptr), .one (.int .u64), .one (.int .u64)] args.toList fun x => c_vmem_Mem_Ready x.1 x.2.1 x.2.2.1 (fun r1 w' => K (.slice r1.base r1.len r1.cap) w') w), (58, fun args w K Kp => unArgs [.one (.ptr), .one (.int .u64), .one (.int .u64)] args.toList fun x => c_radix_Tree_Back x.1 x.2.1 x.2.2.1 (fun r1 w' => K (.int .i64 r1) w') w), (37, fun args w K Kp => unArgs [.one (.ptr), .one (.int .u64), .one (.int .u64)] args.toList fun x => c_radix_Tree_Give x.1 x.2.1 x.2.2.1 (fun r1 w' => K (.int .i64 r1) w') w)]) (ground Go.Proofs.Tryd.prog) ann52 body52 (finQ Go.Proofs.Tryd.prog Go.Proofs.Tryd.f52 K Kp) (initF (mkArgs [.one (.ptr), .one (.int .u64), .one (.int .u64)] x)) w := by kernel_rfl
theorem tie52 (x : ArgsV [.one (.ptr), .one (.int .u64), .one (.int .u64)]) (K Kp : Value → World → Prop) (w : World) : F.mheap_Heap_back env x.1 x.2.1 x.2.2.1 (fun  w' => K (.tuple ⟨[]⟩) w') w =
    ev Go.Proofs.Tryd.prog (tabC [(78, C78), (58, C58), (37, C37)]) (ground Go.Proofs.Tryd.prog) ann52 body52 (finQ Go.Proofs.Tryd.prog Go.Proofs.Tryd.f52 K Kp) (initF (mkArgs [.one (.ptr), .one (.int .u64), .one (.int .u64)] x)) w := tieZ52 (F.vmem_Mem_Ready env) (F.radix_Tree_Back env) (F.radix_Tree_Give env) x K Kp w
theorem fits52 : FitsOne Go.Proofs.Tryd.prog 52 C52 :=
  fits_of_tie (T := [(78, C78), (58, C58), (37, C37)]) (A := ann52) (fn := Go.Proofs.Tryd.f52) (c := body52) (fits_cons fits78 (fits_cons fits58 (fits_cons fits37 fits_nil))) mixed Go.Proofs.Tryd.func52 Go.Proofs.Tryd.call52 (by kernel_rfl) (by kernel_rfl) (by kernel_rfl) tie52

/- F.mheap_Heap_find_1 -/
noncomputable def C51 : Entry := fun args w K Kp => unArgs [.one (.ptr), .one (.ptr), .one (.ptr), .one (.ptr)] args.toList fun x => F.mheap_Heap_find_1 env x.1 x.2.1 x.2.2.1 x.2.2.2.1 (fun  w' => K (.tuple ⟨[]⟩) w') w
noncomputable def body51 : Code := (Go.Proofs.Tryd.f51.body).getD .skip
def ann51 : Ann := { loops := [], joins := [] }
def T0.mheap_Heap_find_1 (E : Env) (c_mheap_Heap_back : ∀ (a0 : (Option Addr)) (a1 : Int) (a2 : Int) (K : World → Prop) (w : World), Prop) (a0 : (Option Addr)) (a1 : (Option Addr)) (a2 : (Option Addr)) (a3 : (Option Addr)) (K : World → Prop) (w : World) : Prop :=
  NC a0 fun p1 =>
  ∃ x2 : Int, w.cell? p1 = some (.int .i64 x2) ∧
  CND ((x2 : Int) != 0) (
    NC a1 fun p3 =>
    ∃ x4 : (Option Addr), w.cell? p3 = some (.pointer x4) ∧
    NC a2 fun p5 =>
    ∃ x6 : Int, w.cell? p5 = some (.int .u64 x6) ∧
    NC a3 fun p7 =>
    ∃ x8 : Int, w.cell? p7 = some (.int .u64 x8) ∧
    c_mheap_Heap_back x4 x6 x8 (fun  w9 =>
    K  w9
    ) w
  ) (
    K  w
  )

theorem tieZ51 (c_mheap_Heap_back : ∀ (a0 : (Option Addr)) (a1 : Int) (a2 : Int) (K : World → Prop) (w : World), Prop) (x : ArgsV [.one (.ptr), .one (.ptr), .one (.ptr), .one (.ptr)]) (K Kp : Value → World → Prop) (w : World) : T0.mheap_Heap_find_1 env c_mheap_Heap_back x.1 x.2.1 x.2.2.1 x.2.2.2.1 (fun  w' => K (.tuple ⟨[]⟩) w') w =
    ev Go.Proofs.Tryd.prog (tabC [(52, fun args w K Kp => unArgs [.one (.ptr), .one (.int .u64), .one (.int .u64)] args.toList fun x => c_mheap_Heap_back x.1 x.2.1 x.2.2.1 (fun  w' => K (.tuple ⟨[]⟩) w') w)]) (ground Go.Proofs.Tryd.prog) ann51 body51 (finQ Go.Proofs.Tryd.prog Go.Proofs.Tryd.f51 K Kp) (initF (mkArgs [.one (.ptr), .one (.ptr), .one (.ptr), .one (.ptr)] x)) w := by kernel_rfl
theorem tie51 (x : ArgsV [.one (.ptr), .one (.ptr), .one (.ptr), .one (.ptr)]) (K Kp : Value → World → Prop) (w : World) : F.mheap_Heap_find_1 env x.1 x.2.1 x.2.2.1 x.2.2.2.1 (fun  w' => K (.tuple ⟨[]⟩) w') w =
    ev Go.Proofs.Tryd.prog (tabC [(52, C52)]) (ground Go.Proofs.Tryd.prog) ann51 body51 (finQ Go.Proofs.Tryd.prog Go.Proofs.Tryd.f51 K Kp) (initF (mkArgs [.one (.ptr), .one (.ptr), .one (.ptr), .one (.ptr)] x)) w := tieZ51 (F.mheap_Heap_back env) x K Kp w
theorem fits51 : FitsOne Go.Proofs.Tryd.prog 51 C51 :=
  fits_of_tie (T := [(52, C52)]) (A := ann51) (fn := Go.Proofs.Tryd.f51) (c := body51) (fits_cons fits52 fits_nil) mixed Go.Proofs.Tryd.func51 Go.Proofs.Tryd.call51 (by kernel_rfl) (by kernel_rfl) (by kernel_rfl) tie51
noncomputable def D51 : EntryD := fun args pv w K => unArgs [.one (.ptr), .one (.ptr), .one (.ptr), .one (.ptr)] args.toList fun x => F.mheap_Heap_find_1 env x.1 x.2.1 x.2.2.1 x.2.2.2.1 (fun w' => K false w') w
theorem fitsD51 : FitsDOne Go.Proofs.Tryd.prog 51 D51 :=
  fitsD_plain (T := [(52, C52)]) (A := ann51) (fn := Go.Proofs.Tryd.f51) (c := body51) (l := [.one (.ptr), .one (.ptr), .one (.ptr), .one (.ptr)]) (F := fun (x : ArgsV [.one (.ptr), .one (.ptr), .one (.ptr), .one (.ptr)]) K w => F.mheap_Heap_find_1 env x.1 x.2.1 x.2.2.1 x.2.2.2.1 K w) (fits_cons fits52 fits_nil) mixed Go.Proofs.Tryd.func51 Go.Proofs.Tryd.call51 (by kernel_rfl) (by kernel_rfl) (by kernel_rfl) (fun x K w => tie51 x (fun _ w' => K w') noP w)

/- F.mheap_Heap_find -/
noncomputable def C25 : Entry := fun args w K Kp => unArgs [.one (.ptr), .one (.int .i64), .one (.int .u64)] args.toList fun x => F.mheap_Heap_find env x.1 x.2.1 x.2.2.1 (fun r1 r2 w' => K (.tuple ⟨[.int .u64 r1, .int .i64 r2]⟩) w') w
noncomputable def body25 : Code := (Go.Proofs.Tryd.f25.body).getD .skip
def ann25 : Ann := { loops := [], joins := [(7, [(6, .one (.int .u64))])] }
def T0.mheap_Heap_find (E : Env) (c_mheap_Heap_got : ∀ (a0 : (Option Addr)) (a1 : Int) (a2 : Int) (K : Int → Bool → World → Prop) (w : World), Prop) (c_mheap_Heap_grow : ∀ (a0 : (Option Addr)) (a1 : Int) (K : Int → World → Prop) (w : World), Prop) (c_radix_Tree_Alloc : ∀ (a0 : (Option Addr)) (a1 : Int) (K : Int → Int → Int → World → Prop) (w : World), Prop) (c_vmem_Mem_Commit : ∀ (a0 : (Option Addr)) (a1 : Int) (a2 : Int) (K : Int → World → Prop) (w : World), Prop) (a0 : (Option Addr)) (a1 : Int) (a2 : Int) (K : Int → Int → World → Prop) (w : World) : Prop :=
  AL (.cells #[.pointer a0] E.t__mheap_Heap) w fun b1 w2 =>
  AL (.cells #[.int .u64 a2] E.t_uint64) w2 fun b3 w4 =>
  AL (.cells #[.int .i64 0] E.t_api_Errno) w4 fun b5 w6 =>
  ∃ x7 : (Option Addr), w6.cell? (Addr.mk b1 0 none) = some (.pointer x7) ∧
  ∃ x8 : Int, w6.cell? (Addr.mk b3 0 none) = some (.int .u64 x8) ∧
  c_mheap_Heap_got x7 a1 x8 (fun r9 r10 w11 =>
  JOIN (Int × Unit) (fun J12 =>
    CND (!r10) (
      ∃ x15 : (Option Addr), w11.cell? (Addr.mk b1 0 none) = some (.pointer x15) ∧
      ∃ x16 : Int, w11.cell? (Addr.mk b3 0 none) = some (.int .u64 x16) ∧
      c_mheap_Heap_grow x15 x16 (fun r17 w18 =>
      stCells (Addr.mk b5 0 none) 0 [.int .i64 r17] w18 fun w19 =>
      ∃ x20 : Int, w19.cell? (Addr.mk b5 0 none) = some (.int .i64 x20) ∧
      CND ((x20 : Int) != 0) (
        ∃ x21 : Int, w19.drew.cell? (Addr.mk b5 0 none) = some (.int .i64 x21) ∧
        stCells (Addr.mk b5 0 none) 0 [.int .i64 x21] w19.drew fun w22 =>
        ∃ x23 : Int, w22.cell? (Addr.mk b5 0 none) = some (.int .i64 x23) ∧
        K 0 x23 w22
      ) (
        ∃ x24 : (Option Addr), w19.drew.cell? (Addr.mk b1 0 none) = some (.pointer x24) ∧
        NC x24 fun p25 =>
        ∃ x26 : (Option Addr), w19.drew.cell? (p25.add 1) = some (.pointer x26) ∧
        ∃ x27 : Int, w19.drew.cell? (Addr.mk b3 0 none) = some (.int .u64 x27) ∧
        c_radix_Tree_Alloc x26 x27 (fun r28 r29 r30 w31 =>
        w31.cell? (Addr.mk b1 0 none) = some (.pointer x24) ∧
        J12 (r28, ()) w31
        ) w19.drew
      )
      ) w11
    ) (
      J12 (r9, ()) w11
    )
  ) fun s13 _ w14 =>
    AL (.cells #[.int .u64 0] E.t_uint64) w14 fun b32 w33 =>
    stCells (Addr.mk b32 0 none) 0 [.int .u64 s13.1] w33 fun w34 =>
    ∃ x35 : (Option Addr), w34.drew.cell? (Addr.mk b1 0 none) = some (.pointer x35) ∧
    NC x35 fun p36 =>
    ∃ x37 : (Option Addr), w34.drew.cell? p36 = some (.pointer x37) ∧
    ∃ x38 : Int, w34.drew.cell? (Addr.mk b3 0 none) = some (.int .u64 x38) ∧
    c_vmem_Mem_Commit x37 s13.1 x38 (fun r39 w40 =>
    w40.cell? (Addr.mk b1 0 none) = some (.pointer x35) ∧
    CND ((r39 : Int) != 0) (
      stCells (Addr.mk b5 0 none) 0 [.int .i64 13] w40 fun w41 =>
      F.mheap_Heap_find_1 E (some (Addr.mk b5 0 none)) (some (Addr.mk b1 0 none)) (some (Addr.mk b32 0 none)) (some (Addr.mk b3 0 none)) (fun w42 =>
        ∃ x43 : Int, w42.cell? (Addr.mk b5 0 none) = some (.int .i64 x43) ∧
        K 0 x43 w42
      ) w41
    ) (
      stCells (Addr.mk b5 0 none) 0 [.int .i64 0] w40 fun w44 =>
      F.mheap_Heap_find_1 E (some (Addr.mk b5 0 none)) (some (Addr.mk b1 0 none)) (some (Addr.mk b32 0 none)) (some (Addr.mk b3 0 none)) (fun w45 =>
        ∃ x46 : Int, w45.cell? (Addr.mk b5 0 none) = some (.int .i64 x46) ∧
        K s13.1 x46 w45
      ) w44
    )
    ) w34.drew
  ) w6

theorem tieZ25 (c_mheap_Heap_got : ∀ (a0 : (Option Addr)) (a1 : Int) (a2 : Int) (K : Int → Bool → World → Prop) (w : World), Prop) (c_mheap_Heap_grow : ∀ (a0 : (Option Addr)) (a1 : Int) (K : Int → World → Prop) (w : World), Prop) (c_radix_Tree_Alloc : ∀ (a0 : (Option Addr)) (a1 : Int) (K : Int → Int → Int → World → Prop) (w : World), Prop) (c_vmem_Mem_Commit : ∀ (a0 : (Option Addr)) (a1 : Int) (a2 : Int) (K : Int → World → Prop) (w : World), Prop) (x : ArgsV [.one (.ptr), .one (.int .i64), .one (.int .u64)]) (K : Value → World → Prop) (w : World) : T0.mheap_Heap_find env c_mheap_Heap_got c_mheap_Heap_grow c_radix_Tree_Alloc c_vmem_Mem_Commit x.1 x.2.1 x.2.2.1 (fun r1 r2 w' => K (.tuple ⟨[.int .u64 r1, .int .i64 r2]⟩) w') w =
    evD Go.Proofs.Tryd.prog (tabC [(48, fun args w K Kp => unArgs [.one (.ptr), .one (.int .i64), .one (.int .u64)] args.toList fun x => c_mheap_Heap_got x.1 x.2.1 x.2.2.1 (fun r1 r2 w' => K (.tuple ⟨[.int .u64 r1, .bool r2]⟩) w') w), (49, fun args w K Kp => unArgs [.one (.ptr), .one (.int .u64)] args.toList fun x => c_mheap_Heap_grow x.1 x.2.1 (fun r1 w' => K (.int .i64 r1) w') w), (50, fun args w K Kp => unArgs [.one (.ptr), .one (.int .u64)] args.toList fun x => c_radix_Tree_Alloc x.1 x.2.1 (fun r1 r2 r3 w' => K (.tuple ⟨[.int .u64 r1, .int .u64 r2, .int .i64 r3]⟩) w') w), (53, fun args w K Kp => unArgs [.one (.ptr), .one (.int .u64), .one (.int .u64)] args.toList fun x => c_vmem_Mem_Commit x.1 x.2.1 x.2.2.1 (fun r1 w' => K (.int .i64 r1) w') w)]) (ground Go.Proofs.Tryd.prog) ann25 (finQ Go.Proofs.Tryd.prog Go.Proofs.Tryd.f25 K noP) (finD Go.Proofs.Tryd.prog Go.Proofs.Tryd.f25 (tabD [(51, D51)]) K noP) body25 (initF (mkArgs [.one (.ptr), .one (.int .i64), .one (.int .u64)] x)) w := by kernel_rfl
theorem tie25 (x : ArgsV [.one (.ptr), .one (.int .i64), .one (.int .u64)]) (K : Value → World → Prop) (w : World) : F.mheap_Heap_find env x.1 x.2.1 x.2.2.1 (fun r1 r2 w' => K (.tuple ⟨[.int .u64 r1, .int .i64 r2]⟩) w') w =
    evD Go.Proofs.Tryd.prog (tabC [(48, C48), (49, C49), (50, C50), (53, C53)]) (ground Go.Proofs.Tryd.prog) ann25 (finQ Go.Proofs.Tryd.prog Go.Proofs.Tryd.f25 K noP) (finD Go.Proofs.Tryd.prog Go.Proofs.Tryd.f25 (tabD [(51, D51)]) K noP) body25 (initF (mkArgs [.one (.ptr), .one (.int .i64), .one (.int .u64)] x)) w := tieZ25 (F.mheap_Heap_got env) (F.mheap_Heap_grow env) (F.radix_Tree_Alloc env) (F.vmem_Mem_Commit env) x K w
theorem fits25 : FitsOne Go.Proofs.Tryd.prog 25 C25 :=
  fits_of_tieD (T := [(48, C48), (49, C49), (50, C50), (53, C53)]) (TD := [(51, D51)]) (A := ann25) (fn := Go.Proofs.Tryd.f25) (c := body25) (fits_cons fits48 (fits_cons fits49 (fits_cons fits50 (fits_cons fits53 fits_nil)))) (fitsD_cons fitsD51 fitsD_nil) mixed Go.Proofs.Tryd.func25 Go.Proofs.Tryd.call25 (by kernel_rfl) (by kernel_rfl) (by kernel_rfl) tie25

/- F.fix_Fix_Take -/
noncomputable def C54 : Entry := fun args w K Kp => unArgs [.one (.ptr)] args.toList fun x => F.fix_Fix_Take env x.1 (fun r1 w' => K (.int .i64 r1) w') w
noncomputable def body54 : Code := (Go.Proofs.Tryd.f54.body).getD .skip
def ann54 : Ann := { loops := [], joins := [(6, [(3, .one (.ptr))])] }
theorem tie54 (x : ArgsV [.one (.ptr)]) (K Kp : Value → World → Prop) (w : World) : F.fix_Fix_Take env x.1 (fun r1 w' => K (.int .i64 r1) w') w =
    ev Go.Proofs.Tryd.prog (tabC []) (ground Go.Proofs.Tryd.prog) ann54 body54 (finQ Go.Proofs.Tryd.prog Go.Proofs.Tryd.f54 K Kp) (initF (mkArgs [.one (.ptr)] x)) w := by kernel_rfl
theorem fits54 : FitsOne Go.Proofs.Tryd.prog 54 C54 :=
  fits_of_tie (T := []) (A := ann54) (fn := Go.Proofs.Tryd.f54) (c := body54) fits_nil mixed Go.Proofs.Tryd.func54 Go.Proofs.Tryd.call54 (by kernel_rfl) (by kernel_rfl) (by kernel_rfl) tie54

/- F.span_Span_Info -/
noncomputable def C10 : Entry := fun args w K Kp => unArgs [.one (.ptr)] args.toList fun x => F.span_Span_Info env x.1 (fun r1 r2 r3 r4 r5 r6 r7 r8 r9 r10 w' => K (.agg ⟨[.int .u64 r1, .int .i64 r2, .int .i64 r3, .int .i64 r4, .bool r5, .int .i64 r6, .int .i64 r7, .int .i64 r8, .bool r9, .bool r10]⟩) w') w
noncomputable def body10 : Code := (Go.Proofs.Tryd.f10.body).getD .skip
def ann10 : Ann := { loops := [], joins := [] }
theorem tie10 (x : ArgsV [.one (.ptr)]) (K Kp : Value → World → Prop) (w : World) : F.span_Span_Info env x.1 (fun r1 r2 r3 r4 r5 r6 r7 r8 r9 r10 w' => K (.agg ⟨[.int .u64 r1, .int .i64 r2, .int .i64 r3, .int .i64 r4, .bool r5, .int .i64 r6, .int .i64 r7, .int .i64 r8, .bool r9, .bool r10]⟩) w') w =
    ev Go.Proofs.Tryd.prog (tabC []) (ground Go.Proofs.Tryd.prog) ann10 body10 (finQ Go.Proofs.Tryd.prog Go.Proofs.Tryd.f10 K Kp) (initF (mkArgs [.one (.ptr)] x)) w := by kernel_rfl
theorem fits10 : FitsOne Go.Proofs.Tryd.prog 10 C10 :=
  fits_of_tie (T := []) (A := ann10) (fn := Go.Proofs.Tryd.f10) (c := body10) fits_nil mixed Go.Proofs.Tryd.func10 Go.Proofs.Tryd.call10 (by kernel_rfl) (by kernel_rfl) (by kernel_rfl) tie10

/- F.arena_Map_cut -/
noncomputable def C65 : Entry := fun args w K Kp => unArgs [.one (.ptr), .one (.int .u64), .one (.int .u64)] args.toList fun x => F.arena_Map_cut env x.1 x.2.1 x.2.2.1 (fun  w' => K (.tuple ⟨[]⟩) w') w
noncomputable def body65 : Code := (Go.Proofs.Tryd.f65.body).getD .skip
def ann65 : Ann := { loops := [(2, [(6, .one (.sl)), (16, .one (.int .i64))]), (14, []), (19, [(10, .one (.int .u64))])], joins := [(5, [(29, .one (.bool))]), (8, [(6, .one (.sl))]), (15, [(81, .one (.bool))]), (17, [(91, .one (.bool))])] }
theorem tie65 (x : ArgsV [.one (.ptr), .one (.int .u64), .one (.int .u64)]) (K Kp : Value → World → Prop) (w : World) : F.arena_Map_cut env x.1 x.2.1 x.2.2.1 (fun  w' => K (.tuple ⟨[]⟩) w') w =
    ev Go.Proofs.Tryd.prog (tabC []) (ground Go.Proofs.Tryd.prog) ann65 body65 (finQ Go.Proofs.Tryd.prog Go.Proofs.Tryd.f65 K Kp) (initF (mkArgs [.one (.ptr), .one (.int .u64), .one (.int .u64)] x)) w := by kernel_rfl
theorem fits65 : FitsOne Go.Proofs.Tryd.prog 65 C65 :=
  fits_of_tie (T := []) (A := ann65) (fn := Go.Proofs.Tryd.f65) (c := body65) fits_nil mixed Go.Proofs.Tryd.func65 Go.Proofs.Tryd.call65 (by kernel_rfl) (by kernel_rfl) (by kernel_rfl) tie65

/- F.arena_Map_Set -/
noncomputable def C36 : Entry := fun args w K Kp => unArgs [.one (.ptr), .one (.int .u64), .one (.int .u64), .one (.int .i64)] args.toList fun x => F.arena_Map_Set env x.1 x.2.1 x.2.2.1 x.2.2.2.1 (fun r1 w' => K (.int .i64 r1) w') w
noncomputable def body36 : Code := (Go.Proofs.Tryd.f36.body).getD .skip
def ann36 : Ann := { loops := [], joins := [(2, [(20, .one (.bool))]), (4, [(28, .one (.bool))]), (14, [])] }
def T0.arena_Map_Set (E : Env) (c_stretch_Set_Count : ∀ (a0 : (Option Addr)) (a1 : Int) (a2 : Int) (K : Int → World → Prop) (w : World), Prop) (c_arena_Map_cut : ∀ (a0 : (Option Addr)) (a1 : Int) (a2 : Int) (K : World → Prop) (w : World), Prop) (a0 : (Option Addr)) (a1 : Int) (a2 : Int) (a3 : Int) (K : Int → World → Prop) (w : World) : Prop :=
  AL (.cells #[.pointer a0] E.t__arena_Map) w fun b1 w2 =>
  AL (.cells #[.int .i64 a3] E.t_int) w2 fun b3 w4 =>
  JOIN (Bool × Unit) (fun J5 =>
    CND ((a2 : Int) == 0) (
      J5 (true, ()) w4
    ) (
      ∃ x8 : Int, w4.cell? (Addr.mk b3 0 none) = some (.int .i64 x8) ∧
      J5 (decide ((x8 : Int) < 0), ()) w4
    )
  ) fun s6 _ w7 =>
    CND (s6.1) (
      K 1 w7
    ) (
      JOIN (Bool × Unit) (fun J9 =>
        CND (decide ((a1 : Int) ≥ 34359738368)) (
          J9 (true, ()) w7
        ) (
          J9 (decide ((a2 : Int) > (u64 (34359738368 - a1))), ()) w7
        )
      ) fun s10 _ w11 =>
        CND (s10.1) (
          K 10 w11
        ) (
          512 ≠ (0 : Int) ∧
          512 ≠ (0 : Int) ∧
          LET (u64 (Int.tdiv (u64 ((u64 ((u64 (a1 + a2)) + 512)) - 1)) 512) : Int) fun last_12 =>
          ∃ x13 : (Option Addr), w11.cell? (Addr.mk b1 0 none) = some (.pointer x13) ∧
          NC x13 fun p14 =>
          c_stretch_Set_Count (some p14) (u64 (Int.tdiv a1 512)) last_12 (fun r15 w16 =>
          CND ((r15 : Int) != (u64 (last_12 - (u64 (Int.tdiv a1 512))))) (
            K 10 w16
          ) (
            512 ≠ (0 : Int) ∧
            512 ≠ (0 : Int) ∧
            LET (u64 (Int.tdiv (u64 ((u64 (a1 + 512)) - 1)) 512) : Int) fun from_17 =>
            LET (u64 (Int.tdiv (u64 (a1 + a2)) 512) : Int) fun to_18 =>
            JOIN (Unit) (fun J19 =>
              CND (decide ((from_17 : Int) < to_18)) (
                ∃ x22 : (Option Addr), w16.cell? (Addr.mk b1 0 none) = some (.pointer x22) ∧
                c_arena_Map_cut x22 from_17 to_18 (fun  w23 =>
                ∃ x24 : Int, w23.cell? (Addr.mk b3 0 none) = some (.int .i64 x24) ∧
                CND (decide ((x24 : Int) > 0)) (
                  ∃ x25 : (Option Addr), w23.drew.cell? (Addr.mk b1 0 none) = some (.pointer x25) ∧
                  ∃ x26 : (Option Addr), w23.drew.cell? (Addr.mk b1 0 none) = some (.pointer x26) ∧
                  NC x26 fun p27 =>
                  ∃ x28 : SlV, w23.drew.cell? (p27.add 2) = some (.slice x28.base x28.len x28.cap) ∧
                  ∃ x29 : Int, w23.drew.cell? (Addr.mk b3 0 none) = some (.int .i64 x29) ∧
                  AL (.cells ⟨[.int .u64 from_17, .int .u64 to_18, .int .i64 x29]⟩ E.t_arena_wide) w23.drew fun b30 w31 =>
                  w31.cell? (Addr.mk b3 0 none) = some (.int .i64 x29) ∧
                  w31.cell? (p27.add 2) = some (.slice x28.base x28.len x28.cap) ∧
                  w31.cell? (Addr.mk b1 0 none) = some (.pointer x26) ∧
                  w31.cell? (Addr.mk b1 0 none) = some (.pointer x25) ∧
                  APP E.t_arena_wide 3 24 #[.int .u64 0, .int .u64 0, .int .i64 0] x28 ⟨(some (Addr.mk b30 0 none)), 1, 1⟩ w31 fun s32 w33 =>
                  w33.cell? (Addr.mk b3 0 none) = some (.int .i64 x29) ∧
                  w33.cell? (Addr.mk b1 0 none) = some (.pointer x26) ∧
                  w33.cell? (Addr.mk b1 0 none) = some (.pointer x25) ∧
                  NC x25 fun p34 =>
                  stCells (p34.add 2) 0 [.slice s32.base s32.len s32.cap] w33 fun w35 =>
                  J19 (()) w35
                ) (
                  J19 (()) w23
                )
                ) w16
              ) (
                J19 (()) w16
              )
            ) fun s20 _ w21 =>
              CND (decide ((from_17 : Int) > to_18)) (
                CAL E.call E.f_arena_Map_Set_1 #[.int .u64 a1, .int .u64 (u64 (a1 + a2)), .pointer (some (Addr.mk b3 0 none)), .pointer (some (Addr.mk b1 0 none))] w21 fun r36 w37 =>
                r36 = .tuple ⟨[]⟩ ∧
                K 0 w37
              ) (
                CAL E.call E.f_arena_Map_Set_1 #[.int .u64 a1, .int .u64 (u64 (from_17 * 512)), .pointer (some (Addr.mk b3 0 none)), .pointer (some (Addr.mk b1 0 none))] w21 fun r38 w39 =>
                r38 = .tuple ⟨[]⟩ ∧
                CAL E.call E.f_arena_Map_Set_1 #[.int .u64 (u64 (to_18 * 512)), .int .u64 (u64 (a1 + a2)), .pointer (some (Addr.mk b3 0 none)), .pointer (some (Addr.mk b1 0 none))] w39 fun r40 w41 =>
                r40 = .tuple ⟨[]⟩ ∧
                K 0 w41
              )
          )
          ) w11
        )
    )

theorem tieZ36 (c_stretch_Set_Count : ∀ (a0 : (Option Addr)) (a1 : Int) (a2 : Int) (K : Int → World → Prop) (w : World), Prop) (c_arena_Map_cut : ∀ (a0 : (Option Addr)) (a1 : Int) (a2 : Int) (K : World → Prop) (w : World), Prop) (x : ArgsV [.one (.ptr), .one (.int .u64), .one (.int .u64), .one (.int .i64)]) (K Kp : Value → World → Prop) (w : World) : T0.arena_Map_Set env c_stretch_Set_Count c_arena_Map_cut x.1 x.2.1 x.2.2.1 x.2.2.2.1 (fun r1 w' => K (.int .i64 r1) w') w =
    ev Go.Proofs.Tryd.prog (tabC [(64, fun args w K Kp => unArgs [.one (.ptr), .one (.int .u64), .one (.int .u64)] args.toList fun x => c_stretch_Set_Count x.1 x.2.1 x.2.2.1 (fun r1 w' => K (.int .u64 r1) w') w), (65, fun args w K Kp => unArgs [.one (.ptr), .one (.int .u64), .one (.int .u64)] args.toList fun x => c_arena_Map_cut x.1 x.2.1 x.2.2.1 (fun  w' => K (.tuple ⟨[]⟩) w') w)]) (ground Go.Proofs.Tryd.prog) ann36 body36 (finQ Go.Proofs.Tryd.prog Go.Proofs.Tryd.f36 K Kp) (initF (mkArgs [.one (.ptr), .one (.int .u64), .one (.int .u64), .one (.int .i64)] x)) w := by kernel_rfl
theorem tie36 (x : ArgsV [.one (.ptr), .one (.int .u64), .one (.int .u64), .one (.int .i64)]) (K Kp : Value → World → Prop) (w : World) : F.arena_Map_Set env x.1 x.2.1 x.2.2.1 x.2.2.2.1 (fun r1 w' => K (.int .i64 r1) w') w =
    ev Go.Proofs.Tryd.prog (tabC [(64, C64), (65, C65)]) (ground Go.Proofs.Tryd.prog) ann36 body36 (finQ Go.Proofs.Tryd.prog Go.Proofs.Tryd.f36 K Kp) (initF (mkArgs [.one (.ptr), .one (.int .u64), .one (.int .u64), .one (.int .i64)] x)) w := tieZ36 (F.stretch_Set_Count env) (F.arena_Map_cut env) x K Kp w
theorem fits36 : FitsOne Go.Proofs.Tryd.prog 36 C36 :=
  fits_of_tie (T := [(64, C64), (65, C65)]) (A := ann36) (fn := Go.Proofs.Tryd.f36) (c := body36) (fits_cons fits64 (fits_cons fits65 fits_nil)) mixed Go.Proofs.Tryd.func36 Go.Proofs.Tryd.call36 (by kernel_rfl) (by kernel_rfl) (by kernel_rfl) tie36

/- F.mheap_Heap_keep -/
noncomputable def C26 : Entry := fun args w K Kp => unArgs [.one (.ptr), .one (.ptr)] args.toList fun x => F.mheap_Heap_keep env x.1 x.2.1 (fun r1 w' => K (.int .i64 r1) w') w
noncomputable def body26 : Code := (Go.Proofs.Tryd.f26.body).getD .skip
def ann26 : Ann := { loops := [], joins := [] }
def T0.mheap_Heap_keep (E : Env) (c_fix_Fix_Take : ∀ (a0 : (Option Addr)) (K : Int → World → Prop) (w : World), Prop) (c_span_Span_Info : ∀ (a0 : (Option Addr)) (K : Int → Int → Int → Int → Bool → Int → Int → Int → Bool → Bool → World → Prop) (w : World), Prop) (c_arena_Map_Set : ∀ (a0 : (Option Addr)) (a1 : Int) (a2 : Int) (a3 : Int) (K : Int → World → Prop) (w : World), Prop) (a0 : (Option Addr)) (a1 : (Option Addr)) (K : Int → World → Prop) (w : World) : Prop :=
  NC a0 fun p1 =>
  ∃ x2 : (Option Addr), w.cell? (p1.add 3) = some (.pointer x2) ∧
  c_fix_Fix_Take x2 (fun r3 w4 =>
  NC a0 fun p5 =>
  ∃ x6 : (Option Nat), w4.cell? (p5.add 4) = some (.map x6) ∧
  MUPD .i64 r3 (.pointer a1) x6 w4 fun w7 =>
  c_span_Span_Info a1 (fun r8 r9 r10 r11 r12 r13 r14 r15 r16 r17 w18 =>
  AL (.cells #[.int .u64 0, .int .i64 0, .int .i64 0, .int .i64 0, .bool false, .int .i64 0, .int .i64 0, .int .i64 0, .bool false, .bool false] E.t_api_Info) w18 fun b19 w20 =>
  stCells (Addr.mk b19 0 none) 0 [.int .u64 r8, .int .i64 r9, .int .i64 r10, .int .i64 r11, .bool r12, .int .i64 r13, .int .i64 r14, .int .i64 r15, .bool r16, .bool r17] w20 fun w21 =>
  NC a0 fun p22 =>
  ∃ x23 : (Option Addr), w21.drew.cell? (p22.add 2) = some (.pointer x23) ∧
  ∃ x24 : Int, w21.drew.cell? (Addr.mk b19 0 none) = some (.int .u64 x24) ∧
  8192 ≠ (0 : Int) ∧
  ∃ x25 : Int, w21.drew.cell? ((Addr.mk b19 0 none).add 1) = some (.int .i64 x25) ∧
  c_arena_Map_Set x23 (u64 (Int.tdiv x24 8192)) (u64 (x25)) r3 (fun r26 w27 =>
  w27.cell? ((Addr.mk b19 0 none).add 1) = some (.int .i64 x25) ∧
  w27.cell? (Addr.mk b19 0 none) = some (.int .u64 x24) ∧
  NC a0 fun p28 =>
  ∃ x29 : Int, w27.drew.cell? (p28.add 70) = some (.int .u64 x29) ∧
  ∃ x30 : Int, w27.drew.cell? ((Addr.mk b19 0 none).add 1) = some (.int .i64 x30) ∧
  NC a0 fun p31 =>
  stCells (p31.add 70) 0 [.int .u64 (u64 (x29 + (u64 (x30))))] w27.drew fun w32 =>
  K r3 w32
  ) w21.drew
  ) w7
  ) w

theorem tieZ26 (c_fix_Fix_Take : ∀ (a0 : (Option Addr)) (K : Int → World → Prop) (w : World), Prop) (c_span_Span_Info : ∀ (a0 : (Option Addr)) (K : Int → Int → Int → Int → Bool → Int → Int → Int → Bool → Bool → World → Prop) (w : World), Prop) (c_arena_Map_Set : ∀ (a0 : (Option Addr)) (a1 : Int) (a2 : Int) (a3 : Int) (K : Int → World → Prop) (w : World), Prop) (x : ArgsV [.one (.ptr), .one (.ptr)]) (K Kp : Value → World → Prop) (w : World) : T0.mheap_Heap_keep env c_fix_Fix_Take c_span_Span_Info c_arena_Map_Set x.1 x.2.1 (fun r1 w' => K (.int .i64 r1) w') w =
    ev Go.Proofs.Tryd.prog (tabC [(54, fun args w K Kp => unArgs [.one (.ptr)] args.toList fun x => c_fix_Fix_Take x.1 (fun r1 w' => K (.int .i64 r1) w') w), (10, fun args w K Kp => unArgs [.one (.ptr)] args.toList fun x => c_span_Span_Info x.1 (fun r1 r2 r3 r4 r5 r6 r7 r8 r9 r10 w' => K (.agg ⟨[.int .u64 r1, .int .i64 r2, .int .i64 r3, .int .i64 r4, .bool r5, .int .i64 r6, .int .i64 r7, .int .i64 r8, .bool r9, .bool r10]⟩) w') w), (36, fun args w K Kp => unArgs [.one (.ptr), .one (.int .u64), .one (.int .u64), .one (.int .i64)] args.toList fun x => c_arena_Map_Set x.1 x.2.1 x.2.2.1 x.2.2.2.1 (fun r1 w' => K (.int .i64 r1) w') w)]) (ground Go.Proofs.Tryd.prog) ann26 body26 (finQ Go.Proofs.Tryd.prog Go.Proofs.Tryd.f26 K Kp) (initF (mkArgs [.one (.ptr), .one (.ptr)] x)) w := by kernel_rfl
theorem tie26 (x : ArgsV [.one (.ptr), .one (.ptr)]) (K Kp : Value → World → Prop) (w : World) : F.mheap_Heap_keep env x.1 x.2.1 (fun r1 w' => K (.int .i64 r1) w') w =
    ev Go.Proofs.Tryd.prog (tabC [(54, C54), (10, C10), (36, C36)]) (ground Go.Proofs.Tryd.prog) ann26 body26 (finQ Go.Proofs.Tryd.prog Go.Proofs.Tryd.f26 K Kp) (initF (mkArgs [.one (.ptr), .one (.ptr)] x)) w := tieZ26 (F.fix_Fix_Take env) (F.span_Span_Info env) (F.arena_Map_Set env) x K Kp w
theorem fits26 : FitsOne Go.Proofs.Tryd.prog 26 C26 :=
  fits_of_tie (T := [(54, C54), (10, C10), (36, C36)]) (A := ann26) (fn := Go.Proofs.Tryd.f26) (c := body26) (fits_cons fits54 (fits_cons fits10 (fits_cons fits36 fits_nil))) mixed Go.Proofs.Tryd.func26 Go.Proofs.Tryd.call26 (by kernel_rfl) (by kernel_rfl) (by kernel_rfl) tie26

/- F.mheap_Heap_Alloc -/
noncomputable def C8 : Entry := fun args w K Kp => unArgs [.one (.ptr), .one (.int .i64), .one (.int .u64), .one (.int .i64), .one (.bool)] args.toList fun x => F.mheap_Heap_Alloc env x.1 x.2.1 x.2.2.1 x.2.2.2.1 x.2.2.2.2.1 (fun r1 r2 w' => K (.tuple ⟨[.int .i64 r1, .int .i64 r2]⟩) w') w
noncomputable def body8 : Code := (Go.Proofs.Tryd.f8.body).getD .skip
def ann8 : Ann := { loops := [], joins := [] }
def T0.mheap_Heap_Alloc (E : Env) (c_span_New : ∀ (a0 : Int) (a1 : Int) (a2 : Int) (a3 : Bool) (K : (Option Addr) → Int → World → Prop) (w : World), Prop) (c_mheap_Heap_find : ∀ (a0 : (Option Addr)) (a1 : Int) (a2 : Int) (K : Int → Int → World → Prop) (w : World), Prop) (c_mheap_Heap_keep : ∀ (a0 : (Option Addr)) (a1 : (Option Addr)) (K : Int → World → Prop) (w : World), Prop) (a0 : (Option Addr)) (a1 : Int) (a2 : Int) (a3 : Int) (a4 : Bool) (K : Int → Int → World → Prop) (w : World) : Prop :=
  c_span_New 0 a2 a3 a4 (fun r1 r2 w3 =>
  CND ((r2 : Int) != 0) (
    K 0 1 w3
  ) (
    c_mheap_Heap_find a0 a1 a2 (fun r4 r5 w6 =>
    CND ((r5 : Int) != 0) (
      K 0 r5 w6
    ) (
      c_span_New r4 a2 a3 a4 (fun r7 r8 w9 =>
      c_mheap_Heap_keep a0 r7 (fun r10 w11 =>
      K r10 0 w11
      ) w9
      ) w6
    )
    ) w3
  )
  ) w

theorem tieZ8 (c_span_New : ∀ (a0 : Int) (a1 : Int) (a2 : Int) (a3 : Bool) (K : (Option Addr) → Int → World → Prop) (w : World), Prop) (c_mheap_Heap_find : ∀ (a0 : (Option Addr)) (a1 : Int) (a2 : Int) (K : Int → Int → World → Prop) (w : World), Prop) (c_mheap_Heap_keep : ∀ (a0 : (Option Addr)) (a1 : (Option Addr)) (K : Int → World → Prop) (w : World), Prop) (x : ArgsV [.one (.ptr), .one (.int .i64), .one (.int .u64), .one (.int .i64), .one (.bool)]) (K Kp : Value → World → Prop) (w : World) : T0.mheap_Heap_Alloc env c_span_New c_mheap_Heap_find c_mheap_Heap_keep x.1 x.2.1 x.2.2.1 x.2.2.2.1 x.2.2.2.2.1 (fun r1 r2 w' => K (.tuple ⟨[.int .i64 r1, .int .i64 r2]⟩) w') w =
    ev Go.Proofs.Tryd.prog (tabC [(24, fun args w K Kp => unArgs [.one (.int .u64), .one (.int .u64), .one (.int .i64), .one (.bool)] args.toList fun x => c_span_New x.1 x.2.1 x.2.2.1 x.2.2.2.1 (fun r1 r2 w' => K (.tuple ⟨[.pointer r1, .int .i64 r2]⟩) w') w), (25, fun args w K Kp => unArgs [.one (.ptr), .one (.int .i64), .one (.int .u64)] args.toList fun x => c_mheap_Heap_find x.1 x.2.1 x.2.2.1 (fun r1 r2 w' => K (.tuple ⟨[.int .u64 r1, .int .i64 r2]⟩) w') w), (26, fun args w K Kp => unArgs [.one (.ptr), .one (.ptr)] args.toList fun x => c_mheap_Heap_keep x.1 x.2.1 (fun r1 w' => K (.int .i64 r1) w') w)]) (ground Go.Proofs.Tryd.prog) ann8 body8 (finQ Go.Proofs.Tryd.prog Go.Proofs.Tryd.f8 K Kp) (initF (mkArgs [.one (.ptr), .one (.int .i64), .one (.int .u64), .one (.int .i64), .one (.bool)] x)) w := by kernel_rfl
theorem tie8 (x : ArgsV [.one (.ptr), .one (.int .i64), .one (.int .u64), .one (.int .i64), .one (.bool)]) (K Kp : Value → World → Prop) (w : World) : F.mheap_Heap_Alloc env x.1 x.2.1 x.2.2.1 x.2.2.2.1 x.2.2.2.2.1 (fun r1 r2 w' => K (.tuple ⟨[.int .i64 r1, .int .i64 r2]⟩) w') w =
    ev Go.Proofs.Tryd.prog (tabC [(24, C24), (25, C25), (26, C26)]) (ground Go.Proofs.Tryd.prog) ann8 body8 (finQ Go.Proofs.Tryd.prog Go.Proofs.Tryd.f8 K Kp) (initF (mkArgs [.one (.ptr), .one (.int .i64), .one (.int .u64), .one (.int .i64), .one (.bool)] x)) w := tieZ8 (F.span_New env) (F.mheap_Heap_find env) (F.mheap_Heap_keep env) x K Kp w
theorem fits8 : FitsOne Go.Proofs.Tryd.prog 8 C8 :=
  fits_of_tie (T := [(24, C24), (25, C25), (26, C26)]) (A := ann8) (fn := Go.Proofs.Tryd.f8) (c := body8) (fits_cons fits24 (fits_cons fits25 (fits_cons fits26 fits_nil))) mixed Go.Proofs.Tryd.func8 Go.Proofs.Tryd.call8 (by kernel_rfl) (by kernel_rfl) (by kernel_rfl) tie8

/- F.mheap_Heap_Span -/
noncomputable def C9 : Entry := fun args w K Kp => unArgs [.one (.ptr), .one (.int .i64)] args.toList fun x => F.mheap_Heap_Span env x.1 x.2.1 (fun r1 r2 w' => K (.tuple ⟨[.pointer r1, .int .i64 r2]⟩) w') w
noncomputable def body9 : Code := (Go.Proofs.Tryd.f9.body).getD .skip
def ann9 : Ann := { loops := [], joins := [] }
theorem tie9 (x : ArgsV [.one (.ptr), .one (.int .i64)]) (K Kp : Value → World → Prop) (w : World) : F.mheap_Heap_Span env x.1 x.2.1 (fun r1 r2 w' => K (.tuple ⟨[.pointer r1, .int .i64 r2]⟩) w') w =
    ev Go.Proofs.Tryd.prog (tabC []) (ground Go.Proofs.Tryd.prog) ann9 body9 (finQ Go.Proofs.Tryd.prog Go.Proofs.Tryd.f9 K Kp) (initF (mkArgs [.one (.ptr), .one (.int .i64)] x)) w := by kernel_rfl
theorem fits9 : FitsOne Go.Proofs.Tryd.prog 9 C9 :=
  fits_of_tie (T := []) (A := ann9) (fn := Go.Proofs.Tryd.f9) (c := body9) fits_nil mixed Go.Proofs.Tryd.func9 Go.Proofs.Tryd.call9 (by kernel_rfl) (by kernel_rfl) (by kernel_rfl) tie9

/- F.stretch_Set_Has -/
noncomputable def C55 : Entry := fun args w K Kp => unArgs [.one (.ptr), .one (.int .u64)] args.toList fun x => F.stretch_Set_Has env x.1 x.2.1 (fun r1 w' => K (.bool r1) w') w
noncomputable def body55 : Code := (Go.Proofs.Tryd.f55.body).getD .skip
def ann55 : Ann := { loops := [], joins := [] }
def T0.stretch_Set_Has (E : Env) (c_stretch_Set_at : ∀ (a0 : (Option Addr)) (a1 : Int) (K : Int → World → Prop) (w : World), Prop) (a0 : (Option Addr)) (a1 : Int) (K : Bool → World → Prop) (w : World) : Prop :=
  c_stretch_Set_at a0 a1 (fun r1 w2 =>
  NC a0 fun p3 =>
  ∃ x4 : SlV, w2.cell? p3 = some (.slice x4.base x4.len x4.cap) ∧
  CND (decide ((r1 : Int) < ((x4.len : Nat) : Int))) (
    NC a0 fun p5 =>
    ∃ x6 : SlV, w2.cell? p5 = some (.slice x6.base x6.len x6.cap) ∧
    NC x6.base fun p7 =>
    ((0 : Int) ≤ r1 ∧ (r1 : Int) < (x6.len : Nat)) ∧
    ∃ x8 : Int, w2.cell? (p7.add (Int.toNat r1 * 2)) = some (.int .u64 x8) ∧
    K (decide ((x8 : Int) ≤ a1)) w2
  ) (
    K false w2
  )
  ) w

theorem tieZ55 (c_stretch_Set_at : ∀ (a0 : (Option Addr)) (a1 : Int) (K : Int → World → Prop) (w : World), Prop) (x : ArgsV [.one (.ptr), .one (.int .u64)]) (K Kp : Value → World → Prop) (w : World) : T0.stretch_Set_Has env c_stretch_Set_at x.1 x.2.1 (fun r1 w' => K (.bool r1) w') w =
    ev Go.Proofs.Tryd.prog (tabC [(85, fun args w K Kp => unArgs [.one (.ptr), .one (.int .u64)] args.toList fun x => c_stretch_Set_at x.1 x.2.1 (fun r1 w' => K (.int .i64 r1) w') w)]) (ground Go.Proofs.Tryd.prog) ann55 body55 (finQ Go.Proofs.Tryd.prog Go.Proofs.Tryd.f55 K Kp) (initF (mkArgs [.one (.ptr), .one (.int .u64)] x)) w := by kernel_rfl
theorem tie55 (x : ArgsV [.one (.ptr), .one (.int .u64)]) (K Kp : Value → World → Prop) (w : World) : F.stretch_Set_Has env x.1 x.2.1 (fun r1 w' => K (.bool r1) w') w =
    ev Go.Proofs.Tryd.prog (tabC [(85, C85)]) (ground Go.Proofs.Tryd.prog) ann55 body55 (finQ Go.Proofs.Tryd.prog Go.Proofs.Tryd.f55 K Kp) (initF (mkArgs [.one (.ptr), .one (.int .u64)] x)) w := tieZ55 (F.stretch_Set_at env) x K Kp w
theorem fits55 : FitsOne Go.Proofs.Tryd.prog 55 C55 :=
  fits_of_tie (T := [(85, C85)]) (A := ann55) (fn := Go.Proofs.Tryd.f55) (c := body55) (fits_cons fits85 fits_nil) mixed Go.Proofs.Tryd.func55 Go.Proofs.Tryd.call55 (by kernel_rfl) (by kernel_rfl) (by kernel_rfl) tie55

/- F.arena_Map_Has -/
noncomputable def C27 : Entry := fun args w K Kp => unArgs [.one (.ptr), .one (.int .u64)] args.toList fun x => F.arena_Map_Has env x.1 x.2.1 (fun r1 w' => K (.bool r1) w') w
noncomputable def body27 : Code := (Go.Proofs.Tryd.f27.body).getD .skip
def ann27 : Ann := { loops := [], joins := [] }
def T0.arena_Map_Has (E : Env) (c_stretch_Set_Has : ∀ (a0 : (Option Addr)) (a1 : Int) (K : Bool → World → Prop) (w : World), Prop) (a0 : (Option Addr)) (a1 : Int) (K : Bool → World → Prop) (w : World) : Prop :=
  NC a0 fun p1 =>
  4194304 ≠ (0 : Int) ∧
  c_stretch_Set_Has (some p1) (u64 (Int.tdiv a1 4194304)) (fun r2 w3 =>
  K r2 w3
  ) w

theorem tieZ27 (c_stretch_Set_Has : ∀ (a0 : (Option Addr)) (a1 : Int) (K : Bool → World → Prop) (w : World), Prop) (x : ArgsV [.one (.ptr), .one (.int .u64)]) (K Kp : Value → World → Prop) (w : World) : T0.arena_Map_Has env c_stretch_Set_Has x.1 x.2.1 (fun r1 w' => K (.bool r1) w') w =
    ev Go.Proofs.Tryd.prog (tabC [(55, fun args w K Kp => unArgs [.one (.ptr), .one (.int .u64)] args.toList fun x => c_stretch_Set_Has x.1 x.2.1 (fun r1 w' => K (.bool r1) w') w)]) (ground Go.Proofs.Tryd.prog) ann27 body27 (finQ Go.Proofs.Tryd.prog Go.Proofs.Tryd.f27 K Kp) (initF (mkArgs [.one (.ptr), .one (.int .u64)] x)) w := by kernel_rfl
theorem tie27 (x : ArgsV [.one (.ptr), .one (.int .u64)]) (K Kp : Value → World → Prop) (w : World) : F.arena_Map_Has env x.1 x.2.1 (fun r1 w' => K (.bool r1) w') w =
    ev Go.Proofs.Tryd.prog (tabC [(55, C55)]) (ground Go.Proofs.Tryd.prog) ann27 body27 (finQ Go.Proofs.Tryd.prog Go.Proofs.Tryd.f27 K Kp) (initF (mkArgs [.one (.ptr), .one (.int .u64)] x)) w := tieZ27 (F.stretch_Set_Has env) x K Kp w
theorem fits27 : FitsOne Go.Proofs.Tryd.prog 27 C27 :=
  fits_of_tie (T := [(55, C55)]) (A := ann27) (fn := Go.Proofs.Tryd.f27) (c := body27) (fits_cons fits55 fits_nil) mixed Go.Proofs.Tryd.func27 Go.Proofs.Tryd.call27 (by kernel_rfl) (by kernel_rfl) (by kernel_rfl) tie27

/- F.arena_Map_whole -/
noncomputable def C57 : Entry := fun args w K Kp => unArgs [.one (.ptr), .one (.int .u64)] args.toList fun x => F.arena_Map_whole env x.1 x.2.1 (fun r1 w' => K (.int .i64 r1) w') w
noncomputable def body57 : Code := (Go.Proofs.Tryd.f57.body).getD .skip
def ann57 : Ann := { loops := [(2, [(12, .one (.int .i64))])], joins := [(5, [(25, .one (.bool))])] }
theorem tie57 (x : ArgsV [.one (.ptr), .one (.int .u64)]) (K Kp : Value → World → Prop) (w : World) : F.arena_Map_whole env x.1 x.2.1 (fun r1 w' => K (.int .i64 r1) w') w =
    ev Go.Proofs.Tryd.prog (tabC []) (ground Go.Proofs.Tryd.prog) ann57 body57 (finQ Go.Proofs.Tryd.prog Go.Proofs.Tryd.f57 K Kp) (initF (mkArgs [.one (.ptr), .one (.int .u64)] x)) w := by kernel_rfl
theorem fits57 : FitsOne Go.Proofs.Tryd.prog 57 C57 :=
  fits_of_tie (T := []) (A := ann57) (fn := Go.Proofs.Tryd.f57) (c := body57) fits_nil mixed Go.Proofs.Tryd.func57 Go.Proofs.Tryd.call57 (by kernel_rfl) (by kernel_rfl) (by kernel_rfl) tie57

/- F.arena_Map_At -/
noncomputable def C29 : Entry := fun args w K Kp => unArgs [.one (.ptr), .one (.int .u64)] args.toList fun x => F.arena_Map_At env x.1 x.2.1 (fun r1 w' => K (.int .i64 r1) w') w
noncomputable def body29 : Code := (Go.Proofs.Tryd.f29.body).getD .skip
def ann29 : Ann := { loops := [], joins := [] }
def T0.arena_Map_At (E : Env) (c_arena_Map_whole : ∀ (a0 : (Option Addr)) (a1 : Int) (K : Int → World → Prop) (w : World), Prop) (a0 : (Option Addr)) (a1 : Int) (K : Int → World → Prop) (w : World) : Prop :=
  8192 ≠ (0 : Int) ∧
  NC a0 fun p1 =>
  ∃ x2 : (Option Nat), w.cell? (p1.add 3) = some (.map x2) ∧
  512 ≠ (0 : Int) ∧
  LKP .u64 (u64 (Int.tdiv (u64 (Int.tdiv a1 8192)) 512)) x2 w (.pointer none) fun v3 ok4 es5 =>
  ∃ x6 : (Option Addr), v3 = .pointer x6 ∧
  CND (!x6.isNone) (
    512 ≠ (0 : Int) ∧
    NC x6 fun p7 =>
    ((0 : Int) ≤ (Int.tmod (u64 (Int.tdiv a1 8192)) 512) ∧ ((Int.tmod (u64 (Int.tdiv a1 8192)) 512) : Int) < (512 : Nat)) ∧
    ∃ x8 : Int, w.cell? (p7.add (Int.toNat (Int.tmod (u64 (Int.tdiv a1 8192)) 512) * 1)) = some (.int .i64 x8) ∧
    K x8 w
  ) (
    512 ≠ (0 : Int) ∧
    c_arena_Map_whole a0 (u64 (Int.tdiv (u64 (Int.tdiv a1 8192)) 512)) (fun r9 w10 =>
    K r9 w10
    ) w
  )

theorem tieZ29 (c_arena_Map_whole : ∀ (a0 : (Option Addr)) (a1 : Int) (K : Int → World → Prop) (w : World), Prop) (x : ArgsV [.one (.ptr), .one (.int .u64)]) (K Kp : Value → World → Prop) (w : World) : T0.arena_Map_At env c_arena_Map_whole x.1 x.2.1 (fun r1 w' => K (.int .i64 r1) w') w =
    ev Go.Proofs.Tryd.prog (tabC [(57, fun args w K Kp => unArgs [.one (.ptr), .one (.int .u64)] args.toList fun x => c_arena_Map_whole x.1 x.2.1 (fun r1 w' => K (.int .i64 r1) w') w)]) (ground Go.Proofs.Tryd.prog) ann29 body29 (finQ Go.Proofs.Tryd.prog Go.Proofs.Tryd.f29 K Kp) (initF (mkArgs [.one (.ptr), .one (.int .u64)] x)) w := by kernel_rfl
theorem tie29 (x : ArgsV [.one (.ptr), .one (.int .u64)]) (K Kp : Value → World → Prop) (w : World) : F.arena_Map_At env x.1 x.2.1 (fun r1 w' => K (.int .i64 r1) w') w =
    ev Go.Proofs.Tryd.prog (tabC [(57, C57)]) (ground Go.Proofs.Tryd.prog) ann29 body29 (finQ Go.Proofs.Tryd.prog Go.Proofs.Tryd.f29 K Kp) (initF (mkArgs [.one (.ptr), .one (.int .u64)] x)) w := tieZ29 (F.arena_Map_whole env) x K Kp w
theorem fits29 : FitsOne Go.Proofs.Tryd.prog 29 C29 :=
  fits_of_tie (T := [(57, C57)]) (A := ann29) (fn := Go.Proofs.Tryd.f29) (c := body29) (fits_cons fits57 fits_nil) mixed Go.Proofs.Tryd.func29 Go.Proofs.Tryd.call29 (by kernel_rfl) (by kernel_rfl) (by kernel_rfl) tie29

/- F.mheap_Heap_Of -/
noncomputable def C12 : Entry := fun args w K Kp => unArgs [.one (.ptr), .one (.int .u64)] args.toList fun x => F.mheap_Heap_Of env x.1 x.2.1 (fun r1 w' => K (.int .i64 r1) w') w
noncomputable def body12 : Code := (Go.Proofs.Tryd.f12.body).getD .skip
def ann12 : Ann := { loops := [], joins := [] }
def T0.mheap_Heap_Of (E : Env) (c_arena_Map_At : ∀ (a0 : (Option Addr)) (a1 : Int) (K : Int → World → Prop) (w : World), Prop) (a0 : (Option Addr)) (a1 : Int) (K : Int → World → Prop) (w : World) : Prop :=
  NC a0 fun p1 =>
  ∃ x2 : (Option Addr), w.cell? (p1.add 2) = some (.pointer x2) ∧
  c_arena_Map_At x2 a1 (fun r3 w4 =>
  K r3 w4
  ) w

theorem tieZ12 (c_arena_Map_At : ∀ (a0 : (Option Addr)) (a1 : Int) (K : Int → World → Prop) (w : World), Prop) (x : ArgsV [.one (.ptr), .one (.int .u64)]) (K Kp : Value → World → Prop) (w : World) : T0.mheap_Heap_Of env c_arena_Map_At x.1 x.2.1 (fun r1 w' => K (.int .i64 r1) w') w =
    ev Go.Proofs.Tryd.prog (tabC [(29, fun args w K Kp => unArgs [.one (.ptr), .one (.int .u64)] args.toList fun x => c_arena_Map_At x.1 x.2.1 (fun r1 w' => K (.int .i64 r1) w') w)]) (ground Go.Proofs.Tryd.prog) ann12 body12 (finQ Go.Proofs.Tryd.prog Go.Proofs.Tryd.f12 K Kp) (initF (mkArgs [.one (.ptr), .one (.int .u64)] x)) w := by kernel_rfl
theorem tie12 (x : ArgsV [.one (.ptr), .one (.int .u64)]) (K Kp : Value → World → Prop) (w : World) : F.mheap_Heap_Of env x.1 x.2.1 (fun r1 w' => K (.int .i64 r1) w') w =
    ev Go.Proofs.Tryd.prog (tabC [(29, C29)]) (ground Go.Proofs.Tryd.prog) ann12 body12 (finQ Go.Proofs.Tryd.prog Go.Proofs.Tryd.f12 K Kp) (initF (mkArgs [.one (.ptr), .one (.int .u64)] x)) w := tieZ12 (F.arena_Map_At env) x K Kp w
theorem fits12 : FitsOne Go.Proofs.Tryd.prog 12 C12 :=
  fits_of_tie (T := [(29, C29)]) (A := ann12) (fn := Go.Proofs.Tryd.f12) (c := body12) (fits_cons fits29 fits_nil) mixed Go.Proofs.Tryd.func12 Go.Proofs.Tryd.call12 (by kernel_rfl) (by kernel_rfl) (by kernel_rfl) tie12

/- F.pcache_Cache_Tell -/
noncomputable def C28 : Entry := fun args w K Kp => unArgs [.one (.ptr)] args.toList fun x => F.pcache_Cache_Tell env x.1 (fun r1 r2 r3 w' => K (.tuple ⟨[.int .u64 r1, .int .u64 r2, .int .u64 r3]⟩) w') w
noncomputable def body28 : Code := (Go.Proofs.Tryd.f28.body).getD .skip
def ann28 : Ann := { loops := [], joins := [] }
def T0.pcache_Cache_Tell (E : Env) (c_pcache_Cache_Empty : ∀ (a0 : (Option Addr)) (K : Bool → World → Prop) (w : World), Prop) (a0 : (Option Addr)) (K : Int → Int → Int → World → Prop) (w : World) : Prop :=
  c_pcache_Cache_Empty a0 (fun r1 w2 =>
  CND (r1) (
    K 0 0 0 w2
  ) (
    NC a0 fun p3 =>
    ∃ x4 : Int, w2.drew.cell? p3 = some (.int .u64 x4) ∧
    NC a0 fun p5 =>
    ∃ x6 : Int, w2.drew.cell? (p5.add 1) = some (.int .u64 x6) ∧
    NC a0 fun p7 =>
    ∃ x8 : Int, w2.drew.cell? (p7.add 2) = some (.int .u64 x8) ∧
    K x4 x6 x8 w2.drew
  )
  ) w

theorem tieZ28 (c_pcache_Cache_Empty : ∀ (a0 : (Option Addr)) (K : Bool → World → Prop) (w : World), Prop) (x : ArgsV [.one (.ptr)]) (K Kp : Value → World → Prop) (w : World) : T0.pcache_Cache_Tell env c_pcache_Cache_Empty x.1 (fun r1 r2 r3 w' => K (.tuple ⟨[.int .u64 r1, .int .u64 r2, .int .u64 r3]⟩) w') w =
    ev Go.Proofs.Tryd.prog (tabC [(56, fun args w K Kp => unArgs [.one (.ptr)] args.toList fun x => c_pcache_Cache_Empty x.1 (fun r1 w' => K (.bool r1) w') w)]) (ground Go.Proofs.Tryd.prog) ann28 body28 (finQ Go.Proofs.Tryd.prog Go.Proofs.Tryd.f28 K Kp) (initF (mkArgs [.one (.ptr)] x)) w := by kernel_rfl
theorem tie28 (x : ArgsV [.one (.ptr)]) (K Kp : Value → World → Prop) (w : World) : F.pcache_Cache_Tell env x.1 (fun r1 r2 r3 w' => K (.tuple ⟨[.int .u64 r1, .int .u64 r2, .int .u64 r3]⟩) w') w =
    ev Go.Proofs.Tryd.prog (tabC [(56, C56)]) (ground Go.Proofs.Tryd.prog) ann28 body28 (finQ Go.Proofs.Tryd.prog Go.Proofs.Tryd.f28 K Kp) (initF (mkArgs [.one (.ptr)] x)) w := tieZ28 (F.pcache_Cache_Empty env) x K Kp w
theorem fits28 : FitsOne Go.Proofs.Tryd.prog 28 C28 :=
  fits_of_tie (T := [(56, C56)]) (A := ann28) (fn := Go.Proofs.Tryd.f28) (c := body28) (fits_cons fits56 fits_nil) mixed Go.Proofs.Tryd.func28 Go.Proofs.Tryd.call28 (by kernel_rfl) (by kernel_rfl) (by kernel_rfl) tie28

/- F.mheap_Heap_Owner -/
noncomputable def C11 : Entry := fun args w K Kp => unArgs [.one (.ptr), .one (.int .u64)] args.toList fun x => F.mheap_Heap_Owner env x.1 x.2.1 (fun r1 r2 w' => K (.tuple ⟨[.int .i64 r1, .int .i64 r2]⟩) w') w
noncomputable def body11 : Code := (Go.Proofs.Tryd.f11.body).getD .skip
def ann11 : Ann := { loops := [(7, [(35, .one (.int .i64))])], joins := [(2, [(23, .one (.bool))]), (11, [(62, .one (.bool))])] }
def T0.mheap_Heap_Owner (E : Env) (c_arena_Map_Has : ∀ (a0 : (Option Addr)) (a1 : Int) (K : Bool → World → Prop) (w : World), Prop) (c_mheap_Heap_Of : ∀ (a0 : (Option Addr)) (a1 : Int) (K : Int → World → Prop) (w : World), Prop) (c_pcache_Cache_Tell : ∀ (a0 : (Option Addr)) (K : Int → Int → Int → World → Prop) (w : World), Prop) (a0 : (Option Addr)) (a1 : Int) (K : Int → Int → World → Prop) (w : World) : Prop :=
  JOIN (Bool × Unit) (fun J1 =>
    CND (decide ((a1 : Int) ≥ 34359738368)) (
      J1 (true, ()) w
    ) (
      NC a0 fun p4 =>
      ∃ x5 : (Option Addr), w.cell? (p4.add 2) = some (.pointer x5) ∧
      c_arena_Map_Has x5 (u64 (a1 * 8192)) (fun r6 w7 =>
      J1 (!r6, ()) w7
      ) w
    )
  ) fun s2 _ w3 =>
    CND (s2.1) (
      K 0 0 w3
    ) (
      c_mheap_Heap_Of a0 (u64 (a1 * 8192)) (fun r8 w9 =>
      CND (decide ((r8 : Int) > 0)) (
        K 3 r8 w9
      ) (
        NC a0 fun p10 =>
        ∃ c11 : (Option Addr), w9.cell? ((p10.add 5).add 0) = some (.pointer c11) ∧
        ∃ c12 : (Option Addr), w9.cell? ((p10.add 5).add 1) = some (.pointer c12) ∧
        ∃ c13 : (Option Addr), w9.cell? ((p10.add 5).add 2) = some (.pointer c13) ∧
        ∃ c14 : (Option Addr), w9.cell? ((p10.add 5).add 3) = some (.pointer c14) ∧
        ∃ c15 : (Option Addr), w9.cell? ((p10.add 5).add 4) = some (.pointer c15) ∧
        ∃ c16 : (Option Addr), w9.cell? ((p10.add 5).add 5) = some (.pointer c16) ∧
        ∃ c17 : (Option Addr), w9.cell? ((p10.add 5).add 6) = some (.pointer c17) ∧
        ∃ c18 : (Option Addr), w9.cell? ((p10.add 5).add 7) = some (.pointer c18) ∧
        ∃ c19 : (Option Addr), w9.cell? ((p10.add 5).add 8) = some (.pointer c19) ∧
        ∃ c20 : (Option Addr), w9.cell? ((p10.add 5).add 9) = some (.pointer c20) ∧
        ∃ c21 : (Option Addr), w9.cell? ((p10.add 5).add 10) = some (.pointer c21) ∧
        ∃ c22 : (Option Addr), w9.cell? ((p10.add 5).add 11) = some (.pointer c22) ∧
        ∃ c23 : (Option Addr), w9.cell? ((p10.add 5).add 12) = some (.pointer c23) ∧
        ∃ c24 : (Option Addr), w9.cell? ((p10.add 5).add 13) = some (.pointer c24) ∧
        ∃ c25 : (Option Addr), w9.cell? ((p10.add 5).add 14) = some (.pointer c25) ∧
        ∃ c26 : (Option Addr), w9.cell? ((p10.add 5).add 15) = some (.pointer c26) ∧
        ∃ c27 : (Option Addr), w9.cell? ((p10.add 5).add 16) = some (.pointer c27) ∧
        ∃ c28 : (Option Addr), w9.cell? ((p10.add 5).add 17) = some (.pointer c28) ∧
        ∃ c29 : (Option Addr), w9.cell? ((p10.add 5).add 18) = some (.pointer c29) ∧
        ∃ c30 : (Option Addr), w9.cell? ((p10.add 5).add 19) = some (.pointer c30) ∧
        ∃ c31 : (Option Addr), w9.cell? ((p10.add 5).add 20) = some (.pointer c31) ∧
        ∃ c32 : (Option Addr), w9.cell? ((p10.add 5).add 21) = some (.pointer c32) ∧
        ∃ c33 : (Option Addr), w9.cell? ((p10.add 5).add 22) = some (.pointer c33) ∧
        ∃ c34 : (Option Addr), w9.cell? ((p10.add 5).add 23) = some (.pointer c34) ∧
        ∃ c35 : (Option Addr), w9.cell? ((p10.add 5).add 24) = some (.pointer c35) ∧
        ∃ c36 : (Option Addr), w9.cell? ((p10.add 5).add 25) = some (.pointer c36) ∧
        ∃ c37 : (Option Addr), w9.cell? ((p10.add 5).add 26) = some (.pointer c37) ∧
        ∃ c38 : (Option Addr), w9.cell? ((p10.add 5).add 27) = some (.pointer c38) ∧
        ∃ c39 : (Option Addr), w9.cell? ((p10.add 5).add 28) = some (.pointer c39) ∧
        ∃ c40 : (Option Addr), w9.cell? ((p10.add 5).add 29) = some (.pointer c40) ∧
        ∃ c41 : (Option Addr), w9.cell? ((p10.add 5).add 30) = some (.pointer c41) ∧
        ∃ c42 : (Option Addr), w9.cell? ((p10.add 5).add 31) = some (.pointer c42) ∧
        ∃ c43 : (Option Addr), w9.cell? ((p10.add 5).add 32) = some (.pointer c43) ∧
        ∃ c44 : (Option Addr), w9.cell? ((p10.add 5).add 33) = some (.pointer c44) ∧
        ∃ c45 : (Option Addr), w9.cell? ((p10.add 5).add 34) = some (.pointer c45) ∧
        ∃ c46 : (Option Addr), w9.cell? ((p10.add 5).add 35) = some (.pointer c46) ∧
        ∃ c47 : (Option Addr), w9.cell? ((p10.add 5).add 36) = some (.pointer c47) ∧
        ∃ c48 : (Option Addr), w9.cell? ((p10.add 5).add 37) = some (.pointer c48) ∧
        ∃ c49 : (Option Addr), w9.cell? ((p10.add 5).add 38) = some (.pointer c49) ∧
        ∃ c50 : (Option Addr), w9.cell? ((p10.add 5).add 39) = some (.pointer c50) ∧
        ∃ c51 : (Option Addr), w9.cell? ((p10.add 5).add 40) = some (.pointer c51) ∧
        ∃ c52 : (Option Addr), w9.cell? ((p10.add 5).add 41) = some (.pointer c52) ∧
        ∃ c53 : (Option Addr), w9.cell? ((p10.add 5).add 42) = some (.pointer c53) ∧
        ∃ c54 : (Option Addr), w9.cell? ((p10.add 5).add 43) = some (.pointer c54) ∧
        ∃ c55 : (Option Addr), w9.cell? ((p10.add 5).add 44) = some (.pointer c55) ∧
        ∃ c56 : (Option Addr), w9.cell? ((p10.add 5).add 45) = some (.pointer c56) ∧
        ∃ c57 : (Option Addr), w9.cell? ((p10.add 5).add 46) = some (.pointer c57) ∧
        ∃ c58 : (Option Addr), w9.cell? ((p10.add 5).add 47) = some (.pointer c58) ∧
        ∃ c59 : (Option Addr), w9.cell? ((p10.add 5).add 48) = some (.pointer c59) ∧
        ∃ c60 : (Option Addr), w9.cell? ((p10.add 5).add 49) = some (.pointer c60) ∧
        ∃ c61 : (Option Addr), w9.cell? ((p10.add 5).add 50) = some (.pointer c61) ∧
        ∃ c62 : (Option Addr), w9.cell? ((p10.add 5).add 51) = some (.pointer c62) ∧
        ∃ c63 : (Option Addr), w9.cell? ((p10.add 5).add 52) = some (.pointer c63) ∧
        ∃ c64 : (Option Addr), w9.cell? ((p10.add 5).add 53) = some (.pointer c64) ∧
        ∃ c65 : (Option Addr), w9.cell? ((p10.add 5).add 54) = some (.pointer c65) ∧
        ∃ c66 : (Option Addr), w9.cell? ((p10.add 5).add 55) = some (.pointer c66) ∧
        ∃ c67 : (Option Addr), w9.cell? ((p10.add 5).add 56) = some (.pointer c67) ∧
        ∃ c68 : (Option Addr), w9.cell? ((p10.add 5).add 57) = some (.pointer c68) ∧
        ∃ c69 : (Option Addr), w9.cell? ((p10.add 5).add 58) = some (.pointer c69) ∧
        ∃ c70 : (Option Addr), w9.cell? ((p10.add 5).add 59) = some (.pointer c70) ∧
        ∃ c71 : (Option Addr), w9.cell? ((p10.add 5).add 60) = some (.pointer c71) ∧
        ∃ c72 : (Option Addr), w9.cell? ((p10.add 5).add 61) = some (.pointer c72) ∧
        ∃ c73 : (Option Addr), w9.cell? ((p10.add 5).add 62) = some (.pointer c73) ∧
        ∃ c74 : (Option Addr), w9.cell? ((p10.add 5).add 63) = some (.pointer c74) ∧
        LOOP (Int × Unit) (0, ()) w9 fun s75 _ w76 next77 =>
          CND (decide ((s75.1 : Int) < 64)) (
            ((0 : Int) ≤ s75.1 ∧ (s75.1 : Int) < (64 : Nat)) ∧
            c_pcache_Cache_Tell (List.getD [c11, c12, c13, c14, c15, c16, c17, c18, c19, c20, c21, c22, c23, c24, c25, c26, c27, c28, c29, c30, c31, c32, c33, c34, c35, c36, c37, c38, c39, c40, c41, c42, c43, c44, c45, c46, c47, c48, c49, c50, c51, c52, c53, c54, c55, c56, c57, c58, c59, c60, c61, c62, c63, c64, c65, c66, c67, c68, c69, c70, c71, c72, c73, c74] (Int.toNat s75.1) none) (fun r78 r79 r80 w81 =>
            JOIN (Bool × Unit) (fun J82 =>
              CND (decide ((a1 : Int) ≥ r78)) (
                CND (decide (((u64 (a1 - r78)) : Int) < 64)) (
                  (0 : Int) ≤ (u64 (a1 - r78)) ∧
                  J82 (((bitK .u64 0 (Int.fdiv r79 (2 ^ (min (Int.toNat (u64 (a1 - r78))) (IntKind.bits .u64)))) 1) : Int) == 1, ()) w81
                ) (
                  J82 (false, ()) w81
                )
              ) (
                J82 (false, ()) w81
              )
            ) fun s83 _ w84 =>
              CND (s83.1) (
                K 2 s75.1 w84
              ) (
                next77 (i64 (s75.1 + 1), ()) w84
              )
            ) w76
          ) (
            K 1 0 w76
          )
      )
      ) w3
    )

theorem tieZ11 (c_arena_Map_Has : ∀ (a0 : (Option Addr)) (a1 : Int) (K : Bool → World → Prop) (w : World), Prop) (c_mheap_Heap_Of : ∀ (a0 : (Option Addr)) (a1 : Int) (K : Int → World → Prop) (w : World), Prop) (c_pcache_Cache_Tell : ∀ (a0 : (Option Addr)) (K : Int → Int → Int → World → Prop) (w : World), Prop) (x : ArgsV [.one (.ptr), .one (.int .u64)]) (K Kp : Value → World → Prop) (w : World) : T0.mheap_Heap_Owner env c_arena_Map_Has c_mheap_Heap_Of c_pcache_Cache_Tell x.1 x.2.1 (fun r1 r2 w' => K (.tuple ⟨[.int .i64 r1, .int .i64 r2]⟩) w') w =
    ev Go.Proofs.Tryd.prog (tabC [(27, fun args w K Kp => unArgs [.one (.ptr), .one (.int .u64)] args.toList fun x => c_arena_Map_Has x.1 x.2.1 (fun r1 w' => K (.bool r1) w') w), (12, fun args w K Kp => unArgs [.one (.ptr), .one (.int .u64)] args.toList fun x => c_mheap_Heap_Of x.1 x.2.1 (fun r1 w' => K (.int .i64 r1) w') w), (28, fun args w K Kp => unArgs [.one (.ptr)] args.toList fun x => c_pcache_Cache_Tell x.1 (fun r1 r2 r3 w' => K (.tuple ⟨[.int .u64 r1, .int .u64 r2, .int .u64 r3]⟩) w') w)]) (ground Go.Proofs.Tryd.prog) ann11 body11 (finQ Go.Proofs.Tryd.prog Go.Proofs.Tryd.f11 K Kp) (initF (mkArgs [.one (.ptr), .one (.int .u64)] x)) w := by kernel_rfl
theorem tie11 (x : ArgsV [.one (.ptr), .one (.int .u64)]) (K Kp : Value → World → Prop) (w : World) : F.mheap_Heap_Owner env x.1 x.2.1 (fun r1 r2 w' => K (.tuple ⟨[.int .i64 r1, .int .i64 r2]⟩) w') w =
    ev Go.Proofs.Tryd.prog (tabC [(27, C27), (12, C12), (28, C28)]) (ground Go.Proofs.Tryd.prog) ann11 body11 (finQ Go.Proofs.Tryd.prog Go.Proofs.Tryd.f11 K Kp) (initF (mkArgs [.one (.ptr), .one (.int .u64)] x)) w := tieZ11 (F.arena_Map_Has env) (F.mheap_Heap_Of env) (F.pcache_Cache_Tell env) x K Kp w
theorem fits11 : FitsOne Go.Proofs.Tryd.prog 11 C11 :=
  fits_of_tie (T := [(27, C27), (12, C12), (28, C28)]) (A := ann11) (fn := Go.Proofs.Tryd.f11) (c := body11) (fits_cons fits27 (fits_cons fits12 (fits_cons fits28 fits_nil))) mixed Go.Proofs.Tryd.func11 Go.Proofs.Tryd.call11 (by kernel_rfl) (by kernel_rfl) (by kernel_rfl) tie11

/- F.stretch_Set_Sum -/
noncomputable def C59 : Entry := fun args w K Kp => unArgs [.one (.ptr)] args.toList fun x => F.stretch_Set_Sum env x.1 (fun r1 w' => K (.int .u64 r1) w') w
noncomputable def body59 : Code := (Go.Proofs.Tryd.f59.body).getD .skip
def ann59 : Ann := { loops := [], joins := [] }
theorem tie59 (x : ArgsV [.one (.ptr)]) (K Kp : Value → World → Prop) (w : World) : F.stretch_Set_Sum env x.1 (fun r1 w' => K (.int .u64 r1) w') w =
    ev Go.Proofs.Tryd.prog (tabC []) (ground Go.Proofs.Tryd.prog) ann59 body59 (finQ Go.Proofs.Tryd.prog Go.Proofs.Tryd.f59 K Kp) (initF (mkArgs [.one (.ptr)] x)) w := by kernel_rfl
theorem fits59 : FitsOne Go.Proofs.Tryd.prog 59 C59 :=
  fits_of_tie (T := []) (A := ann59) (fn := Go.Proofs.Tryd.f59) (c := body59) fits_nil mixed Go.Proofs.Tryd.func59 Go.Proofs.Tryd.call59 (by kernel_rfl) (by kernel_rfl) (by kernel_rfl) tie59

/- F.radix_Tree_Released -/
noncomputable def C32 : Entry := fun args w K Kp => unArgs [.one (.ptr)] args.toList fun x => F.radix_Tree_Released env x.1 (fun r1 w' => K (.int .u64 r1) w') w
noncomputable def body32 : Code := (Go.Proofs.Tryd.f32.body).getD .skip
def ann32 : Ann := { loops := [], joins := [] }
def T0.radix_Tree_Released (E : Env) (c_stretch_Set_Sum : ∀ (a0 : (Option Addr)) (K : Int → World → Prop) (w : World), Prop) (a0 : (Option Addr)) (K : Int → World → Prop) (w : World) : Prop :=
  NC a0 fun p1 =>
  c_stretch_Set_Sum (some (p1.add 4)) (fun r2 w3 =>
  K r2 w3
  ) w

theorem tieZ32 (c_stretch_Set_Sum : ∀ (a0 : (Option Addr)) (K : Int → World → Prop) (w : World), Prop) (x : ArgsV [.one (.ptr)]) (K Kp : Value → World → Prop) (w : World) : T0.radix_Tree_Released env c_stretch_Set_Sum x.1 (fun r1 w' => K (.int .u64 r1) w') w =
    ev Go.Proofs.Tryd.prog (tabC [(59, fun args w K Kp => unArgs [.one (.ptr)] args.toList fun x => c_stretch_Set_Sum x.1 (fun r1 w' => K (.int .u64 r1) w') w)]) (ground Go.Proofs.Tryd.prog) ann32 body32 (finQ Go.Proofs.Tryd.prog Go.Proofs.Tryd.f32 K Kp) (initF (mkArgs [.one (.ptr)] x)) w := by kernel_rfl
theorem tie32 (x : ArgsV [.one (.ptr)]) (K Kp : Value → World → Prop) (w : World) : F.radix_Tree_Released env x.1 (fun r1 w' => K (.int .u64 r1) w') w =
    ev Go.Proofs.Tryd.prog (tabC [(59, C59)]) (ground Go.Proofs.Tryd.prog) ann32 body32 (finQ Go.Proofs.Tryd.prog Go.Proofs.Tryd.f32 K Kp) (initF (mkArgs [.one (.ptr)] x)) w := tieZ32 (F.stretch_Set_Sum env) x K Kp w
theorem fits32 : FitsOne Go.Proofs.Tryd.prog 32 C32 :=
  fits_of_tie (T := [(59, C59)]) (A := ann32) (fn := Go.Proofs.Tryd.f32) (c := body32) (fits_cons fits59 fits_nil) mixed Go.Proofs.Tryd.func32 Go.Proofs.Tryd.call32 (by kernel_rfl) (by kernel_rfl) (by kernel_rfl) tie32

/- F.arena_Map_Count -/
noncomputable def C33 : Entry := fun args w K Kp => unArgs [.one (.ptr)] args.toList fun x => F.arena_Map_Count env x.1 (fun r1 w' => K (.int .u64 r1) w') w
noncomputable def body33 : Code := (Go.Proofs.Tryd.f33.body).getD .skip
def ann33 : Ann := { loops := [], joins := [] }
def T0.arena_Map_Count (E : Env) (c_stretch_Set_Sum : ∀ (a0 : (Option Addr)) (K : Int → World → Prop) (w : World), Prop) (a0 : (Option Addr)) (K : Int → World → Prop) (w : World) : Prop :=
  NC a0 fun p1 =>
  c_stretch_Set_Sum (some p1) (fun r2 w3 =>
  K r2 w3
  ) w

theorem tieZ33 (c_stretch_Set_Sum : ∀ (a0 : (Option Addr)) (K : Int → World → Prop) (w : World), Prop) (x : ArgsV [.one (.ptr)]) (K Kp : Value → World → Prop) (w : World) : T0.arena_Map_Count env c_stretch_Set_Sum x.1 (fun r1 w' => K (.int .u64 r1) w') w =
    ev Go.Proofs.Tryd.prog (tabC [(59, fun args w K Kp => unArgs [.one (.ptr)] args.toList fun x => c_stretch_Set_Sum x.1 (fun r1 w' => K (.int .u64 r1) w') w)]) (ground Go.Proofs.Tryd.prog) ann33 body33 (finQ Go.Proofs.Tryd.prog Go.Proofs.Tryd.f33 K Kp) (initF (mkArgs [.one (.ptr)] x)) w := by kernel_rfl
theorem tie33 (x : ArgsV [.one (.ptr)]) (K Kp : Value → World → Prop) (w : World) : F.arena_Map_Count env x.1 (fun r1 w' => K (.int .u64 r1) w') w =
    ev Go.Proofs.Tryd.prog (tabC [(59, C59)]) (ground Go.Proofs.Tryd.prog) ann33 body33 (finQ Go.Proofs.Tryd.prog Go.Proofs.Tryd.f33 K Kp) (initF (mkArgs [.one (.ptr)] x)) w := tieZ33 (F.stretch_Set_Sum env) x K Kp w
theorem fits33 : FitsOne Go.Proofs.Tryd.prog 33 C33 :=
  fits_of_tie (T := [(59, C59)]) (A := ann33) (fn := Go.Proofs.Tryd.f33) (c := body33) (fits_cons fits59 fits_nil) mixed Go.Proofs.Tryd.func33 Go.Proofs.Tryd.call33 (by kernel_rfl) (by kernel_rfl) (by kernel_rfl) tie33

/- F.mheap_Heap_Pages -/
noncomputable def C15 : Entry := fun args w K Kp => unArgs [.one (.ptr)] args.toList fun x => F.mheap_Heap_Pages env x.1 (fun r1 r2 r3 w' => K (.tuple ⟨[.int .u64 r1, .int .u64 r2, .int .u64 r3]⟩) w') w
noncomputable def body15 : Code := (Go.Proofs.Tryd.f15.body).getD .skip
def ann15 : Ann := { loops := [(3, [(5, .one (.int .u64)), (20, .one (.int .i64))]), (6, [(5, .one (.int .u64)), (10, .one (.int .u64))])], joins := [] }
def T0.mheap_Heap_Pages (E : Env) (c_radix_Tree_Released : ∀ (a0 : (Option Addr)) (K : Int → World → Prop) (w : World), Prop) (c_pcache_Cache_Tell : ∀ (a0 : (Option Addr)) (K : Int → Int → Int → World → Prop) (w : World), Prop) (c_arena_Map_Count : ∀ (a0 : (Option Addr)) (K : Int → World → Prop) (w : World), Prop) (a0 : (Option Addr)) (K : Int → Int → Int → World → Prop) (w : World) : Prop :=
  NC a0 fun p1 =>
  ∃ x2 : (Option Addr), w.cell? (p1.add 1) = some (.pointer x2) ∧
  c_radix_Tree_Released x2 (fun r3 w4 =>
  NC a0 fun p5 =>
  ∃ c6 : (Option Addr), w4.cell? ((p5.add 5).add 0) = some (.pointer c6) ∧
  ∃ c7 : (Option Addr), w4.cell? ((p5.add 5).add 1) = some (.pointer c7) ∧
  ∃ c8 : (Option Addr), w4.cell? ((p5.add 5).add 2) = some (.pointer c8) ∧
  ∃ c9 : (Option Addr), w4.cell? ((p5.add 5).add 3) = some (.pointer c9) ∧
  ∃ c10 : (Option Addr), w4.cell? ((p5.add 5).add 4) = some (.pointer c10) ∧
  ∃ c11 : (Option Addr), w4.cell? ((p5.add 5).add 5) = some (.pointer c11) ∧
  ∃ c12 : (Option Addr), w4.cell? ((p5.add 5).add 6) = some (.pointer c12) ∧
  ∃ c13 : (Option Addr), w4.cell? ((p5.add 5).add 7) = some (.pointer c13) ∧
  ∃ c14 : (Option Addr), w4.cell? ((p5.add 5).add 8) = some (.pointer c14) ∧
  ∃ c15 : (Option Addr), w4.cell? ((p5.add 5).add 9) = some (.pointer c15) ∧
  ∃ c16 : (Option Addr), w4.cell? ((p5.add 5).add 10) = some (.pointer c16) ∧
  ∃ c17 : (Option Addr), w4.cell? ((p5.add 5).add 11) = some (.pointer c17) ∧
  ∃ c18 : (Option Addr), w4.cell? ((p5.add 5).add 12) = some (.pointer c18) ∧
  ∃ c19 : (Option Addr), w4.cell? ((p5.add 5).add 13) = some (.pointer c19) ∧
  ∃ c20 : (Option Addr), w4.cell? ((p5.add 5).add 14) = some (.pointer c20) ∧
  ∃ c21 : (Option Addr), w4.cell? ((p5.add 5).add 15) = some (.pointer c21) ∧
  ∃ c22 : (Option Addr), w4.cell? ((p5.add 5).add 16) = some (.pointer c22) ∧
  ∃ c23 : (Option Addr), w4.cell? ((p5.add 5).add 17) = some (.pointer c23) ∧
  ∃ c24 : (Option Addr), w4.cell? ((p5.add 5).add 18) = some (.pointer c24) ∧
  ∃ c25 : (Option Addr), w4.cell? ((p5.add 5).add 19) = some (.pointer c25) ∧
  ∃ c26 : (Option Addr), w4.cell? ((p5.add 5).add 20) = some (.pointer c26) ∧
  ∃ c27 : (Option Addr), w4.cell? ((p5.add 5).add 21) = some (.pointer c27) ∧
  ∃ c28 : (Option Addr), w4.cell? ((p5.add 5).add 22) = some (.pointer c28) ∧
  ∃ c29 : (Option Addr), w4.cell? ((p5.add 5).add 23) = some (.pointer c29) ∧
  ∃ c30 : (Option Addr), w4.cell? ((p5.add 5).add 24) = some (.pointer c30) ∧
  ∃ c31 : (Option Addr), w4.cell? ((p5.add 5).add 25) = some (.pointer c31) ∧
  ∃ c32 : (Option Addr), w4.cell? ((p5.add 5).add 26) = some (.pointer c32) ∧
  ∃ c33 : (Option Addr), w4.cell? ((p5.add 5).add 27) = some (.pointer c33) ∧
  ∃ c34 : (Option Addr), w4.cell? ((p5.add 5).add 28) = some (.pointer c34) ∧
  ∃ c35 : (Option Addr), w4.cell? ((p5.add 5).add 29) = some (.pointer c35) ∧
  ∃ c36 : (Option Addr), w4.cell? ((p5.add 5).add 30) = some (.pointer c36) ∧
  ∃ c37 : (Option Addr), w4.cell? ((p5.add 5).add 31) = some (.pointer c37) ∧
  ∃ c38 : (Option Addr), w4.cell? ((p5.add 5).add 32) = some (.pointer c38) ∧
  ∃ c39 : (Option Addr), w4.cell? ((p5.add 5).add 33) = some (.pointer c39) ∧
  ∃ c40 : (Option Addr), w4.cell? ((p5.add 5).add 34) = some (.pointer c40) ∧
  ∃ c41 : (Option Addr), w4.cell? ((p5.add 5).add 35) = some (.pointer c41) ∧
  ∃ c42 : (Option Addr), w4.cell? ((p5.add 5).add 36) = some (.pointer c42) ∧
  ∃ c43 : (Option Addr), w4.cell? ((p5.add 5).add 37) = some (.pointer c43) ∧
  ∃ c44 : (Option Addr), w4.cell? ((p5.add 5).add 38) = some (.pointer c44) ∧
  ∃ c45 : (Option Addr), w4.cell? ((p5.add 5).add 39) = some (.pointer c45) ∧
  ∃ c46 : (Option Addr), w4.cell? ((p5.add 5).add 40) = some (.pointer c46) ∧
  ∃ c47 : (Option Addr), w4.cell? ((p5.add 5).add 41) = some (.pointer c47) ∧
  ∃ c48 : (Option Addr), w4.cell? ((p5.add 5).add 42) = some (.pointer c48) ∧
  ∃ c49 : (Option Addr), w4.cell? ((p5.add 5).add 43) = some (.pointer c49) ∧
  ∃ c50 : (Option Addr), w4.cell? ((p5.add 5).add 44) = some (.pointer c50) ∧
  ∃ c51 : (Option Addr), w4.cell? ((p5.add 5).add 45) = some (.pointer c51) ∧
  ∃ c52 : (Option Addr), w4.cell? ((p5.add 5).add 46) = some (.pointer c52) ∧
  ∃ c53 : (Option Addr), w4.cell? ((p5.add 5).add 47) = some (.pointer c53) ∧
  ∃ c54 : (Option Addr), w4.cell? ((p5.add 5).add 48) = some (.pointer c54) ∧
  ∃ c55 : (Option Addr), w4.cell? ((p5.add 5).add 49) = some (.pointer c55) ∧
  ∃ c56 : (Option Addr), w4.cell? ((p5.add 5).add 50) = some (.pointer c56) ∧
  ∃ c57 : (Option Addr), w4.cell? ((p5.add 5).add 51) = some (.pointer c57) ∧
  ∃ c58 : (Option Addr), w4.cell? ((p5.add 5).add 52) = some (.pointer c58) ∧
  ∃ c59 : (Option Addr), w4.cell? ((p5.add 5).add 53) = some (.pointer c59) ∧
  ∃ c60 : (Option Addr), w4.cell? ((p5.add 5).add 54) = some (.pointer c60) ∧
  ∃ c61 : (Option Addr), w4.cell? ((p5.add 5).add 55) = some (.pointer c61) ∧
  ∃ c62 : (Option Addr), w4.cell? ((p5.add 5).add 56) = some (.pointer c62) ∧
  ∃ c63 : (Option Addr), w4.cell? ((p5.add 5).add 57) = some (.pointer c63) ∧
  ∃ c64 : (Option Addr), w4.cell? ((p5.add 5).add 58) = some (.pointer c64) ∧
  ∃ c65 : (Option Addr), w4.cell? ((p5.add 5).add 59) = some (.pointer c65) ∧
  ∃ c66 : (Option Addr), w4.cell? ((p5.add 5).add 60) = some (.pointer c66) ∧
  ∃ c67 : (Option Addr), w4.cell? ((p5.add 5).add 61) = some (.pointer c67) ∧
  ∃ c68 : (Option Addr), w4.cell? ((p5.add 5).add 62) = some (.pointer c68) ∧
  ∃ c69 : (Option Addr), w4.cell? ((p5.add 5).add 63) = some (.pointer c69) ∧
  LOOP (Int × Int × Unit) (r3, 0, ()) w4 fun s70 _ w71 next72 =>
    CND (decide ((s70.2.1 : Int) < 64)) (
      ((0 : Int) ≤ s70.2.1 ∧ (s70.2.1 : Int) < (64 : Nat)) ∧
      c_pcache_Cache_Tell (List.getD [c6, c7, c8, c9, c10, c11, c12, c13, c14, c15, c16, c17, c18, c19, c20, c21, c22, c23, c24, c25, c26, c27, c28, c29, c30, c31, c32, c33, c34, c35, c36, c37, c38, c39, c40, c41, c42, c43, c44, c45, c46, c47, c48, c49, c50, c51, c52, c53, c54, c55, c56, c57, c58, c59, c60, c61, c62, c63, c64, c65, c66, c67, c68, c69] (Int.toNat s70.2.1) none) (fun r73 r74 r75 w76 =>
      LOOP (Int × Int × Unit) (s70.1, r75, ()) w76 fun s77 _ w78 next79 =>
        CND ((s77.2.1 : Int) != 0) (
          LET (bitK .u64 0 s77.2.1 (u64 (s77.2.1 - 1)) : Int) fun r_80 =>
          next79 (u64 (s77.1 + 1), r_80, ()) w78
        ) (
          next72 (s77.1, i64 (s70.2.1 + 1), ()) w78
        )
      ) w71
    ) (
      NC a0 fun p81 =>
      ∃ x82 : (Option Addr), w71.drew.cell? (p81.add 2) = some (.pointer x82) ∧
      NC a0 fun p83 =>
      ∃ x84 : Int, w71.drew.cell? (p83.add 70) = some (.int .u64 x84) ∧
      c_arena_Map_Count x82 (fun r85 w86 =>
      w86.cell? (p83.add 70) = some (.int .u64 x84) ∧
      K (u64 (r85 * 512)) x84 s70.1 w86
      ) w71.drew
    )
  ) w

theorem tieZ15 (c_radix_Tree_Released : ∀ (a0 : (Option Addr)) (K : Int → World → Prop) (w : World), Prop) (c_pcache_Cache_Tell : ∀ (a0 : (Option Addr)) (K : Int → Int → Int → World → Prop) (w : World), Prop) (c_arena_Map_Count : ∀ (a0 : (Option Addr)) (K : Int → World → Prop) (w : World), Prop) (x : ArgsV [.one (.ptr)]) (K Kp : Value → World → Prop) (w : World) : T0.mheap_Heap_Pages env c_radix_Tree_Released c_pcache_Cache_Tell c_arena_Map_Count x.1 (fun r1 r2 r3 w' => K (.tuple ⟨[.int .u64 r1, .int .u64 r2, .int .u64 r3]⟩) w') w =
    ev Go.Proofs.Tryd.prog (tabC [(32, fun args w K Kp => unArgs [.one (.ptr)] args.toList fun x => c_radix_Tree_Released x.1 (fun r1 w' => K (.int .u64 r1) w') w), (28, fun args w K Kp => unArgs [.one (.ptr)] args.toList fun x => c_pcache_Cache_Tell x.1 (fun r1 r2 r3 w' => K (.tuple ⟨[.int .u64 r1, .int .u64 r2, .int .u64 r3]⟩) w') w), (33, fun args w K Kp => unArgs [.one (.ptr)] args.toList fun x => c_arena_Map_Count x.1 (fun r1 w' => K (.int .u64 r1) w') w)]) (ground Go.Proofs.Tryd.prog) ann15 body15 (finQ Go.Proofs.Tryd.prog Go.Proofs.Tryd.f15 K Kp) (initF (mkArgs [.one (.ptr)] x)) w := by kernel_rfl
theorem tie15 (x : ArgsV [.one (.ptr)]) (K Kp : Value → World → Prop) (w : World) : F.mheap_Heap_Pages env x.1 (fun r1 r2 r3 w' => K (.tuple ⟨[.int .u64 r1, .int .u64 r2, .int .u64 r3]⟩) w') w =
    ev Go.Proofs.Tryd.prog (tabC [(32, C32), (28, C28), (33, C33)]) (ground Go.Proofs.Tryd.prog) ann15 body15 (finQ Go.Proofs.Tryd.prog Go.Proofs.Tryd.f15 K Kp) (initF (mkArgs [.one (.ptr)] x)) w := tieZ15 (F.radix_Tree_Released env) (F.pcache_Cache_Tell env) (F.arena_Map_Count env) x K Kp w
theorem fits15 : FitsOne Go.Proofs.Tryd.prog 15 C15 :=
  fits_of_tie (T := [(32, C32), (28, C28), (33, C33)]) (A := ann15) (fn := Go.Proofs.Tryd.f15) (c := body15) (fits_cons fits32 (fits_cons fits28 (fits_cons fits33 fits_nil))) mixed Go.Proofs.Tryd.func15 Go.Proofs.Tryd.call15 (by kernel_rfl) (by kernel_rfl) (by kernel_rfl) tie15

/- F.mallowlaw16_awake -/
noncomputable def C13 : Entry := fun args w K Kp => unArgs [] args.toList fun x => F.mallowlaw16_awake env  (fun r1 w' => K (.bool r1) w') w
noncomputable def body13 : Code := (Go.Proofs.Tryd.f13.body).getD .skip
def ann13 : Ann := { loops := [], joins := [] }
def T0.mallowlaw16_awake (E : Env) (c_vmem_New : ∀ (a0_0 : SlV) (a0_1 : SlV) (a0_2 : SlV) (K : (Option Addr) → World → Prop) (w : World), Prop) (c_mheap_New : ∀ (a0 : (Option Addr)) (K : (Option Addr) → World → Prop) (w : World), Prop) (c_mheap_Heap_Alloc : ∀ (a0 : (Option Addr)) (a1 : Int) (a2 : Int) (a3 : Int) (a4 : Bool) (K : Int → Int → World → Prop) (w : World), Prop) (c_mheap_Heap_Owner : ∀ (a0 : (Option Addr)) (a1 : Int) (K : Int → Int → World → Prop) (w : World), Prop) (c_mheap_Heap_Pages : ∀ (a0 : (Option Addr)) (K : Int → Int → Int → World → Prop) (w : World), Prop) (c_mheap_Heap_Of : ∀ (a0 : (Option Addr)) (a1 : Int) (K : Int → World → Prop) (w : World), Prop) (K : Bool → World → Prop) (w : World) : Prop :=
  c_vmem_New ⟨none, 0, 0⟩ ⟨none, 0, 0⟩ ⟨none, 0, 0⟩ (fun r1 w2 =>
  CND (r1.isNone) (
    K false w2
  ) (
    c_mheap_New r1 (fun r3 w4 =>
    CND (r3.isNone) (
      K false w4
    ) (
      c_mheap_Heap_Alloc r3 0 1 5 false (fun r5 r6 w7 =>
      c_mheap_Heap_Alloc r3 0 1 5 false (fun r8 r9 w10 =>
      c_mheap_Heap_Alloc r3 0 16 0 false (fun r11 r12 w13 =>
      c_mheap_Heap_Owner r3 514 (fun r14 r15 w16 =>
      c_mheap_Heap_Pages r3 (fun r17 r18 r19 w20 =>
      CND ((r5 : Int) == 1) (
        CND ((r8 : Int) == 2) (
          CND ((r11 : Int) == 3) (
            CND ((r6 : Int) == 0) (
              CND ((r9 : Int) == 0) (
                CND ((r12 : Int) == 0) (
                  c_mheap_Heap_Of r3 4194304 (fun r21 w22 =>
                  CND ((r21 : Int) == 1) (
                    c_mheap_Heap_Of r3 4718592 (fun r23 w24 =>
                    CND ((r23 : Int) == 3) (
                      CND ((r14 : Int) == 2) (
                        CND ((r15 : Int) == 0) (
                          CND ((r17 : Int) == 512) (
                            K ((r18 : Int) == 18) w24
                          ) (
                            K false w24
                          )
                        ) (
                          K false w24
                        )
                      ) (
                        K false w24
                      )
                    ) (
                      K false w24
                    )
                    ) w22
                  ) (
                    K false w22
                  )
                  ) w20
                ) (
                  K false w20
                )
              ) (
                K false w20
              )
            ) (
              K false w20
            )
          ) (
            K false w20
          )
        ) (
          K false w20
        )
      ) (
        K false w20
      )
      ) w16
      ) w13
      ) w10
      ) w7
      ) w4
    )
    ) w2
  )
  ) w

theorem tieZ13 (c_vmem_New : ∀ (a0_0 : SlV) (a0_1 : SlV) (a0_2 : SlV) (K : (Option Addr) → World → Prop) (w : World), Prop) (c_mheap_New : ∀ (a0 : (Option Addr)) (K : (Option Addr) → World → Prop) (w : World), Prop) (c_mheap_Heap_Alloc : ∀ (a0 : (Option Addr)) (a1 : Int) (a2 : Int) (a3 : Int) (a4 : Bool) (K : Int → Int → World → Prop) (w : World), Prop) (c_mheap_Heap_Owner : ∀ (a0 : (Option Addr)) (a1 : Int) (K : Int → Int → World → Prop) (w : World), Prop) (c_mheap_Heap_Pages : ∀ (a0 : (Option Addr)) (K : Int → Int → Int → World → Prop) (w : World), Prop) (c_mheap_Heap_Of : ∀ (a0 : (Option Addr)) (a1 : Int) (K : Int → World → Prop) (w : World), Prop) (x : ArgsV []) (K Kp : Value → World → Prop) (w : World) : T0.mallowlaw16_awake env c_vmem_New c_mheap_New c_mheap_Heap_Alloc c_mheap_Heap_Owner c_mheap_Heap_Pages c_mheap_Heap_Of  (fun r1 w' => K (.bool r1) w') w =
    ev Go.Proofs.Tryd.prog (tabC [(21, fun args w K Kp => unArgs [.agg [.sl, .sl, .sl]] args.toList fun x => c_vmem_New x.1.1 x.1.2.1 x.1.2.2.1 (fun r1 w' => K (.pointer r1) w') w), (23, fun args w K Kp => unArgs [.one (.ptr)] args.toList fun x => c_mheap_New x.1 (fun r1 w' => K (.pointer r1) w') w), (8, fun args w K Kp => unArgs [.one (.ptr), .one (.int .i64), .one (.int .u64), .one (.int .i64), .one (.bool)] args.toList fun x => c_mheap_Heap_Alloc x.1 x.2.1 x.2.2.1 x.2.2.2.1 x.2.2.2.2.1 (fun r1 r2 w' => K (.tuple ⟨[.int .i64 r1, .int .i64 r2]⟩) w') w), (11, fun args w K Kp => unArgs [.one (.ptr), .one (.int .u64)] args.toList fun x => c_mheap_Heap_Owner x.1 x.2.1 (fun r1 r2 w' => K (.tuple ⟨[.int .i64 r1, .int .i64 r2]⟩) w') w), (15, fun args w K Kp => unArgs [.one (.ptr)] args.toList fun x => c_mheap_Heap_Pages x.1 (fun r1 r2 r3 w' => K (.tuple ⟨[.int .u64 r1, .int .u64 r2, .int .u64 r3]⟩) w') w), (12, fun args w K Kp => unArgs [.one (.ptr), .one (.int .u64)] args.toList fun x => c_mheap_Heap_Of x.1 x.2.1 (fun r1 w' => K (.int .i64 r1) w') w)]) (ground Go.Proofs.Tryd.prog) ann13 body13 (finQ Go.Proofs.Tryd.prog Go.Proofs.Tryd.f13 K Kp) (initF (mkArgs [] x)) w := by kernel_rfl
theorem tie13 (x : ArgsV []) (K Kp : Value → World → Prop) (w : World) : F.mallowlaw16_awake env  (fun r1 w' => K (.bool r1) w') w =
    ev Go.Proofs.Tryd.prog (tabC [(21, C21), (23, C23), (8, C8), (11, C11), (15, C15), (12, C12)]) (ground Go.Proofs.Tryd.prog) ann13 body13 (finQ Go.Proofs.Tryd.prog Go.Proofs.Tryd.f13 K Kp) (initF (mkArgs [] x)) w := tieZ13 (F.vmem_New env) (F.mheap_New env) (F.mheap_Heap_Alloc env) (F.mheap_Heap_Owner env) (F.mheap_Heap_Pages env) (F.mheap_Heap_Of env) x K Kp w
theorem fits13 : FitsOne Go.Proofs.Tryd.prog 13 C13 :=
  fits_of_tie (T := [(21, C21), (23, C23), (8, C8), (11, C11), (15, C15), (12, C12)]) (A := ann13) (fn := Go.Proofs.Tryd.f13) (c := body13) (fits_cons fits21 (fits_cons fits23 (fits_cons fits8 (fits_cons fits11 (fits_cons fits15 (fits_cons fits12 fits_nil)))))) mixed Go.Proofs.Tryd.func13 Go.Proofs.Tryd.call13 (by kernel_rfl) (by kernel_rfl) (by kernel_rfl) tie13

/- F.mallowlaw16_HeapPlacesApart -/
noncomputable def C3 : Entry := fun args w K Kp => unArgs [.one (.sl), .one (.sl)] args.toList fun x => F.mallowlaw16_HeapPlacesApart env x.1 x.2.1 (fun r1 w' => K (.bool r1) w') w
noncomputable def body3 : Code := (Go.Proofs.Tryd.f3.body).getD .skip
def ann3 : Ann := { loops := [(7, [(6, .one (.int .i64))]), (17, [(12, .one (.int .u64))]), (23, [(15, .one (.int .i64))]), (27, [(17, .one (.int .u64))])], joins := [(2, [(27, .one (.bool))]), (10, [(50, .one (.bool))]), (14, [(71, .one (.bool))]), (21, [(103, .one (.bool))]), (31, [(135, .one (.bool))]), (34, [(162, .one (.bool))])] }
def T0.mallowlaw16_HeapPlacesApart (E : Env) (c_mallowlaw16_fresh : ∀ (a0_0 : SlV) (a0_1 : SlV) (a0_2 : SlV) (K : (Option Addr) → World → Prop) (w : World), Prop) (c_mheap_Heap_Alloc : ∀ (a0 : (Option Addr)) (a1 : Int) (a2 : Int) (a3 : Int) (a4 : Bool) (K : Int → Int → World → Prop) (w : World), Prop) (c_mheap_Heap_Span : ∀ (a0 : (Option Addr)) (a1 : Int) (K : (Option Addr) → Int → World → Prop) (w : World), Prop) (c_span_Span_Info : ∀ (a0 : (Option Addr)) (K : Int → Int → Int → Int → Bool → Int → Int → Int → Bool → Bool → World → Prop) (w : World), Prop) (c_mheap_Heap_Owner : ∀ (a0 : (Option Addr)) (a1 : Int) (K : Int → Int → World → Prop) (w : World), Prop) (c_mheap_Heap_Of : ∀ (a0 : (Option Addr)) (a1 : Int) (K : Int → World → Prop) (w : World), Prop) (c_mallowlaw16_awake : ∀ (K : Bool → World → Prop) (w : World), Prop) (a0 : SlV) (a1 : SlV) (K : Bool → World → Prop) (w : World) : Prop :=
  JOIN (Bool × Unit) (fun J1 =>
    CND (decide ((((a0.len : Nat) : Int) : Int) > 20)) (
      J1 (true, ()) w
    ) (
      J1 (decide ((((a1.len : Nat) : Int) : Int) > 20), ()) w
    )
  ) fun s2 _ w3 =>
    CND (s2.1) (
      K true w3
    ) (
      c_mallowlaw16_fresh a0 ⟨none, 0, 0⟩ ⟨none, 0, 0⟩ (fun r4 w5 =>
      CND (r4.isNone) (
        K false w5
      ) (
        LOOP (Int × Unit) (0, ()) w5 fun s6 _ w7 next8 =>
          CND (decide ((s6.1 : Int) < ((a1.len : Nat) : Int))) (
            JOIN (Bool × Unit) (fun J9 =>
              NC a1.base fun p12 =>
              ((0 : Int) ≤ s6.1 ∧ (s6.1 : Int) < (a1.len : Nat)) ∧
              ∃ x13 : Int, w7.cell? (p12.add (Int.toNat s6.1 * 1)) = some (.int .u64 x13) ∧
              CND (decide ((x13 : Int) < 1)) (
                J9 (true, ()) w7
              ) (
                NC a1.base fun p14 =>
                ((0 : Int) ≤ s6.1 ∧ (s6.1 : Int) < (a1.len : Nat)) ∧
                ∃ x15 : Int, w7.cell? (p14.add (Int.toNat s6.1 * 1)) = some (.int .u64 x15) ∧
                J9 (decide ((x15 : Int) > 900), ()) w7
              )
            ) fun s10 _ w11 =>
              CND (s10.1) (
                K true w11
              ) (
                NC a1.base fun p16 =>
                ((0 : Int) ≤ s6.1 ∧ (s6.1 : Int) < (a1.len : Nat)) ∧
                ∃ x17 : Int, w11.cell? (p16.add (Int.toNat s6.1 * 1)) = some (.int .u64 x17) ∧
                c_mheap_Heap_Alloc r4 (-1) x17 0 false (fun r18 r19 w20 =>
                c_mheap_Heap_Span r4 r18 (fun r21 r22 w23 =>
                JOIN (Bool × Unit) (fun J24 =>
                  CND ((r19 : Int) != 0) (
                    J24 (true, ()) w23
                  ) (
                    J24 (r21.isNone, ()) w23
                  )
                ) fun s25 _ w26 =>
                  CND (s25.1) (
                    K false w26
                  ) (
                    c_span_Span_Info r21 (fun r27 r28 r29 r30 r31 r32 r33 r34 r35 r36 w37 =>
                    8192 ≠ (0 : Int) ∧
                    LOOP (Int × Unit) (u64 (Int.tdiv r27 8192), ()) w37 fun s38 _ w39 next40 =>
                      NC a1.base fun p41 =>
                      ((0 : Int) ≤ s6.1 ∧ (s6.1 : Int) < (a1.len : Nat)) ∧
                      ∃ x42 : Int, w39.cell? (p41.add (Int.toNat s6.1 * 1)) = some (.int .u64 x42) ∧
                      CND (decide ((s38.1 : Int) < (u64 ((u64 (Int.tdiv r27 8192)) + x42)))) (
                        c_mheap_Heap_Owner r4 s38.1 (fun r43 r44 w45 =>
                        JOIN (Bool × Unit) (fun J46 =>
                          CND ((r43 : Int) != 3) (
                            J46 (true, ()) w45
                          ) (
                            CND ((r44 : Int) != r18) (
                              J46 (true, ()) w45
                            ) (
                              J46 (decide ((s38.1 : Int) ≥ 34359738368), ()) w45
                            )
                          )
                        ) fun s47 _ w48 =>
                          CND (s47.1) (
                            K false w48
                          ) (
                            next40 (u64 (s38.1 + 1), ()) w48
                          )
                        ) w39
                      ) (
                        next8 (i64 (s6.1 + 1), ()) w39
                      )
                    ) w26
                  )
                ) w20
                ) w11
              )
          ) (
            LOOP (Int × Unit) (0, ()) w7 fun s49 _ w50 next51 =>
              CND (decide ((s49.1 : Int) < ((a0.len : Nat) : Int))) (
                NC a0.base fun p52 =>
                ((0 : Int) ≤ s49.1 ∧ (s49.1 : Int) < (a0.len : Nat)) ∧
                ∃ x53 : Int, w50.cell? (p52.add (Int.toNat s49.1 * 1)) = some (.int .u64 x53) ∧
                LOOP (Int × Unit) (bitK .u64 3 x53 511, ()) w50 fun s54 _ w55 next56 =>
                  CND (decide ((s54.1 : Int) < (u64 ((bitK .u64 3 x53 511) + 1024)))) (
                    CND (decide ((s54.1 : Int) ≥ 34359738368)) (
                      JOIN (Bool × Unit) (fun J57 =>
                        c_mheap_Heap_Of r4 (u64 (s54.1 * 8192)) (fun r60 w61 =>
                        CND ((r60 : Int) != 0) (
                          8192 ≠ (0 : Int) ∧
                          J57 (((u64 (Int.tdiv (u64 (s54.1 * 8192)) 8192)) : Int) == s54.1, ()) w61
                        ) (
                          J57 (false, ()) w61
                        )
                        ) w55
                      ) fun s58 _ w59 =>
                        CND (s58.1) (
                          K false w59
                        ) (
                          next56 (u64 (s54.1 + 77), ()) w59
                        )
                    ) (
                      c_mheap_Heap_Owner r4 s54.1 (fun r62 r63 w64 =>
                      JOIN (Bool × Unit) (fun J65 =>
                        c_mheap_Heap_Of r4 (u64 (s54.1 * 8192)) (fun r68 w69 =>
                        CND ((r68 : Int) != r63) (
                          CND ((r62 : Int) == 3) (
                            J65 (true, ()) w69
                          ) (
                            CND ((r62 : Int) != 3) (
                              c_mheap_Heap_Of r4 (u64 (s54.1 * 8192)) (fun r70 w71 =>
                              J65 ((r70 : Int) != 0, ()) w71
                              ) w69
                            ) (
                              J65 (false, ()) w69
                            )
                          )
                        ) (
                          CND ((r62 : Int) != 3) (
                            c_mheap_Heap_Of r4 (u64 (s54.1 * 8192)) (fun r72 w73 =>
                            J65 ((r72 : Int) != 0, ()) w73
                            ) w69
                          ) (
                            J65 (false, ()) w69
                          )
                        )
                        ) w64
                      ) fun s66 _ w67 =>
                        CND (s66.1) (
                          K false w67
                        ) (
                          next56 (u64 (s54.1 + 77), ()) w67
                        )
                      ) w55
                    )
                  ) (
                    next51 (i64 (s49.1 + 1), ()) w55
                  )
              ) (
                c_mallowlaw16_awake  (fun r74 w75 =>
                K r74 w75
                ) w50
              )
          )
      )
      ) w3
    )

theorem tieZ3 (c_mallowlaw16_fresh : ∀ (a0_0 : SlV) (a0_1 : SlV) (a0_2 : SlV) (K : (Option Addr) → World → Prop) (w : World), Prop) (c_mheap_Heap_Alloc : ∀ (a0 : (Option Addr)) (a1 : Int) (a2 : Int) (a3 : Int) (a4 : Bool) (K : Int → Int → World → Prop) (w : World), Prop) (c_mheap_Heap_Span : ∀ (a0 : (Option Addr)) (a1 : Int) (K : (Option Addr) → Int → World → Prop) (w : World), Prop) (c_span_Span_Info : ∀ (a0 : (Option Addr)) (K : Int → Int → Int → Int → Bool → Int → Int → Int → Bool → Bool → World → Prop) (w : World), Prop) (c_mheap_Heap_Owner : ∀ (a0 : (Option Addr)) (a1 : Int) (K : Int → Int → World → Prop) (w : World), Prop) (c_mheap_Heap_Of : ∀ (a0 : (Option Addr)) (a1 : Int) (K : Int → World → Prop) (w : World), Prop) (c_mallowlaw16_awake : ∀ (K : Bool → World → Prop) (w : World), Prop) (x : ArgsV [.one (.sl), .one (.sl)]) (K Kp : Value → World → Prop) (w : World) : T0.mallowlaw16_HeapPlacesApart env c_mallowlaw16_fresh c_mheap_Heap_Alloc c_mheap_Heap_Span c_span_Span_Info c_mheap_Heap_Owner c_mheap_Heap_Of c_mallowlaw16_awake x.1 x.2.1 (fun r1 w' => K (.bool r1) w') w =
    ev Go.Proofs.Tryd.prog (tabC [(7, fun args w K Kp => unArgs [.agg [.sl, .sl, .sl]] args.toList fun x => c_mallowlaw16_fresh x.1.1 x.1.2.1 x.1.2.2.1 (fun r1 w' => K (.pointer r1) w') w), (8, fun args w K Kp => unArgs [.one (.ptr), .one (.int .i64), .one (.int .u64), .one (.int .i64), .one (.bool)] args.toList fun x => c_mheap_Heap_Alloc x.1 x.2.1 x.2.2.1 x.2.2.2.1 x.2.2.2.2.1 (fun r1 r2 w' => K (.tuple ⟨[.int .i64 r1, .int .i64 r2]⟩) w') w), (9, fun args w K Kp => unArgs [.one (.ptr), .one (.int .i64)] args.toList fun x => c_mheap_Heap_Span x.1 x.2.1 (fun r1 r2 w' => K (.tuple ⟨[.pointer r1, .int .i64 r2]⟩) w') w), (10, fun args w K Kp => unArgs [.one (.ptr)] args.toList fun x => c_span_Span_Info x.1 (fun r1 r2 r3 r4 r5 r6 r7 r8 r9 r10 w' => K (.agg ⟨[.int .u64 r1, .int .i64 r2, .int .i64 r3, .int .i64 r4, .bool r5, .int .i64 r6, .int .i64 r7, .int .i64 r8, .bool r9, .bool r10]⟩) w') w), (11, fun args w K Kp => unArgs [.one (.ptr), .one (.int .u64)] args.toList fun x => c_mheap_Heap_Owner x.1 x.2.1 (fun r1 r2 w' => K (.tuple ⟨[.int .i64 r1, .int .i64 r2]⟩) w') w), (12, fun args w K Kp => unArgs [.one (.ptr), .one (.int .u64)] args.toList fun x => c_mheap_Heap_Of x.1 x.2.1 (fun r1 w' => K (.int .i64 r1) w') w), (13, fun args w K Kp => unArgs [] args.toList fun x => c_mallowlaw16_awake  (fun r1 w' => K (.bool r1) w') w)]) (ground Go.Proofs.Tryd.prog) ann3 body3 (finQ Go.Proofs.Tryd.prog Go.Proofs.Tryd.f3 K Kp) (initF (mkArgs [.one (.sl), .one (.sl)] x)) w := by kernel_rfl
theorem tie3 (x : ArgsV [.one (.sl), .one (.sl)]) (K Kp : Value → World → Prop) (w : World) : F.mallowlaw16_HeapPlacesApart env x.1 x.2.1 (fun r1 w' => K (.bool r1) w') w =
    ev Go.Proofs.Tryd.prog (tabC [(7, C7), (8, C8), (9, C9), (10, C10), (11, C11), (12, C12), (13, C13)]) (ground Go.Proofs.Tryd.prog) ann3 body3 (finQ Go.Proofs.Tryd.prog Go.Proofs.Tryd.f3 K Kp) (initF (mkArgs [.one (.sl), .one (.sl)] x)) w := tieZ3 (F.mallowlaw16_fresh env) (F.mheap_Heap_Alloc env) (F.mheap_Heap_Span env) (F.span_Span_Info env) (F.mheap_Heap_Owner env) (F.mheap_Heap_Of env) (F.mallowlaw16_awake env) x K Kp w
theorem fits3 : FitsOne Go.Proofs.Tryd.prog 3 C3 :=
  fits_of_tie (T := [(7, C7), (8, C8), (9, C9), (10, C10), (11, C11), (12, C12), (13, C13)]) (A := ann3) (fn := Go.Proofs.Tryd.f3) (c := body3) (fits_cons fits7 (fits_cons fits8 (fits_cons fits9 (fits_cons fits10 (fits_cons fits11 (fits_cons fits12 (fits_cons fits13 fits_nil))))))) mixed Go.Proofs.Tryd.func3 Go.Proofs.Tryd.call3 (by kernel_rfl) (by kernel_rfl) (by kernel_rfl) tie3

/- F.pcache_Cache_Flush -/
noncomputable def C31 : Entry := fun args w K Kp => unArgs [.one (.ptr), .one (.ptr)] args.toList fun x => F.pcache_Cache_Flush env x.1 x.2.1 (fun  w' => K (.tuple ⟨[]⟩) w') w
noncomputable def body31 : Code := (Go.Proofs.Tryd.f31.body).getD .skip
def ann31 : Ann := { loops := [(1, [(5, .one (.int .u64))])], joins := [] }
def T0.pcache_Cache_Flush (E : Env) (c_radix_Tree_Back : ∀ (a0 : (Option Addr)) (a1 : Int) (a2 : Int) (K : Int → World → Prop) (w : World), Prop) (c_radix_Tree_Give : ∀ (a0 : (Option Addr)) (a1 : Int) (a2 : Int) (K : Int → World → Prop) (w : World), Prop) (a0 : (Option Addr)) (a1 : (Option Addr)) (K : World → Prop) (w : World) : Prop :=
  LOOP (Int × Unit) (0, ()) w fun s1 _ w2 next3 =>
    CND (decide ((s1.1 : Int) < 64)) (
      NC a0 fun p4 =>
      ∃ x5 : Int, w2.cell? (p4.add 1) = some (.int .u64 x5) ∧
      (0 : Int) ≤ s1.1 ∧
      CND (((bitK .u64 0 (Int.fdiv x5 (2 ^ (min (Int.toNat s1.1) (IntKind.bits .u64)))) 1) : Int) == 0) (
        next3 (u64 (s1.1 + 1), ()) w2
      ) (
        NC a0 fun p6 =>
        ∃ x7 : Int, w2.cell? (p6.add 2) = some (.int .u64 x7) ∧
        (0 : Int) ≤ s1.1 ∧
        CND (((bitK .u64 0 (Int.fdiv x7 (2 ^ (min (Int.toNat s1.1) (IntKind.bits .u64)))) 1) : Int) == 1) (
          NC a0 fun p8 =>
          ∃ x9 : Int, w2.cell? p8 = some (.int .u64 x9) ∧
          c_radix_Tree_Back a1 (u64 (x9 + s1.1)) 1 (fun r10 w11 =>
          next3 (u64 (s1.1 + 1), ()) w11
          ) w2
        ) (
          NC a0 fun p12 =>
          ∃ x13 : Int, w2.cell? p12 = some (.int .u64 x13) ∧
          c_radix_Tree_Give a1 (u64 (x13 + s1.1)) 1 (fun r14 w15 =>
          next3 (u64 (s1.1 + 1), ()) w15
          ) w2
        )
      )
    ) (
      NC a0 fun p16 =>
      stCells p16 0 [.int .u64 0, .int .u64 0, .int .u64 0] w2 fun w17 =>
      K  w17
    )

theorem tieZ31 (c_radix_Tree_Back : ∀ (a0 : (Option Addr)) (a1 : Int) (a2 : Int) (K : Int → World → Prop) (w : World), Prop) (c_radix_Tree_Give : ∀ (a0 : (Option Addr)) (a1 : Int) (a2 : Int) (K : Int → World → Prop) (w : World), Prop) (x : ArgsV [.one (.ptr), .one (.ptr)]) (K Kp : Value → World → Prop) (w : World) : T0.pcache_Cache_Flush env c_radix_Tree_Back c_radix_Tree_Give x.1 x.2.1 (fun  w' => K (.tuple ⟨[]⟩) w') w =
    ev Go.Proofs.Tryd.prog (tabC [(58, fun args w K Kp => unArgs [.one (.ptr), .one (.int .u64), .one (.int .u64)] args.toList fun x => c_radix_Tree_Back x.1 x.2.1 x.2.2.1 (fun r1 w' => K (.int .i64 r1) w') w), (37, fun args w K Kp => unArgs [.one (.ptr), .one (.int .u64), .one (.int .u64)] args.toList fun x => c_radix_Tree_Give x.1 x.2.1 x.2.2.1 (fun r1 w' => K (.int .i64 r1) w') w)]) (ground Go.Proofs.Tryd.prog) ann31 body31 (finQ Go.Proofs.Tryd.prog Go.Proofs.Tryd.f31 K Kp) (initF (mkArgs [.one (.ptr), .one (.ptr)] x)) w := by kernel_rfl
theorem tie31 (x : ArgsV [.one (.ptr), .one (.ptr)]) (K Kp : Value → World → Prop) (w : World) : F.pcache_Cache_Flush env x.1 x.2.1 (fun  w' => K (.tuple ⟨[]⟩) w') w =
    ev Go.Proofs.Tryd.prog (tabC [(58, C58), (37, C37)]) (ground Go.Proofs.Tryd.prog) ann31 body31 (finQ Go.Proofs.Tryd.prog Go.Proofs.Tryd.f31 K Kp) (initF (mkArgs [.one (.ptr), .one (.ptr)] x)) w := tieZ31 (F.radix_Tree_Back env) (F.radix_Tree_Give env) x K Kp w
theorem fits31 : FitsOne Go.Proofs.Tryd.prog 31 C31 :=
  fits_of_tie (T := [(58, C58), (37, C37)]) (A := ann31) (fn := Go.Proofs.Tryd.f31) (c := body31) (fits_cons fits58 (fits_cons fits37 fits_nil)) mixed Go.Proofs.Tryd.func31 Go.Proofs.Tryd.call31 (by kernel_rfl) (by kernel_rfl) (by kernel_rfl) tie31

/- F.mheap_Heap_Flush -/
noncomputable def C14 : Entry := fun args w K Kp => unArgs [.one (.ptr), .one (.int .i64)] args.toList fun x => F.mheap_Heap_Flush env x.1 x.2.1 (fun  w' => K (.tuple ⟨[]⟩) w') w
noncomputable def body14 : Code := (Go.Proofs.Tryd.f14.body).getD .skip
def ann14 : Ann := { loops := [], joins := [] }
def T0.mheap_Heap_Flush (E : Env) (c_mheap_is : ∀ (a0 : Int) (K : Bool → World → Prop) (w : World), Prop) (c_pcache_Cache_Flush : ∀ (a0 : (Option Addr)) (a1 : (Option Addr)) (K : World → Prop) (w : World), Prop) (a0 : (Option Addr)) (a1 : Int) (K : World → Prop) (w : World) : Prop :=
  c_mheap_is a1 (fun r1 w2 =>
  CND (r1) (
    NC a0 fun p3 =>
    ((0 : Int) ≤ a1 ∧ (a1 : Int) < (64 : Nat)) ∧
    ∃ x4 : (Option Addr), w2.drew.cell? ((p3.add 5).add (Int.toNat a1 * 1)) = some (.pointer x4) ∧
    NC a0 fun p5 =>
    ∃ x6 : (Option Addr), w2.drew.cell? (p5.add 1) = some (.pointer x6) ∧
    c_pcache_Cache_Flush x4 x6 (fun  w7 =>
    K  w7
    ) w2.drew
  ) (
    K  w2
  )
  ) w

theorem tieZ14 (c_mheap_is : ∀ (a0 : Int) (K : Bool → World → Prop) (w : World), Prop) (c_pcache_Cache_Flush : ∀ (a0 : (Option Addr)) (a1 : (Option Addr)) (K : World → Prop) (w : World), Prop) (x : ArgsV [.one (.ptr), .one (.int .i64)]) (K Kp : Value → World → Prop) (w : World) : T0.mheap_Heap_Flush env c_mheap_is c_pcache_Cache_Flush x.1 x.2.1 (fun  w' => K (.tuple ⟨[]⟩) w') w =
    ev Go.Proofs.Tryd.prog (tabC [(30, fun args w K Kp => unArgs [.one (.int .i64)] args.toList fun x => c_mheap_is x.1 (fun r1 w' => K (.bool r1) w') w), (31, fun args w K Kp => unArgs [.one (.ptr), .one (.ptr)] args.toList fun x => c_pcache_Cache_Flush x.1 x.2.1 (fun  w' => K (.tuple ⟨[]⟩) w') w)]) (ground Go.Proofs.Tryd.prog) ann14 body14 (finQ Go.Proofs.Tryd.prog Go.Proofs.Tryd.f14 K Kp) (initF (mkArgs [.one (.ptr), .one (.int .i64)] x)) w := by kernel_rfl
theorem tie14 (x : ArgsV [.one (.ptr), .one (.int .i64)]) (K Kp : Value → World → Prop) (w : World) : F.mheap_Heap_Flush env x.1 x.2.1 (fun  w' => K (.tuple ⟨[]⟩) w') w =
    ev Go.Proofs.Tryd.prog (tabC [(30, C30), (31, C31)]) (ground Go.Proofs.Tryd.prog) ann14 body14 (finQ Go.Proofs.Tryd.prog Go.Proofs.Tryd.f14 K Kp) (initF (mkArgs [.one (.ptr), .one (.int .i64)] x)) w := tieZ14 (F.mheap_is env) (F.pcache_Cache_Flush env) x K Kp w
theorem fits14 : FitsOne Go.Proofs.Tryd.prog 14 C14 :=
  fits_of_tie (T := [(30, C30), (31, C31)]) (A := ann14) (fn := Go.Proofs.Tryd.f14) (c := body14) (fits_cons fits30 (fits_cons fits31 fits_nil)) mixed Go.Proofs.Tryd.func14 Go.Proofs.Tryd.call14 (by kernel_rfl) (by kernel_rfl) (by kernel_rfl) tie14

/- F.mallowlaw16_HeapCached -/
noncomputable def C4 : Entry := fun args w K Kp => unArgs [.one (.int .i64), .one (.int .i64)] args.toList fun x => F.mallowlaw16_HeapCached env x.1 x.2.1 (fun r1 w' => K (.bool r1) w') w
noncomputable def body4 : Code := (Go.Proofs.Tryd.f4.body).getD .skip
def ann4 : Ann := { loops := [(7, [(6, .one (.int .i64))]), (13, [(9, .one (.int .i64))]), (21, [(12, .one (.int .i64))])], joins := [(2, [(31, .one (.bool))]), (11, [(64, .one (.bool))]), (17, [(84, .one (.bool))])] }
def T0.mallowlaw16_HeapCached (E : Env) (c_mallowlaw16_fresh : ∀ (a0_0 : SlV) (a0_1 : SlV) (a0_2 : SlV) (K : (Option Addr) → World → Prop) (w : World), Prop) (c_mheap_Heap_Alloc : ∀ (a0 : (Option Addr)) (a1 : Int) (a2 : Int) (a3 : Int) (a4 : Bool) (K : Int → Int → World → Prop) (w : World), Prop) (c_mheap_Heap_Of : ∀ (a0 : (Option Addr)) (a1 : Int) (K : Int → World → Prop) (w : World), Prop) (c_mheap_Heap_Owner : ∀ (a0 : (Option Addr)) (a1 : Int) (K : Int → Int → World → Prop) (w : World), Prop) (c_mheap_Heap_Flush : ∀ (a0 : (Option Addr)) (a1 : Int) (K : World → Prop) (w : World), Prop) (c_mheap_Heap_Pages : ∀ (a0 : (Option Addr)) (K : Int → Int → Int → World → Prop) (w : World), Prop) (c_mallowlaw16_awake : ∀ (K : Bool → World → Prop) (w : World), Prop) (a0 : Int) (a1 : Int) (K : Bool → World → Prop) (w : World) : Prop :=
  JOIN (Bool × Unit) (fun J1 =>
    CND (decide ((a0 : Int) < 0)) (
      J1 (true, ()) w
    ) (
      CND (decide ((a0 : Int) > 63)) (
        J1 (true, ()) w
      ) (
        CND (decide ((a1 : Int) < 2)) (
          J1 (true, ()) w
        ) (
          J1 (decide ((a1 : Int) > 60), ()) w
        )
      )
    )
  ) fun s2 _ w3 =>
    CND (s2.1) (
      K true w3
    ) (
      c_mallowlaw16_fresh ⟨none, 0, 0⟩ ⟨none, 0, 0⟩ ⟨none, 0, 0⟩ (fun r4 w5 =>
      CND (r4.isNone) (
        K false w5
      ) (
        LOOP (Int × Unit) (0, ()) w5 fun s6 _ w7 next8 =>
          CND (decide ((s6.1 : Int) < a1)) (
            c_mheap_Heap_Alloc r4 a0 1 0 true (fun r9 r10 w11 =>
            JOIN (Bool × Unit) (fun J12 =>
              CND ((r9 : Int) != (i64 (s6.1 + 1))) (
                J12 (true, ()) w11
              ) (
                CND ((r10 : Int) != 0) (
                  J12 (true, ()) w11
                ) (
                  c_mheap_Heap_Of r4 (u64 ((u64 (i64 (512 + s6.1))) * 8192)) (fun r15 w16 =>
                  J12 ((r15 : Int) != r9, ()) w16
                  ) w11
                )
              )
            ) fun s13 _ w14 =>
              CND (s13.1) (
                K false w14
              ) (
                next8 (i64 (s6.1 + 1), ()) w14
              )
            ) w7
          ) (
            LOOP (Int × Unit) (i64 (512 + a1), ()) w7 fun s17 _ w18 next19 =>
              CND (decide ((s17.1 : Int) < 576)) (
                c_mheap_Heap_Owner r4 (u64 (s17.1)) (fun r20 r21 w22 =>
                JOIN (Bool × Unit) (fun J23 =>
                  CND ((r20 : Int) != 2) (
                    J23 (true, ()) w22
                  ) (
                    J23 ((r21 : Int) != a0, ()) w22
                  )
                ) fun s24 _ w25 =>
                  CND (s24.1) (
                    K false w25
                  ) (
                    next19 (i64 (s17.1 + 1), ()) w25
                  )
                ) w18
              ) (
                c_mheap_Heap_Flush r4 a0 (fun  w26 =>
                c_mheap_Heap_Flush r4 (-1) (fun  w27 =>
                LOOP (Int × Unit) (i64 (512 + a1), ()) w27 fun s28 _ w29 next30 =>
                  CND (decide ((s28.1 : Int) < 600)) (
                    c_mheap_Heap_Owner r4 (u64 (s28.1)) (fun r31 r32 w33 =>
                    CND ((r31 : Int) != 1) (
                      K false w33
                    ) (
                      next30 (i64 (s28.1 + 1), ()) w33
                    )
                    ) w29
                  ) (
                    c_mheap_Heap_Pages r4 (fun r34 r35 r36 w37 =>
                    CND ((r34 : Int) == 512) (
                      CND ((r35 : Int) == (u64 (a1))) (
                        CND ((r36 : Int) == (u64 (512 - (u64 (a1))))) (
                          c_mallowlaw16_awake  (fun r38 w39 =>
                          K r38 w39
                          ) w37
                        ) (
                          K false w37
                        )
                      ) (
                        K false w37
                      )
                    ) (
                      K false w37
                    )
                    ) w29
                  )
                ) w26
                ) w18
              )
          )
      )
      ) w3
    )

theorem tieZ4 (c_mallowlaw16_fresh : ∀ (a0_0 : SlV) (a0_1 : SlV) (a0_2 : SlV) (K : (Option Addr) → World → Prop) (w : World), Prop) (c_mheap_Heap_Alloc : ∀ (a0 : (Option Addr)) (a1 : Int) (a2 : Int) (a3 : Int) (a4 : Bool) (K : Int → Int → World → Prop) (w : World), Prop) (c_mheap_Heap_Of : ∀ (a0 : (Option Addr)) (a1 : Int) (K : Int → World → Prop) (w : World), Prop) (c_mheap_Heap_Owner : ∀ (a0 : (Option Addr)) (a1 : Int) (K : Int → Int → World → Prop) (w : World), Prop) (c_mheap_Heap_Flush : ∀ (a0 : (Option Addr)) (a1 : Int) (K : World → Prop) (w : World), Prop) (c_mheap_Heap_Pages : ∀ (a0 : (Option Addr)) (K : Int → Int → Int → World → Prop) (w : World), Prop) (c_mallowlaw16_awake : ∀ (K : Bool → World → Prop) (w : World), Prop) (x : ArgsV [.one (.int .i64), .one (.int .i64)]) (K Kp : Value → World → Prop) (w : World) : T0.mallowlaw16_HeapCached env c_mallowlaw16_fresh c_mheap_Heap_Alloc c_mheap_Heap_Of c_mheap_Heap_Owner c_mheap_Heap_Flush c_mheap_Heap_Pages c_mallowlaw16_awake x.1 x.2.1 (fun r1 w' => K (.bool r1) w') w =
    ev Go.Proofs.Tryd.prog (tabC [(7, fun args w K Kp => unArgs [.agg [.sl, .sl, .sl]] args.toList fun x => c_mallowlaw16_fresh x.1.1 x.1.2.1 x.1.2.2.1 (fun r1 w' => K (.pointer r1) w') w), (8, fun args w K Kp => unArgs [.one (.ptr), .one (.int .i64), .one (.int .u64), .one (.int .i64), .one (.bool)] args.toList fun x => c_mheap_Heap_Alloc x.1 x.2.1 x.2.2.1 x.2.2.2.1 x.2.2.2.2.1 (fun r1 r2 w' => K (.tuple ⟨[.int .i64 r1, .int .i64 r2]⟩) w') w), (12, fun args w K Kp => unArgs [.one (.ptr), .one (.int .u64)] args.toList fun x => c_mheap_Heap_Of x.1 x.2.1 (fun r1 w' => K (.int .i64 r1) w') w), (11, fun args w K Kp => unArgs [.one (.ptr), .one (.int .u64)] args.toList fun x => c_mheap_Heap_Owner x.1 x.2.1 (fun r1 r2 w' => K (.tuple ⟨[.int .i64 r1, .int .i64 r2]⟩) w') w), (14, fun args w K Kp => unArgs [.one (.ptr), .one (.int .i64)] args.toList fun x => c_mheap_Heap_Flush x.1 x.2.1 (fun  w' => K (.tuple ⟨[]⟩) w') w), (15, fun args w K Kp => unArgs [.one (.ptr)] args.toList fun x => c_mheap_Heap_Pages x.1 (fun r1 r2 r3 w' => K (.tuple ⟨[.int .u64 r1, .int .u64 r2, .int .u64 r3]⟩) w') w), (13, fun args w K Kp => unArgs [] args.toList fun x => c_mallowlaw16_awake  (fun r1 w' => K (.bool r1) w') w)]) (ground Go.Proofs.Tryd.prog) ann4 body4 (finQ Go.Proofs.Tryd.prog Go.Proofs.Tryd.f4 K Kp) (initF (mkArgs [.one (.int .i64), .one (.int .i64)] x)) w := by kernel_rfl
theorem tie4 (x : ArgsV [.one (.int .i64), .one (.int .i64)]) (K Kp : Value → World → Prop) (w : World) : F.mallowlaw16_HeapCached env x.1 x.2.1 (fun r1 w' => K (.bool r1) w') w =
    ev Go.Proofs.Tryd.prog (tabC [(7, C7), (8, C8), (12, C12), (11, C11), (14, C14), (15, C15), (13, C13)]) (ground Go.Proofs.Tryd.prog) ann4 body4 (finQ Go.Proofs.Tryd.prog Go.Proofs.Tryd.f4 K Kp) (initF (mkArgs [.one (.int .i64), .one (.int .i64)] x)) w := tieZ4 (F.mallowlaw16_fresh env) (F.mheap_Heap_Alloc env) (F.mheap_Heap_Of env) (F.mheap_Heap_Owner env) (F.mheap_Heap_Flush env) (F.mheap_Heap_Pages env) (F.mallowlaw16_awake env) x K Kp w
theorem fits4 : FitsOne Go.Proofs.Tryd.prog 4 C4 :=
  fits_of_tie (T := [(7, C7), (8, C8), (12, C12), (11, C11), (14, C14), (15, C15), (13, C13)]) (A := ann4) (fn := Go.Proofs.Tryd.f4) (c := body4) (fits_cons fits7 (fits_cons fits8 (fits_cons fits12 (fits_cons fits11 (fits_cons fits14 (fits_cons fits15 (fits_cons fits13 fits_nil))))))) mixed Go.Proofs.Tryd.func4 Go.Proofs.Tryd.call4 (by kernel_rfl) (by kernel_rfl) (by kernel_rfl) tie4

/- F.span_Span_Die -/
noncomputable def C35 : Entry := fun args w K Kp => unArgs [.one (.ptr)] args.toList fun x => F.span_Span_Die env x.1 (fun r1 w' => K (.int .i64 r1) w') w
noncomputable def body35 : Code := (Go.Proofs.Tryd.f35.body).getD .skip
def ann35 : Ann := { loops := [], joins := [(2, [(16, .one (.bool))])] }
theorem tie35 (x : ArgsV [.one (.ptr)]) (K Kp : Value → World → Prop) (w : World) : F.span_Span_Die env x.1 (fun r1 w' => K (.int .i64 r1) w') w =
    ev Go.Proofs.Tryd.prog (tabC []) (ground Go.Proofs.Tryd.prog) ann35 body35 (finQ Go.Proofs.Tryd.prog Go.Proofs.Tryd.f35 K Kp) (initF (mkArgs [.one (.ptr)] x)) w := by kernel_rfl
theorem fits35 : FitsOne Go.Proofs.Tryd.prog 35 C35 :=
  fits_of_tie (T := []) (A := ann35) (fn := Go.Proofs.Tryd.f35) (c := body35) fits_nil mixed Go.Proofs.Tryd.func35 Go.Proofs.Tryd.call35 (by kernel_rfl) (by kernel_rfl) (by kernel_rfl) tie35

/- F.fix_Fix_Live -/
noncomputable def C69 : Entry := fun args w K Kp => unArgs [.one (.ptr), .one (.int .i64)] args.toList fun x => F.fix_Fix_Live env x.1 x.2.1 (fun r1 w' => K (.bool r1) w') w
noncomputable def body69 : Code := (Go.Proofs.Tryd.f69.body).getD .skip
def ann69 : Ann := { loops := [], joins := [] }
theorem tie69 (x : ArgsV [.one (.ptr), .one (.int .i64)]) (K Kp : Value → World → Prop) (w : World) : F.fix_Fix_Live env x.1 x.2.1 (fun r1 w' => K (.bool r1) w') w =
    ev Go.Proofs.Tryd.prog (tabC []) (ground Go.Proofs.Tryd.prog) ann69 body69 (finQ Go.Proofs.Tryd.prog Go.Proofs.Tryd.f69 K Kp) (initF (mkArgs [.one (.ptr), .one (.int .i64)] x)) w := by kernel_rfl
theorem fits69 : FitsOne Go.Proofs.Tryd.prog 69 C69 :=
  fits_of_tie (T := []) (A := ann69) (fn := Go.Proofs.Tryd.f69) (c := body69) fits_nil mixed Go.Proofs.Tryd.func69 Go.Proofs.Tryd.call69 (by kernel_rfl) (by kernel_rfl) (by kernel_rfl) tie69

/- F.fix_Fix_Give -/
noncomputable def C38 : Entry := fun args w K Kp => unArgs [.one (.ptr), .one (.int .i64)] args.toList fun x => F.fix_Fix_Give env x.1 x.2.1 (fun r1 w' => K (.int .i64 r1) w') w
noncomputable def body38 : Code := (Go.Proofs.Tryd.f38.body).getD .skip
def ann38 : Ann := { loops := [], joins := [] }
def T0.fix_Fix_Give (E : Env) (c_fix_Fix_Live : ∀ (a0 : (Option Addr)) (a1 : Int) (K : Bool → World → Prop) (w : World), Prop) (a0 : (Option Addr)) (a1 : Int) (K : Int → World → Prop) (w : World) : Prop :=
  c_fix_Fix_Live a0 a1 (fun r1 w2 =>
  CND (!r1) (
    K 31 w2
  ) (
    NC a0 fun p3 =>
    ∃ x4 : SlV, w2.cell? (p3.add 1) = some (.slice x4.base x4.len x4.cap) ∧
    NC x4.base fun p5 =>
    ((0 : Int) ≤ (i64 (a1 - 1)) ∧ ((i64 (a1 - 1)) : Int) < (x4.len : Nat)) ∧
    ∃ x6 : (Option Addr), w2.cell? (p5.add (Int.toNat (i64 (a1 - 1)) * 1)) = some (.pointer x6) ∧
    NC a0 fun p7 =>
    ∃ x8 : (Option Addr), w2.cell? (p7.add 2) = some (.pointer x8) ∧
    NC x6 fun p9 =>
    stCells (p9.add 1) 0 [.bool false] w2 fun w10 =>
    NC x6 fun p11 =>
    stCells (p11.add 2) 0 [.pointer x8] w10 fun w12 =>
    NC a0 fun p13 =>
    stCells (p13.add 2) 0 [.pointer x6] w12 fun w14 =>
    NC a0 fun p15 =>
    ∃ x16 : Int, w14.cell? (p15.add 3) = some (.int .i64 x16) ∧
    NC a0 fun p17 =>
    stCells (p17.add 3) 0 [.int .i64 (i64 (x16 - 1))] w14 fun w18 =>
    K 0 w18
  )
  ) w

theorem tieZ38 (c_fix_Fix_Live : ∀ (a0 : (Option Addr)) (a1 : Int) (K : Bool → World → Prop) (w : World), Prop) (x : ArgsV [.one (.ptr), .one (.int .i64)]) (K Kp : Value → World → Prop) (w : World) : T0.fix_Fix_Give env c_fix_Fix_Live x.1 x.2.1 (fun r1 w' => K (.int .i64 r1) w') w =
    ev Go.Proofs.Tryd.prog (tabC [(69, fun args w K Kp => unArgs [.one (.ptr), .one (.int .i64)] args.toList fun x => c_fix_Fix_Live x.1 x.2.1 (fun r1 w' => K (.bool r1) w') w)]) (ground Go.Proofs.Tryd.prog) ann38 body38 (finQ Go.Proofs.Tryd.prog Go.Proofs.Tryd.f38 K Kp) (initF (mkArgs [.one (.ptr), .one (.int .i64)] x)) w := by kernel_rfl
theorem tie38 (x : ArgsV [.one (.ptr), .one (.int .i64)]) (K Kp : Value → World → Prop) (w : World) : F.fix_Fix_Give env x.1 x.2.1 (fun r1 w' => K (.int .i64 r1) w') w =
    ev Go.Proofs.Tryd.prog (tabC [(69, C69)]) (ground Go.Proofs.Tryd.prog) ann38 body38 (finQ Go.Proofs.Tryd.prog Go.Proofs.Tryd.f38 K Kp) (initF (mkArgs [.one (.ptr), .one (.int .i64)] x)) w := tieZ38 (F.fix_Fix_Live env) x K Kp w
theorem fits38 : FitsOne Go.Proofs.Tryd.prog 38 C38 :=
  fits_of_tie (T := [(69, C69)]) (A := ann38) (fn := Go.Proofs.Tryd.f38) (c := body38) (fits_cons fits69 fits_nil) mixed Go.Proofs.Tryd.func38 Go.Proofs.Tryd.call38 (by kernel_rfl) (by kernel_rfl) (by kernel_rfl) tie38

/- F.mheap_Heap_Free -/
noncomputable def C17 : Entry := fun args w K Kp => unArgs [.one (.ptr), .one (.int .i64)] args.toList fun x => F.mheap_Heap_Free env x.1 x.2.1 (fun r1 w' => K (.int .i64 r1) w') w
noncomputable def body17 : Code := (Go.Proofs.Tryd.f17.body).getD .skip
def ann17 : Ann := { loops := [], joins := [] }
def T0.mheap_Heap_Free (E : Env) (c_span_Span_Die : ∀ (a0 : (Option Addr)) (K : Int → World → Prop) (w : World), Prop) (c_span_Span_Info : ∀ (a0 : (Option Addr)) (K : Int → Int → Int → Int → Bool → Int → Int → Int → Bool → Bool → World → Prop) (w : World), Prop) (c_arena_Map_Set : ∀ (a0 : (Option Addr)) (a1 : Int) (a2 : Int) (a3 : Int) (K : Int → World → Prop) (w : World), Prop) (c_radix_Tree_Give : ∀ (a0 : (Option Addr)) (a1 : Int) (a2 : Int) (K : Int → World → Prop) (w : World), Prop) (c_fix_Fix_Give : ∀ (a0 : (Option Addr)) (a1 : Int) (K : Int → World → Prop) (w : World), Prop) (a0 : (Option Addr)) (a1 : Int) (K : Int → World → Prop) (w : World) : Prop :=
  NC a0 fun p1 =>
  ∃ x2 : (Option Nat), w.cell? (p1.add 4) = some (.map x2) ∧
  LKP .i64 a1 x2 w (.pointer none) fun v3 ok4 es5 =>
  ∃ x6 : (Option Addr), v3 = .pointer x6 ∧
  CND (!ok4) (
    K 35 w
  ) (
    c_span_Span_Die x6 (fun r7 w8 =>
    CND ((r7 : Int) != 0) (
      K r7 w8
    ) (
      c_span_Span_Info x6 (fun r9 r10 r11 r12 r13 r14 r15 r16 r17 r18 w19 =>
      AL (.cells #[.int .u64 0, .int .i64 0, .int .i64 0, .int .i64 0, .bool false, .int .i64 0, .int .i64 0, .int .i64 0, .bool false, .bool false] E.t_api_Info) w19 fun b20 w21 =>
      stCells (Addr.mk b20 0 none) 0 [.int .u64 r9, .int .i64 r10, .int .i64 r11, .int .i64 r12, .bool r13, .int .i64 r14, .int .i64 r15, .int .i64 r16, .bool r17, .bool r18] w21 fun w22 =>
      ∃ x23 : Int, w22.drew.cell? (Addr.mk b20 0 none) = some (.int .u64 x23) ∧
      8192 ≠ (0 : Int) ∧
      ∃ x24 : Int, w22.drew.cell? ((Addr.mk b20 0 none).add 1) = some (.int .i64 x24) ∧
      NC a0 fun p25 =>
      ∃ x26 : (Option Addr), w22.drew.cell? (p25.add 2) = some (.pointer x26) ∧
      c_arena_Map_Set x26 (u64 (Int.tdiv x23 8192)) (u64 (x24)) 0 (fun r27 w28 =>
      NC a0 fun p29 =>
      ∃ x30 : (Option Addr), w28.cell? (p29.add 1) = some (.pointer x30) ∧
      c_radix_Tree_Give x30 (u64 (Int.tdiv x23 8192)) (u64 (x24)) (fun r31 w32 =>
      NC a0 fun p33 =>
      ∃ x34 : (Option Addr), w32.cell? (p33.add 3) = some (.pointer x34) ∧
      c_fix_Fix_Give x34 a1 (fun r35 w36 =>
      NC a0 fun p37 =>
      ∃ x38 : Int, w36.cell? (p37.add 70) = some (.int .u64 x38) ∧
      NC a0 fun p39 =>
      stCells (p39.add 70) 0 [.int .u64 (u64 (x38 - (u64 (x24))))] w36 fun w40 =>
      NC a0 fun p41 =>
      ∃ x42 : (Option Nat), w40.cell? (p41.add 4) = some (.map x42) ∧
      MDEL .i64 a1 x42 w40 fun w43 =>
      K 0 w43
      ) w32
      ) w28
      ) w22.drew
      ) w8
    )
    ) w
  )

theorem tieZ17 (c_span_Span_Die : ∀ (a0 : (Option Addr)) (K : Int → World → Prop) (w : World), Prop) (c_span_Span_Info : ∀ (a0 : (Option Addr)) (K : Int → Int → Int → Int → Bool → Int → Int → Int → Bool → Bool → World → Prop) (w : World), Prop) (c_arena_Map_Set : ∀ (a0 : (Option Addr)) (a1 : Int) (a2 : Int) (a3 : Int) (K : Int → World → Prop) (w : World), Prop) (c_radix_Tree_Give : ∀ (a0 : (Option Addr)) (a1 : Int) (a2 : Int) (K : Int → World → Prop) (w : World), Prop) (c_fix_Fix_Give : ∀ (a0 : (Option Addr)) (a1 : Int) (K : Int → World → Prop) (w : World), Prop) (x : ArgsV [.one (.ptr), .one (.int .i64)]) (K Kp : Value → World → Prop) (w : World) : T0.mheap_Heap_Free env c_span_Span_Die c_span_Span_Info c_arena_Map_Set c_radix_Tree_Give c_fix_Fix_Give x.1 x.2.1 (fun r1 w' => K (.int .i64 r1) w') w =
    ev Go.Proofs.Tryd.prog (tabC [(35, fun args w K Kp => unArgs [.one (.ptr)] args.toList fun x => c_span_Span_Die x.1 (fun r1 w' => K (.int .i64 r1) w') w), (10, fun args w K Kp => unArgs [.one (.ptr)] args.toList fun x => c_span_Span_Info x.1 (fun r1 r2 r3 r4 r5 r6 r7 r8 r9 r10 w' => K (.agg ⟨[.int .u64 r1, .int .i64 r2, .int .i64 r3, .int .i64 r4, .bool r5, .int .i64 r6, .int .i64 r7, .int .i64 r8, .bool r9, .bool r10]⟩) w') w), (36, fun args w K Kp => unArgs [.one (.ptr), .one (.int .u64), .one (.int .u64), .one (.int .i64)] args.toList fun x => c_arena_Map_Set x.1 x.2.1 x.2.2.1 x.2.2.2.1 (fun r1 w' => K (.int .i64 r1) w') w), (37, fun args w K Kp => unArgs [.one (.ptr), .one (.int .u64), .one (.int .u64)] args.toList fun x => c_radix_Tree_Give x.1 x.2.1 x.2.2.1 (fun r1 w' => K (.int .i64 r1) w') w), (38, fun args w K Kp => unArgs [.one (.ptr), .one (.int .i64)] args.toList fun x => c_fix_Fix_Give x.1 x.2.1 (fun r1 w' => K (.int .i64 r1) w') w)]) (ground Go.Proofs.Tryd.prog) ann17 body17 (finQ Go.Proofs.Tryd.prog Go.Proofs.Tryd.f17 K Kp) (initF (mkArgs [.one (.ptr), .one (.int .i64)] x)) w := by kernel_rfl
theorem tie17 (x : ArgsV [.one (.ptr), .one (.int .i64)]) (K Kp : Value → World → Prop) (w : World) : F.mheap_Heap_Free env x.1 x.2.1 (fun r1 w' => K (.int .i64 r1) w') w =
    ev Go.Proofs.Tryd.prog (tabC [(35, C35), (10, C10), (36, C36), (37, C37), (38, C38)]) (ground Go.Proofs.Tryd.prog) ann17 body17 (finQ Go.Proofs.Tryd.prog Go.Proofs.Tryd.f17 K Kp) (initF (mkArgs [.one (.ptr), .one (.int .i64)] x)) w := tieZ17 (F.span_Span_Die env) (F.span_Span_Info env) (F.arena_Map_Set env) (F.radix_Tree_Give env) (F.fix_Fix_Give env) x K Kp w
theorem fits17 : FitsOne Go.Proofs.Tryd.prog 17 C17 :=
  fits_of_tie (T := [(35, C35), (10, C10), (36, C36), (37, C37), (38, C38)]) (A := ann17) (fn := Go.Proofs.Tryd.f17) (c := body17) (fits_cons fits35 (fits_cons fits10 (fits_cons fits36 (fits_cons fits37 (fits_cons fits38 fits_nil))))) mixed Go.Proofs.Tryd.func17 Go.Proofs.Tryd.call17 (by kernel_rfl) (by kernel_rfl) (by kernel_rfl) tie17

/- F.mallowlaw16_HeapClasses -/
noncomputable def C5 : Entry := fun args w K Kp => unArgs [.one (.int .i64), .one (.int .i64), .one (.bool)] args.toList fun x => F.mallowlaw16_HeapClasses env x.1 x.2.1 x.2.2.1 (fun r1 w' => K (.bool r1) w') w
noncomputable def body5 : Code := (Go.Proofs.Tryd.f5.body).getD .skip
def ann5 : Ann := { loops := [], joins := [(3, [(27, .one (.bool))]), (12, [(109, .one (.bool))]), (15, [(151, .one (.bool))]), (17, [(168, .one (.bool))])] }
def T0.mallowlaw16_HeapClasses (E : Env) (c_class_Table : ∀ (K : SlV → World → Prop) (w : World), Prop) (c_mallowlaw16_awake : ∀ (K : Bool → World → Prop) (w : World), Prop) (c_mallowlaw16_fresh : ∀ (a0_0 : SlV) (a0_1 : SlV) (a0_2 : SlV) (K : (Option Addr) → World → Prop) (w : World), Prop) (c_mheap_Heap_Alloc : ∀ (a0 : (Option Addr)) (a1 : Int) (a2 : Int) (a3 : Int) (a4 : Bool) (K : Int → Int → World → Prop) (w : World), Prop) (c_mheap_Heap_Span : ∀ (a0 : (Option Addr)) (a1 : Int) (K : (Option Addr) → Int → World → Prop) (w : World), Prop) (c_span_Span_Info : ∀ (a0 : (Option Addr)) (K : Int → Int → Int → Int → Bool → Int → Int → Int → Bool → Bool → World → Prop) (w : World), Prop) (c_mheap_Heap_Free : ∀ (a0 : (Option Addr)) (a1 : Int) (K : Int → World → Prop) (w : World), Prop) (c_mheap_Heap_Of : ∀ (a0 : (Option Addr)) (a1 : Int) (K : Int → World → Prop) (w : World), Prop) (a0 : Int) (a1 : Int) (a2 : Bool) (K : Bool → World → Prop) (w : World) : Prop :=
  c_class_Table  (fun r1 w2 =>
  JOIN (Bool × Unit) (fun J3 =>
    CND (decide ((a0 : Int) < 1)) (
      J3 (true, ()) w2
    ) (
      J3 (decide ((a0 : Int) ≥ ((r1.len : Nat) : Int)), ()) w2
    )
  ) fun s4 _ w5 =>
    CND (s4.1) (
      CND ((((r1.len : Nat) : Int) : Int) == 68) (
        c_mallowlaw16_awake  (fun r6 w7 =>
        K r6 w7
        ) w5
      ) (
        K false w5
      )
    ) (
      c_mallowlaw16_fresh ⟨none, 0, 0⟩ ⟨none, 0, 0⟩ ⟨none, 0, 0⟩ (fun r8 w9 =>
      CND (r8.isNone) (
        K false w9
      ) (
        NC r1.base fun p10 =>
        ((0 : Int) ≤ a0 ∧ (a0 : Int) < (r1.len : Nat)) ∧
        ∃ x11 : Int, w9.cell? ((p10.add (Int.toNat a0 * 4)).add 1) = some (.int .i64 x11) ∧
        c_mheap_Heap_Alloc r8 a1 (u64 (x11)) a0 a2 (fun r12 r13 w14 =>
        NC r1.base fun p15 =>
        ((0 : Int) ≤ a0 ∧ (a0 : Int) < (r1.len : Nat)) ∧
        ∃ x16 : Int, w14.cell? ((p15.add (Int.toNat a0 * 4)).add 1) = some (.int .i64 x16) ∧
        c_mheap_Heap_Alloc r8 a1 (u64 (x16)) a0 a2 (fun r17 r18 w19 =>
        NC r1.base fun p20 =>
        ((0 : Int) ≤ a0 ∧ (a0 : Int) < (r1.len : Nat)) ∧
        ∃ x21 : Int, w19.cell? ((p20.add (Int.toNat a0 * 4)).add 1) = some (.int .i64 x21) ∧
        c_mheap_Heap_Alloc r8 a1 (u64 (i64 (x21 + 1))) a0 a2 (fun r22 r23 w24 =>
        c_mheap_Heap_Span r8 r12 (fun r25 r26 w27 =>
        JOIN (Bool × Unit) (fun J28 =>
          CND ((r13 : Int) != 0) (
            J28 (true, ()) w27
          ) (
            CND ((r18 : Int) != 0) (
              J28 (true, ()) w27
            ) (
              CND ((r23 : Int) != 1) (
                J28 (true, ()) w27
              ) (
                CND ((r26 : Int) != 0) (
                  J28 (true, ()) w27
                ) (
                  CND (r25.isNone) (
                    J28 (true, ()) w27
                  ) (
                    J28 ((r12 : Int) == r17, ()) w27
                  )
                )
              )
            )
          )
        ) fun s29 _ w30 =>
          CND (s29.1) (
            K false w30
          ) (
            c_span_Span_Info r25 (fun r31 r32 r33 r34 r35 r36 r37 r38 r39 r40 w41 =>
            AL (.cells #[.int .u64 0, .int .i64 0, .int .i64 0, .int .i64 0, .bool false, .int .i64 0, .int .i64 0, .int .i64 0, .bool false, .bool false] E.t_api_Info) w41 fun b42 w43 =>
            stCells (Addr.mk b42 0 none) 0 [.int .u64 r31, .int .i64 r32, .int .i64 r33, .int .i64 r34, .bool r35, .int .i64 r36, .int .i64 r37, .int .i64 r38, .bool r39, .bool r40] w43 fun w44 =>
            JOIN (Bool × Unit) (fun J45 =>
              ∃ x48 : Int, w44.drew.cell? ((Addr.mk b42 0 none).add 3) = some (.int .i64 x48) ∧
              CND ((x48 : Int) != a0) (
                J45 (true, ()) w44.drew
              ) (
                ∃ x49 : Bool, w44.drew.cell? ((Addr.mk b42 0 none).add 4) = some (.bool x49) ∧
                CND (!(x49 == a2)) (
                  J45 (true, ()) w44.drew
                ) (
                  ∃ x50 : Int, w44.drew.cell? ((Addr.mk b42 0 none).add 6) = some (.int .i64 x50) ∧
                  NC r1.base fun p51 =>
                  ((0 : Int) ≤ a0 ∧ (a0 : Int) < (r1.len : Nat)) ∧
                  ∃ x52 : Int, w44.drew.cell? ((p51.add (Int.toNat a0 * 4)).add 2) = some (.int .i64 x52) ∧
                  CND ((x50 : Int) != x52) (
                    J45 (true, ()) w44.drew
                  ) (
                    ∃ x53 : Int, w44.drew.cell? ((Addr.mk b42 0 none).add 5) = some (.int .i64 x53) ∧
                    NC r1.base fun p54 =>
                    ((0 : Int) ≤ a0 ∧ (a0 : Int) < (r1.len : Nat)) ∧
                    ∃ x55 : Int, w44.drew.cell? (p54.add (Int.toNat a0 * 4)) = some (.int .i64 x55) ∧
                    CND ((x53 : Int) != x55) (
                      J45 (true, ()) w44.drew
                    ) (
                      ∃ x56 : Int, w44.drew.cell? ((Addr.mk b42 0 none).add 2) = some (.int .i64 x56) ∧
                      CND ((x56 : Int) != 1) (
                        J45 (true, ()) w44.drew
                      ) (
                        ∃ x57 : Int, w44.drew.cell? ((Addr.mk b42 0 none).add 7) = some (.int .i64 x57) ∧
                        J45 ((x57 : Int) != 0, ()) w44.drew
                      )
                    )
                  )
                )
              )
            ) fun s46 _ w47 =>
              CND (s46.1) (
                K false w47
              ) (
                JOIN (Bool × Unit) (fun J58 =>
                  c_mheap_Heap_Free r8 r12 (fun r61 w62 =>
                  CND ((r61 : Int) != 0) (
                    J58 (true, ()) w62
                  ) (
                    c_mheap_Heap_Free r8 r12 (fun r63 w64 =>
                    CND ((r63 : Int) != 35) (
                      J58 (true, ()) w64
                    ) (
                      ∃ x65 : Int, w64.cell? (Addr.mk b42 0 none) = some (.int .u64 x65) ∧
                      c_mheap_Heap_Of r8 x65 (fun r66 w67 =>
                      J58 ((r66 : Int) != 0, ()) w67
                      ) w64
                    )
                    ) w62
                  )
                  ) w47
                ) fun s59 _ w60 =>
                  CND (s59.1) (
                    K false w60
                  ) (
                    NC r1.base fun p68 =>
                    ((0 : Int) ≤ a0 ∧ (a0 : Int) < (r1.len : Nat)) ∧
                    ∃ x69 : Int, w60.cell? ((p68.add (Int.toNat a0 * 4)).add 1) = some (.int .i64 x69) ∧
                    c_mheap_Heap_Alloc r8 a1 (u64 (x69)) a0 (!a2) (fun r70 r71 w72 =>
                    CND ((r70 : Int) == r12) (
                      CND ((r71 : Int) == 0) (
                        c_mallowlaw16_awake  (fun r73 w74 =>
                        K r73 w74
                        ) w72
                      ) (
                        K false w72
                      )
                    ) (
                      K false w72
                    )
                    ) w60
                  )
              )
            ) w30
          )
        ) w24
        ) w19
        ) w14
        ) w9
      )
      ) w5
    )
  ) w

theorem tieZ5 (c_class_Table : ∀ (K : SlV → World → Prop) (w : World), Prop) (c_mallowlaw16_awake : ∀ (K : Bool → World → Prop) (w : World), Prop) (c_mallowlaw16_fresh : ∀ (a0_0 : SlV) (a0_1 : SlV) (a0_2 : SlV) (K : (Option Addr) → World → Prop) (w : World), Prop) (c_mheap_Heap_Alloc : ∀ (a0 : (Option Addr)) (a1 : Int) (a2 : Int) (a3 : Int) (a4 : Bool) (K : Int → Int → World → Prop) (w : World), Prop) (c_mheap_Heap_Span : ∀ (a0 : (Option Addr)) (a1 : Int) (K : (Option Addr) → Int → World → Prop) (w : World), Prop) (c_span_Span_Info : ∀ (a0 : (Option Addr)) (K : Int → Int → Int → Int → Bool → Int → Int → Int → Bool → Bool → World → Prop) (w : World), Prop) (c_mheap_Heap_Free : ∀ (a0 : (Option Addr)) (a1 : Int) (K : Int → World → Prop) (w : World), Prop) (c_mheap_Heap_Of : ∀ (a0 : (Option Addr)) (a1 : Int) (K : Int → World → Prop) (w : World), Prop) (x : ArgsV [.one (.int .i64), .one (.int .i64), .one (.bool)]) (K Kp : Value → World → Prop) (w : World) : T0.mallowlaw16_HeapClasses env c_class_Table c_mallowlaw16_awake c_mallowlaw16_fresh c_mheap_Heap_Alloc c_mheap_Heap_Span c_span_Span_Info c_mheap_Heap_Free c_mheap_Heap_Of x.1 x.2.1 x.2.2.1 (fun r1 w' => K (.bool r1) w') w =
    ev Go.Proofs.Tryd.prog (tabC [(16, fun args w K Kp => unArgs [] args.toList fun x => c_class_Table  (fun r1 w' => K (.slice r1.base r1.len r1.cap) w') w), (13, fun args w K Kp => unArgs [] args.toList fun x => c_mallowlaw16_awake  (fun r1 w' => K (.bool r1) w') w), (7, fun args w K Kp => unArgs [.agg [.sl, .sl, .sl]] args.toList fun x => c_mallowlaw16_fresh x.1.1 x.1.2.1 x.1.2.2.1 (fun r1 w' => K (.pointer r1) w') w), (8, fun args w K Kp => unArgs [.one (.ptr), .one (.int .i64), .one (.int .u64), .one (.int .i64), .one (.bool)] args.toList fun x => c_mheap_Heap_Alloc x.1 x.2.1 x.2.2.1 x.2.2.2.1 x.2.2.2.2.1 (fun r1 r2 w' => K (.tuple ⟨[.int .i64 r1, .int .i64 r2]⟩) w') w), (9, fun args w K Kp => unArgs [.one (.ptr), .one (.int .i64)] args.toList fun x => c_mheap_Heap_Span x.1 x.2.1 (fun r1 r2 w' => K (.tuple ⟨[.pointer r1, .int .i64 r2]⟩) w') w), (10, fun args w K Kp => unArgs [.one (.ptr)] args.toList fun x => c_span_Span_Info x.1 (fun r1 r2 r3 r4 r5 r6 r7 r8 r9 r10 w' => K (.agg ⟨[.int .u64 r1, .int .i64 r2, .int .i64 r3, .int .i64 r4, .bool r5, .int .i64 r6, .int .i64 r7, .int .i64 r8, .bool r9, .bool r10]⟩) w') w), (17, fun args w K Kp => unArgs [.one (.ptr), .one (.int .i64)] args.toList fun x => c_mheap_Heap_Free x.1 x.2.1 (fun r1 w' => K (.int .i64 r1) w') w), (12, fun args w K Kp => unArgs [.one (.ptr), .one (.int .u64)] args.toList fun x => c_mheap_Heap_Of x.1 x.2.1 (fun r1 w' => K (.int .i64 r1) w') w)]) (ground Go.Proofs.Tryd.prog) ann5 body5 (finQ Go.Proofs.Tryd.prog Go.Proofs.Tryd.f5 K Kp) (initF (mkArgs [.one (.int .i64), .one (.int .i64), .one (.bool)] x)) w := by kernel_rfl
theorem tie5 (x : ArgsV [.one (.int .i64), .one (.int .i64), .one (.bool)]) (K Kp : Value → World → Prop) (w : World) : F.mallowlaw16_HeapClasses env x.1 x.2.1 x.2.2.1 (fun r1 w' => K (.bool r1) w') w =
    ev Go.Proofs.Tryd.prog (tabC [(16, C16), (13, C13), (7, C7), (8, C8), (9, C9), (10, C10), (17, C17), (12, C12)]) (ground Go.Proofs.Tryd.prog) ann5 body5 (finQ Go.Proofs.Tryd.prog Go.Proofs.Tryd.f5 K Kp) (initF (mkArgs [.one (.int .i64), .one (.int .i64), .one (.bool)] x)) w := tieZ5 (F.class_Table env) (F.mallowlaw16_awake env) (F.mallowlaw16_fresh env) (F.mheap_Heap_Alloc env) (F.mheap_Heap_Span env) (F.span_Span_Info env) (F.mheap_Heap_Free env) (F.mheap_Heap_Of env) x K Kp w
theorem fits5 : FitsOne Go.Proofs.Tryd.prog 5 C5 :=
  fits_of_tie (T := [(16, C16), (13, C13), (7, C7), (8, C8), (9, C9), (10, C10), (17, C17), (12, C12)]) (A := ann5) (fn := Go.Proofs.Tryd.f5) (c := body5) (fits_cons fits16 (fits_cons fits13 (fits_cons fits7 (fits_cons fits8 (fits_cons fits9 (fits_cons fits10 (fits_cons fits17 (fits_cons fits12 fits_nil)))))))) mixed Go.Proofs.Tryd.func5 Go.Proofs.Tryd.call5 (by kernel_rfl) (by kernel_rfl) (by kernel_rfl) tie5

/- F.mheap_Heap_Mem -/
noncomputable def C18 : Entry := fun args w K Kp => unArgs [.one (.ptr)] args.toList fun x => F.mheap_Heap_Mem env x.1 (fun r1 w' => K (.pointer r1) w') w
noncomputable def body18 : Code := (Go.Proofs.Tryd.f18.body).getD .skip
def ann18 : Ann := { loops := [], joins := [] }
theorem tie18 (x : ArgsV [.one (.ptr)]) (K Kp : Value → World → Prop) (w : World) : F.mheap_Heap_Mem env x.1 (fun r1 w' => K (.pointer r1) w') w =
    ev Go.Proofs.Tryd.prog (tabC []) (ground Go.Proofs.Tryd.prog) ann18 body18 (finQ Go.Proofs.Tryd.prog Go.Proofs.Tryd.f18 K Kp) (initF (mkArgs [.one (.ptr)] x)) w := by kernel_rfl
theorem fits18 : FitsOne Go.Proofs.Tryd.prog 18 C18 :=
  fits_of_tie (T := []) (A := ann18) (fn := Go.Proofs.Tryd.f18) (c := body18) fits_nil mixed Go.Proofs.Tryd.func18 Go.Proofs.Tryd.call18 (by kernel_rfl) (by kernel_rfl) (by kernel_rfl) tie18

/- F.vmem_Mem_at -/
noncomputable def C40 : Entry := fun args w K Kp => unArgs [.one (.ptr), .one (.int .u64)] args.toList fun x => F.vmem_Mem_at env x.1 x.2.1 (fun r1 r2 w' => K (.tuple ⟨[.int .u64 r1, .int .u64 r2]⟩) w') Kp w
noncomputable def body40 : Code := (Go.Proofs.Tryd.f40.body).getD .skip
def ann40 : Ann := { loops := [], joins := [] }
def T0.vmem_Mem_at (E : Env) (c_stretch_Set_Has : ∀ (a0 : (Option Addr)) (a1 : Int) (K : Bool → World → Prop) (w : World), Prop) (a0 : (Option Addr)) (a1 : Int) (K : Int → Int → World → Prop) (Kp : Value → World → Prop) (w : World) : Prop :=
  8192 ≠ (0 : Int) ∧
  8 ≠ (0 : Int) ∧
  CND (((Int.tmod a1 8) : Int) != 0) (
    Kp (.iface E.t_vmem_fault (.agg ⟨[.int .i64 11]⟩)) w
  ) (
    NC a0 fun p1 =>
    c_stretch_Set_Has (some (p1.add 5)) (u64 (Int.tdiv a1 8192)) (fun r2 w3 =>
    CND (!r2) (
      Kp (.iface E.t_vmem_fault (.agg ⟨[.int .i64 12]⟩)) w3
    ) (
      8192 ≠ (0 : Int) ∧
      8 ≠ (0 : Int) ∧
      LET (u64 (Int.tdiv (Int.tmod a1 8192) 8) : Int) fun t4 =>
      K (u64 (Int.tdiv a1 8192)) t4 w3
    )
    ) w
  )

theorem tieZ40 (c_stretch_Set_Has : ∀ (a0 : (Option Addr)) (a1 : Int) (K : Bool → World → Prop) (w : World), Prop) (x : ArgsV [.one (.ptr), .one (.int .u64)]) (K Kp : Value → World → Prop) (w : World) : T0.vmem_Mem_at env c_stretch_Set_Has x.1 x.2.1 (fun r1 r2 w' => K (.tuple ⟨[.int .u64 r1, .int .u64 r2]⟩) w') Kp w =
    ev Go.Proofs.Tryd.prog (tabC [(55, fun args w K Kp => unArgs [.one (.ptr), .one (.int .u64)] args.toList fun x => c_stretch_Set_Has x.1 x.2.1 (fun r1 w' => K (.bool r1) w') w)]) (ground Go.Proofs.Tryd.prog) ann40 body40 (finQ Go.Proofs.Tryd.prog Go.Proofs.Tryd.f40 K Kp) (initF (mkArgs [.one (.ptr), .one (.int .u64)] x)) w := by kernel_rfl
theorem tie40 (x : ArgsV [.one (.ptr), .one (.int .u64)]) (K Kp : Value → World → Prop) (w : World) : F.vmem_Mem_at env x.1 x.2.1 (fun r1 r2 w' => K (.tuple ⟨[.int .u64 r1, .int .u64 r2]⟩) w') Kp w =
    ev Go.Proofs.Tryd.prog (tabC [(55, C55)]) (ground Go.Proofs.Tryd.prog) ann40 body40 (finQ Go.Proofs.Tryd.prog Go.Proofs.Tryd.f40 K Kp) (initF (mkArgs [.one (.ptr), .one (.int .u64)] x)) w := tieZ40 (F.stretch_Set_Has env) x K Kp w
theorem fits40 : FitsOne Go.Proofs.Tryd.prog 40 C40 :=
  fits_of_tie (T := [(55, C55)]) (A := ann40) (fn := Go.Proofs.Tryd.f40) (c := body40) (fits_cons fits55 fits_nil) mixed Go.Proofs.Tryd.func40 Go.Proofs.Tryd.call40 (by kernel_rfl) (by kernel_rfl) (by kernel_rfl) tie40

/- F.vmem_caught -/
noncomputable def D39 : EntryD := fun args pv w K => unArgs [.one (.ptr)] args.toList fun x => F.vmem_caught env x.1 (pv.getD .nilIface) (fun w' => K pv.isSome w') w
noncomputable def body39 : Code := (Go.Proofs.Tryd.f39.body).getD .skip
def ann39 : Ann := { loops := [], joins := [] }
noncomputable def rest39 : Code := ((recOf body39).map (·.2)).getD .skip
theorem tie39 (x : ArgsV [.one (.ptr)]) (v : Value) (K : World → Prop) (w : World) : F.vmem_caught env x.1 v K w =
    ev Go.Proofs.Tryd.prog (tabC []) (ground Go.Proofs.Tryd.prog) ann39 rest39 (finQ Go.Proofs.Tryd.prog Go.Proofs.Tryd.f39 (fun _ w' => K w') noP) ((initF (mkArgs [.one (.ptr)] x)).put 5 v) w := by kernel_rfl
theorem fitsD39 : FitsDOne Go.Proofs.Tryd.prog 39 D39 :=
  fitsD_rec (T := []) (A := ann39) (fn := Go.Proofs.Tryd.f39) (c := body39) (y := rest39) (d := 5) (l := [.one (.ptr)]) (F := fun (x : ArgsV [.one (.ptr)]) v K w => F.vmem_caught env x.1 v K w) fits_nil mixed Go.Proofs.Tryd.func39 Go.Proofs.Tryd.call39 (by kernel_rfl) (by kernel_rfl) (by kernel_rfl) (by kernel_rfl) (by kernel_rfl) tie39

/- F.vmem_Mem_Load -/
noncomputable def C19 : Entry := fun args w K Kp => unArgs [.one (.ptr), .one (.int .u64)] args.toList fun x => F.vmem_Mem_Load env x.1 x.2.1 (fun r1 r2 w' => K (.tuple ⟨[.int .u64 r1, .int .i64 r2]⟩) w') w
noncomputable def body19 : Code := (Go.Proofs.Tryd.f19.body).getD .skip
def ann19 : Ann := { loops := [], joins := [] }
def T0.vmem_Mem_Load (E : Env) (c_vmem_Mem_at : ∀ (a0 : (Option Addr)) (a1 : Int) (K : Int → Int → World → Prop) (Kp : Value → World → Prop) (w : World), Prop) (a0 : (Option Addr)) (a1 : Int) (K : Int → Int → World → Prop) (w : World) : Prop :=
  AL (.cells #[.int .i64 0] E.t_api_Errno) w fun b1 w2 =>
  c_vmem_Mem_at a0 a1 (fun r3 r4 w5 =>
  NC a0 fun p6 =>
  ∃ x7 : (Option Nat), w5.cell? (p6.add 10) = some (.map x7) ∧
  LKP .u64 r3 x7 w5 (.pointer none) fun v8 ok9 es10 =>
  ∃ x11 : (Option Addr), v8 = .pointer x11 ∧
  CND (!x11.isNone) (
    NC x11 fun p12 =>
    ((0 : Int) ≤ r4 ∧ (r4 : Int) < (1024 : Nat)) ∧
    ∃ x13 : Int, w5.cell? (p12.add (Int.toNat r4 * 1)) = some (.int .u64 x13) ∧
    stCells (Addr.mk b1 0 none) 0 [.int .i64 0] w5 fun w14 =>
    F.vmem_caught E (some (Addr.mk b1 0 none)) .nilIface (fun w15 =>
      ∃ x16 : Int, w15.cell? (Addr.mk b1 0 none) = some (.int .i64 x16) ∧
      K x13 x16 w15
    ) w14
  ) (
    NC a0 fun p17 =>
    ∃ x18 : (Option Nat), w5.cell? (p17.add 9) = some (.map x18) ∧
    LKP .u64 r3 x18 w5 (.int .u64 0) fun v19 ok20 es21 =>
    ∃ x22 : Int, v19 = .int .u64 x22 ∧
    stCells (Addr.mk b1 0 none) 0 [.int .i64 0] w5 fun w23 =>
    F.vmem_caught E (some (Addr.mk b1 0 none)) .nilIface (fun w24 =>
      ∃ x25 : Int, w24.cell? (Addr.mk b1 0 none) = some (.int .i64 x25) ∧
      K x22 x25 w24
    ) w23
  )
  ) (fun v26 w27 =>
    F.vmem_caught E (some (Addr.mk b1 0 none)) v26 (fun w28 =>
      ∃ x29 : Int, w28.cell? (Addr.mk b1 0 none) = some (.int .i64 x29) ∧
      K 0 x29 w28
    ) w27
  ) w2

theorem tieZ19 (c_vmem_Mem_at : ∀ (a0 : (Option Addr)) (a1 : Int) (K : Int → Int → World → Prop) (Kp : Value → World → Prop) (w : World), Prop) (x : ArgsV [.one (.ptr), .one (.int .u64)]) (K : Value → World → Prop) (w : World) : T0.vmem_Mem_Load env c_vmem_Mem_at x.1 x.2.1 (fun r1 r2 w' => K (.tuple ⟨[.int .u64 r1, .int .i64 r2]⟩) w') w =
    evD Go.Proofs.Tryd.prog (tabC [(40, fun args w K Kp => unArgs [.one (.ptr), .one (.int .u64)] args.toList fun x => c_vmem_Mem_at x.1 x.2.1 (fun r1 r2 w' => K (.tuple ⟨[.int .u64 r1, .int .u64 r2]⟩) w') Kp w)]) (ground Go.Proofs.Tryd.prog) ann19 (finQ Go.Proofs.Tryd.prog Go.Proofs.Tryd.f19 K noP) (finD Go.Proofs.Tryd.prog Go.Proofs.Tryd.f19 (tabD [(39, D39)]) K noP) body19 (initF (mkArgs [.one (.ptr), .one (.int .u64)] x)) w := by kernel_rfl
theorem tie19 (x : ArgsV [.one (.ptr), .one (.int .u64)]) (K : Value → World → Prop) (w : World) : F.vmem_Mem_Load env x.1 x.2.1 (fun r1 r2 w' => K (.tuple ⟨[.int .u64 r1, .int .i64 r2]⟩) w') w =
    evD Go.Proofs.Tryd.prog (tabC [(40, C40)]) (ground Go.Proofs.Tryd.prog) ann19 (finQ Go.Proofs.Tryd.prog Go.Proofs.Tryd.f19 K noP) (finD Go.Proofs.Tryd.prog Go.Proofs.Tryd.f19 (tabD [(39, D39)]) K noP) body19 (initF (mkArgs [.one (.ptr), .one (.int .u64)] x)) w := tieZ19 (F.vmem_Mem_at env) x K w
theorem fits19 : FitsOne Go.Proofs.Tryd.prog 19 C19 :=
  fits_of_tieD (T := [(40, C40)]) (TD := [(39, D39)]) (A := ann19) (fn := Go.Proofs.Tryd.f19) (c := body19) (fits_cons fits40 fits_nil) (fitsD_cons fitsD39 fitsD_nil) mixed Go.Proofs.Tryd.func19 Go.Proofs.Tryd.call19 (by kernel_rfl) (by kernel_rfl) (by kernel_rfl) tie19

/- F.vmem_Mem_stored -/
noncomputable def C41 : Entry := fun args w K Kp => unArgs [.one (.ptr), .one (.int .u64)] args.toList fun x => F.vmem_Mem_stored env x.1 x.2.1 (fun r1 w' => K (.pointer r1) w') w
noncomputable def body41 : Code := (Go.Proofs.Tryd.f41.body).getD .skip
def ann41 : Ann := { loops := [(5, [(16, .one (.int .i64))])], joins := [] }
theorem tie41 (x : ArgsV [.one (.ptr), .one (.int .u64)]) (K Kp : Value → World → Prop) (w : World) : F.vmem_Mem_stored env x.1 x.2.1 (fun r1 w' => K (.pointer r1) w') w =
    ev Go.Proofs.Tryd.prog (tabC []) (ground Go.Proofs.Tryd.prog) ann41 body41 (finQ Go.Proofs.Tryd.prog Go.Proofs.Tryd.f41 K Kp) (initF (mkArgs [.one (.ptr), .one (.int .u64)] x)) w := by kernel_rfl
theorem fits41 : FitsOne Go.Proofs.Tryd.prog 41 C41 :=
  fits_of_tie (T := []) (A := ann41) (fn := Go.Proofs.Tryd.f41) (c := body41) fits_nil mixed Go.Proofs.Tryd.func41 Go.Proofs.Tryd.call41 (by kernel_rfl) (by kernel_rfl) (by kernel_rfl) tie41

/- F.vmem_Mem_Store -/
noncomputable def C20 : Entry := fun args w K Kp => unArgs [.one (.ptr), .one (.int .u64), .one (.int .u64)] args.toList fun x => F.vmem_Mem_Store env x.1 x.2.1 x.2.2.1 (fun r1 w' => K (.int .i64 r1) w') w
noncomputable def body20 : Code := (Go.Proofs.Tryd.f20.body).getD .skip
def ann20 : Ann := { loops := [], joins := [] }
def T0.vmem_Mem_Store (E : Env) (c_vmem_Mem_at : ∀ (a0 : (Option Addr)) (a1 : Int) (K : Int → Int → World → Prop) (Kp : Value → World → Prop) (w : World), Prop) (c_vmem_Mem_stored : ∀ (a0 : (Option Addr)) (a1 : Int) (K : (Option Addr) → World → Prop) (w : World), Prop) (a0 : (Option Addr)) (a1 : Int) (a2 : Int) (K : Int → World → Prop) (w : World) : Prop :=
  AL (.cells #[.int .i64 0] E.t_api_Errno) w fun b1 w2 =>
  c_vmem_Mem_at a0 a1 (fun r3 r4 w5 =>
  c_vmem_Mem_stored a0 r3 (fun r6 w7 =>
  NC r6 fun p8 =>
  ((0 : Int) ≤ r4 ∧ (r4 : Int) < (1024 : Nat)) ∧
  stCells (p8.add (Int.toNat r4 * 1)) 0 [.int .u64 a2] w7 fun w9 =>
  stCells (Addr.mk b1 0 none) 0 [.int .i64 0] w9 fun w10 =>
  F.vmem_caught E (some (Addr.mk b1 0 none)) .nilIface (fun w11 =>
    ∃ x12 : Int, w11.cell? (Addr.mk b1 0 none) = some (.int .i64 x12) ∧
    K x12 w11
  ) w10
  ) w5
  ) (fun v13 w14 =>
    F.vmem_caught E (some (Addr.mk b1 0 none)) v13 (fun w15 =>
      ∃ x16 : Int, w15.cell? (Addr.mk b1 0 none) = some (.int .i64 x16) ∧
      K x16 w15
    ) w14
  ) w2

theorem tieZ20 (c_vmem_Mem_at : ∀ (a0 : (Option Addr)) (a1 : Int) (K : Int → Int → World → Prop) (Kp : Value → World → Prop) (w : World), Prop) (c_vmem_Mem_stored : ∀ (a0 : (Option Addr)) (a1 : Int) (K : (Option Addr) → World → Prop) (w : World), Prop) (x : ArgsV [.one (.ptr), .one (.int .u64), .one (.int .u64)]) (K : Value → World → Prop) (w : World) : T0.vmem_Mem_Store env c_vmem_Mem_at c_vmem_Mem_stored x.1 x.2.1 x.2.2.1 (fun r1 w' => K (.int .i64 r1) w') w =
    evD Go.Proofs.Tryd.prog (tabC [(40, fun args w K Kp => unArgs [.one (.ptr), .one (.int .u64)] args.toList fun x => c_vmem_Mem_at x.1 x.2.1 (fun r1 r2 w' => K (.tuple ⟨[.int .u64 r1, .int .u64 r2]⟩) w') Kp w), (41, fun args w K Kp => unArgs [.one (.ptr), .one (.int .u64)] args.toList fun x => c_vmem_Mem_stored x.1 x.2.1 (fun r1 w' => K (.pointer r1) w') w)]) (ground Go.Proofs.Tryd.prog) ann20 (finQ Go.Proofs.Tryd.prog Go.Proofs.Tryd.f20 K noP) (finD Go.Proofs.Tryd.prog Go.Proofs.Tryd.f20 (tabD [(39, D39)]) K noP) body20 (initF (mkArgs [.one (.ptr), .one (.int .u64), .one (.int .u64)] x)) w := by kernel_rfl
theorem tie20 (x : ArgsV [.one (.ptr), .one (.int .u64), .one (.int .u64)]) (K : Value → World → Prop) (w : World) : F.vmem_Mem_Store env x.1 x.2.1 x.2.2.1 (fun r1 w' => K (.int .i64 r1) w') w =
    evD Go.Proofs.Tryd.prog (tabC [(40, C40), (41, C41)]) (ground Go.Proofs.Tryd.prog) ann20 (finQ Go.Proofs.Tryd.prog Go.Proofs.Tryd.f20 K noP) (finD Go.Proofs.Tryd.prog Go.Proofs.Tryd.f20 (tabD [(39, D39)]) K noP) body20 (initF (mkArgs [.one (.ptr), .one (.int .u64), .one (.int .u64)] x)) w := tieZ20 (F.vmem_Mem_at env) (F.vmem_Mem_stored env) x K w
theorem fits20 : FitsOne Go.Proofs.Tryd.prog 20 C20 :=
  fits_of_tieD (T := [(40, C40), (41, C41)]) (TD := [(39, D39)]) (A := ann20) (fn := Go.Proofs.Tryd.f20) (c := body20) (fits_cons fits40 (fits_cons fits41 fits_nil)) (fitsD_cons fitsD39 fitsD_nil) mixed Go.Proofs.Tryd.func20 Go.Proofs.Tryd.call20 (by kernel_rfl) (by kernel_rfl) (by kernel_rfl) tie20

/- F.mallowlaw16_HeapGrows -/
noncomputable def C6 : Entry := fun args w K Kp => unArgs [.one (.sl)] args.toList fun x => F.mallowlaw16_HeapGrows env x.1 (fun r1 w' => K (.bool r1) w') w
noncomputable def body6 : Code := (Go.Proofs.Tryd.f6.body).getD .skip
def ann6 : Ann := { loops := [(8, [(4, .one (.int .u64)), (5, .one (.int .i64))]), (18, [(11, .one (.int .u64))])], joins := [(12, [(39, .one (.bool))]), (16, [(73, .one (.bool))]), (22, [(112, .one (.bool))])] }
def T0.mallowlaw16_HeapGrows (E : Env) (c_mallowlaw16_fresh : ∀ (a0_0 : SlV) (a0_1 : SlV) (a0_2 : SlV) (K : (Option Addr) → World → Prop) (w : World), Prop) (c_mheap_Heap_Alloc : ∀ (a0 : (Option Addr)) (a1 : Int) (a2 : Int) (a3 : Int) (a4 : Bool) (K : Int → Int → World → Prop) (w : World), Prop) (c_mheap_Heap_Span : ∀ (a0 : (Option Addr)) (a1 : Int) (K : (Option Addr) → Int → World → Prop) (w : World), Prop) (c_span_Span_Info : ∀ (a0 : (Option Addr)) (K : Int → Int → Int → Int → Bool → Int → Int → Int → Bool → Bool → World → Prop) (w : World), Prop) (c_mheap_Heap_Mem : ∀ (a0 : (Option Addr)) (K : (Option Addr) → World → Prop) (w : World), Prop) (c_vmem_Mem_Load : ∀ (a0 : (Option Addr)) (a1 : Int) (K : Int → Int → World → Prop) (w : World), Prop) (c_vmem_Mem_Store : ∀ (a0 : (Option Addr)) (a1 : Int) (a2 : Int) (K : Int → World → Prop) (w : World), Prop) (c_mheap_Heap_Pages : ∀ (a0 : (Option Addr)) (K : Int → Int → Int → World → Prop) (w : World), Prop) (c_mallowlaw16_awake : ∀ (K : Bool → World → Prop) (w : World), Prop) (a0 : SlV) (K : Bool → World → Prop) (w : World) : Prop :=
  CND (decide ((((a0.len : Nat) : Int) : Int) > 20)) (
    K true w
  ) (
    c_mallowlaw16_fresh ⟨none, 0, 0⟩ ⟨none, 0, 0⟩ ⟨none, 0, 0⟩ (fun r1 w2 =>
    CND (r1.isNone) (
      K false w2
    ) (
      LOOP (Int × Int × Unit) (512, 0, ()) w2 fun s3 _ w4 next5 =>
        CND (decide ((s3.2.1 : Int) < ((a0.len : Nat) : Int))) (
          NC a0.base fun p6 =>
          ((0 : Int) ≤ s3.2.1 ∧ (s3.2.1 : Int) < (a0.len : Nat)) ∧
          ∃ x7 : Int, w4.cell? (p6.add (Int.toNat s3.2.1 * 1)) = some (.int .u64 x7) ∧
          JOIN (Bool × Unit) (fun J8 =>
            CND (decide ((x7 : Int) < 1)) (
              J8 (true, ()) w4
            ) (
              J8 (decide ((x7 : Int) > 1500), ()) w4
            )
          ) fun s9 _ w10 =>
            CND (s9.1) (
              K true w10
            ) (
              c_mheap_Heap_Alloc r1 (-1) x7 0 false (fun r11 r12 w13 =>
              c_mheap_Heap_Span r1 r11 (fun r14 r15 w16 =>
              JOIN (Bool × Unit) (fun J17 =>
                CND ((r12 : Int) != 0) (
                  J17 (true, ()) w16
                ) (
                  CND (r14.isNone) (
                    J17 (true, ()) w16
                  ) (
                    c_span_Span_Info r14 (fun r20 r21 r22 r23 r24 r25 r26 r27 r28 r29 w30 =>
                    CND ((r20 : Int) != (u64 (s3.1 * 8192))) (
                      J17 (true, ()) w30
                    ) (
                      c_span_Span_Info r14 (fun r31 r32 r33 r34 r35 r36 r37 r38 r39 r40 w41 =>
                      J17 ((r32 : Int) != (i64 (x7)), ()) w41
                      ) w30
                    )
                    ) w16
                  )
                )
              ) fun s18 _ w19 =>
                CND (s18.1) (
                  K false w19
                ) (
                  LOOP (Int × Unit) (0, ()) w19 fun s42 _ w43 next44 =>
                    CND (decide ((s42.1 : Int) < x7)) (
                      c_mheap_Heap_Mem r1 (fun r45 w46 =>
                      8192 ≠ (0 : Int) ∧
                      c_vmem_Mem_Load r45 (u64 ((u64 ((u64 (s3.1 + s42.1)) * 8192)) + (Int.tmod (u64 (8 * s42.1)) 8192))) (fun r47 r48 w49 =>
                      JOIN (Bool × Unit) (fun J50 =>
                        CND ((r47 : Int) != 0) (
                          J50 (true, ()) w49
                        ) (
                          CND ((r48 : Int) != 0) (
                            J50 (true, ()) w49
                          ) (
                            c_mheap_Heap_Mem r1 (fun r53 w54 =>
                            c_vmem_Mem_Store r53 (u64 ((u64 (s3.1 + s42.1)) * 8192)) x7 (fun r55 w56 =>
                            J50 ((r55 : Int) != 0, ()) w56
                            ) w54
                            ) w49
                          )
                        )
                      ) fun s51 _ w52 =>
                        CND (s51.1) (
                          K false w52
                        ) (
                          9 ≠ (0 : Int) ∧
                          LET (u64 (s42.1 + (u64 (1 + (u64 (Int.tdiv x7 9))))) : Int) fun k_57 =>
                          next44 (k_57, ()) w52
                        )
                      ) w46
                      ) w43
                    ) (
                      next5 (u64 (s3.1 + x7), i64 (s3.2.1 + 1), ()) w43
                    )
                )
              ) w13
              ) w10
            )
        ) (
          c_mheap_Heap_Pages r1 (fun r58 r59 r60 w61 =>
          CND ((r59 : Int) == (u64 (s3.1 - 512))) (
            CND (decide ((r58 : Int) ≥ r59)) (
              512 ≠ (0 : Int) ∧
              CND (((Int.tmod r58 512) : Int) == 0) (
                CND ((r60 : Int) == (u64 (r58 - r59))) (
                  c_mallowlaw16_awake  (fun r62 w63 =>
                  K r62 w63
                  ) w61
                ) (
                  K false w61
                )
              ) (
                K false w61
              )
            ) (
              K false w61
            )
          ) (
            K false w61
          )
          ) w4
        )
    )
    ) w
  )

theorem tieZ6 (c_mallowlaw16_fresh : ∀ (a0_0 : SlV) (a0_1 : SlV) (a0_2 : SlV) (K : (Option Addr) → World → Prop) (w : World), Prop) (c_mheap_Heap_Alloc : ∀ (a0 : (Option Addr)) (a1 : Int) (a2 : Int) (a3 : Int) (a4 : Bool) (K : Int → Int → World → Prop) (w : World), Prop) (c_mheap_Heap_Span : ∀ (a0 : (Option Addr)) (a1 : Int) (K : (Option Addr) → Int → World → Prop) (w : World), Prop) (c_span_Span_Info : ∀ (a0 : (Option Addr)) (K : Int → Int → Int → Int → Bool → Int → Int → Int → Bool → Bool → World → Prop) (w : World), Prop) (c_mheap_Heap_Mem : ∀ (a0 : (Option Addr)) (K : (Option Addr) → World → Prop) (w : World), Prop) (c_vmem_Mem_Load : ∀ (a0 : (Option Addr)) (a1 : Int) (K : Int → Int → World → Prop) (w : World), Prop) (c_vmem_Mem_Store : ∀ (a0 : (Option Addr)) (a1 : Int) (a2 : Int) (K : Int → World → Prop) (w : World), Prop) (c_mheap_Heap_Pages : ∀ (a0 : (Option Addr)) (K : Int → Int → Int → World → Prop) (w : World), Prop) (c_mallowlaw16_awake : ∀ (K : Bool → World → Prop) (w : World), Prop) (x : ArgsV [.one (.sl)]) (K Kp : Value → World → Prop) (w : World) : T0.mallowlaw16_HeapGrows env c_mallowlaw16_fresh c_mheap_Heap_Alloc c_mheap_Heap_Span c_span_Span_Info c_mheap_Heap_Mem c_vmem_Mem_Load c_vmem_Mem_Store c_mheap_Heap_Pages c_mallowlaw16_awake x.1 (fun r1 w' => K (.bool r1) w') w =
    ev Go.Proofs.Tryd.prog (tabC [(7, fun args w K Kp => unArgs [.agg [.sl, .sl, .sl]] args.toList fun x => c_mallowlaw16_fresh x.1.1 x.1.2.1 x.1.2.2.1 (fun r1 w' => K (.pointer r1) w') w), (8, fun args w K Kp => unArgs [.one (.ptr), .one (.int .i64), .one (.int .u64), .one (.int .i64), .one (.bool)] args.toList fun x => c_mheap_Heap_Alloc x.1 x.2.1 x.2.2.1 x.2.2.2.1 x.2.2.2.2.1 (fun r1 r2 w' => K (.tuple ⟨[.int .i64 r1, .int .i64 r2]⟩) w') w), (9, fun args w K Kp => unArgs [.one (.ptr), .one (.int .i64)] args.toList fun x => c_mheap_Heap_Span x.1 x.2.1 (fun r1 r2 w' => K (.tuple ⟨[.pointer r1, .int .i64 r2]⟩) w') w), (10, fun args w K Kp => unArgs [.one (.ptr)] args.toList fun x => c_span_Span_Info x.1 (fun r1 r2 r3 r4 r5 r6 r7 r8 r9 r10 w' => K (.agg ⟨[.int .u64 r1, .int .i64 r2, .int .i64 r3, .int .i64 r4, .bool r5, .int .i64 r6, .int .i64 r7, .int .i64 r8, .bool r9, .bool r10]⟩) w') w), (18, fun args w K Kp => unArgs [.one (.ptr)] args.toList fun x => c_mheap_Heap_Mem x.1 (fun r1 w' => K (.pointer r1) w') w), (19, fun args w K Kp => unArgs [.one (.ptr), .one (.int .u64)] args.toList fun x => c_vmem_Mem_Load x.1 x.2.1 (fun r1 r2 w' => K (.tuple ⟨[.int .u64 r1, .int .i64 r2]⟩) w') w), (20, fun args w K Kp => unArgs [.one (.ptr), .one (.int .u64), .one (.int .u64)] args.toList fun x => c_vmem_Mem_Store x.1 x.2.1 x.2.2.1 (fun r1 w' => K (.int .i64 r1) w') w), (15, fun args w K Kp => unArgs [.one (.ptr)] args.toList fun x => c_mheap_Heap_Pages x.1 (fun r1 r2 r3 w' => K (.tuple ⟨[.int .u64 r1, .int .u64 r2, .int .u64 r3]⟩) w') w), (13, fun args w K Kp => unArgs [] args.toList fun x => c_mallowlaw16_awake  (fun r1 w' => K (.bool r1) w') w)]) (ground Go.Proofs.Tryd.prog) ann6 body6 (finQ Go.Proofs.Tryd.prog Go.Proofs.Tryd.f6 K Kp) (initF (mkArgs [.one (.sl)] x)) w := by kernel_rfl
theorem tie6 (x : ArgsV [.one (.sl)]) (K Kp : Value → World → Prop) (w : World) : F.mallowlaw16_HeapGrows env x.1 (fun r1 w' => K (.bool r1) w') w =
    ev Go.Proofs.Tryd.prog (tabC [(7, C7), (8, C8), (9, C9), (10, C10), (18, C18), (19, C19), (20, C20), (15, C15), (13, C13)]) (ground Go.Proofs.Tryd.prog) ann6 body6 (finQ Go.Proofs.Tryd.prog Go.Proofs.Tryd.f6 K Kp) (initF (mkArgs [.one (.sl)] x)) w := tieZ6 (F.mallowlaw16_fresh env) (F.mheap_Heap_Alloc env) (F.mheap_Heap_Span env) (F.span_Span_Info env) (F.mheap_Heap_Mem env) (F.vmem_Mem_Load env) (F.vmem_Mem_Store env) (F.mheap_Heap_Pages env) (F.mallowlaw16_awake env) x K Kp w
theorem fits6 : FitsOne Go.Proofs.Tryd.prog 6 C6 :=
  fits_of_tie (T := [(7, C7), (8, C8), (9, C9), (10, C10), (18, C18), (19, C19), (20, C20), (15, C15), (13, C13)]) (A := ann6) (fn := Go.Proofs.Tryd.f6) (c := body6) (fits_cons fits7 (fits_cons fits8 (fits_cons fits9 (fits_cons fits10 (fits_cons fits18 (fits_cons fits19 (fits_cons fits20 (fits_cons fits15 (fits_cons fits13 fits_nil))))))))) mixed Go.Proofs.Tryd.func6 Go.Proofs.Tryd.call6 (by kernel_rfl) (by kernel_rfl) (by kernel_rfl) tie6

/- F.arena_Map_leaf -/
noncomputable def C67 : Entry := fun args w K Kp => unArgs [.one (.ptr), .one (.int .u64)] args.toList fun x => F.arena_Map_leaf env x.1 x.2.1 (fun r1 w' => K (.pointer r1) w') w
noncomputable def body67 : Code := (Go.Proofs.Tryd.f67.body).getD .skip
def ann67 : Ann := { loops := [(7, [(25, .one (.int .i64))])], joins := [] }
def T0.arena_Map_leaf (E : Env) (c_arena_Map_whole : ∀ (a0 : (Option Addr)) (a1 : Int) (K : Int → World → Prop) (w : World), Prop) (c_arena_Map_cut : ∀ (a0 : (Option Addr)) (a1 : Int) (a2 : Int) (K : World → Prop) (w : World), Prop) (a0 : (Option Addr)) (a1 : Int) (K : (Option Addr) → World → Prop) (w : World) : Prop :=
  NC a0 fun p1 =>
  ∃ x2 : (Option Nat), w.cell? (p1.add 3) = some (.map x2) ∧
  LKP .u64 a1 x2 w (.pointer none) fun v3 ok4 es5 =>
  ∃ x6 : (Option Addr), v3 = .pointer x6 ∧
  CND (x6.isNone) (
    c_arena_Map_whole a0 a1 (fun r7 w8 =>
    c_arena_Map_cut a0 a1 (u64 (a1 + 1)) (fun  w9 =>
    AL (.cells (Array.replicate 512 (.int .i64 0)) E.t__512_int) w9 fun b10 w11 =>
    LOOP (Int × Unit) (0, ()) w11 fun s12 _ w13 next14 =>
      CND (decide ((s12.1 : Int) < 512)) (
        ((0 : Int) ≤ s12.1 ∧ (s12.1 : Int) < (512 : Nat)) ∧
        stCells ((Addr.mk b10 0 none).add (Int.toNat s12.1 * 1)) 0 [.int .i64 r7] w13 fun w15 =>
        next14 (i64 (s12.1 + 1), ()) w15
      ) (
        NC a0 fun p16 =>
        ∃ x17 : (Option Nat), w13.cell? (p16.add 3) = some (.map x17) ∧
        MUPD .u64 a1 (.pointer (some (Addr.mk b10 0 none))) x17 w13 fun w18 =>
        K (some (Addr.mk b10 0 none)) w18
      )
    ) w8
    ) w
  ) (
    K x6 w
  )

theorem tieZ67 (c_arena_Map_whole : ∀ (a0 : (Option Addr)) (a1 : Int) (K : Int → World → Prop) (w : World), Prop) (c_arena_Map_cut : ∀ (a0 : (Option Addr)) (a1 : Int) (a2 : Int) (K : World → Prop) (w : World), Prop) (x : ArgsV [.one (.ptr), .one (.int .u64)]) (K Kp : Value → World → Prop) (w : World) : T0.arena_Map_leaf env c_arena_Map_whole c_arena_Map_cut x.1 x.2.1 (fun r1 w' => K (.pointer r1) w') w =
    ev Go.Proofs.Tryd.prog (tabC [(57, fun args w K Kp => unArgs [.one (.ptr), .one (.int .u64)] args.toList fun x => c_arena_Map_whole x.1 x.2.1 (fun r1 w' => K (.int .i64 r1) w') w), (65, fun args w K Kp => unArgs [.one (.ptr), .one (.int .u64), .one (.int .u64)] args.toList fun x => c_arena_Map_cut x.1 x.2.1 x.2.2.1 (fun  w' => K (.tuple ⟨[]⟩) w') w)]) (ground Go.Proofs.Tryd.prog) ann67 body67 (finQ Go.Proofs.Tryd.prog Go.Proofs.Tryd.f67 K Kp) (initF (mkArgs [.one (.ptr), .one (.int .u64)] x)) w := by kernel_rfl
theorem tie67 (x : ArgsV [.one (.ptr), .one (.int .u64)]) (K Kp : Value → World → Prop) (w : World) : F.arena_Map_leaf env x.1 x.2.1 (fun r1 w' => K (.pointer r1) w') w =
    ev Go.Proofs.Tryd.prog (tabC [(57, C57), (65, C65)]) (ground Go.Proofs.Tryd.prog) ann67 body67 (finQ Go.Proofs.Tryd.prog Go.Proofs.Tryd.f67 K Kp) (initF (mkArgs [.one (.ptr), .one (.int .u64)] x)) w := tieZ67 (F.arena_Map_whole env) (F.arena_Map_cut env) x K Kp w
theorem fits67 : FitsOne Go.Proofs.Tryd.prog 67 C67 :=
  fits_of_tie (T := [(57, C57), (65, C65)]) (A := ann67) (fn := Go.Proofs.Tryd.f67) (c := body67) (fits_cons fits57 (fits_cons fits65 fits_nil)) mixed Go.Proofs.Tryd.func67 Go.Proofs.Tryd.call67 (by kernel_rfl) (by kernel_rfl) (by kernel_rfl) tie67

/- F.arena_Map_Set_1 -/
noncomputable def C66 : Entry := fun args w K Kp => unArgs [.one (.int .u64), .one (.int .u64), .one (.ptr), .one (.ptr)] args.toList fun x => F.arena_Map_Set_1 env x.1 x.2.1 x.2.2.1 x.2.2.2.1 (fun  w' => K (.tuple ⟨[]⟩) w') w
noncomputable def body66 : Code := (Go.Proofs.Tryd.f66.body).getD .skip
def ann66 : Ann := { loops := [(1, [(6, .one (.int .u64))])], joins := [] }
def T0.arena_Map_Set_1 (E : Env) (c_arena_Map_leaf : ∀ (a0 : (Option Addr)) (a1 : Int) (K : (Option Addr) → World → Prop) (w : World), Prop) (a0 : Int) (a1 : Int) (a2 : (Option Addr)) (a3 : (Option Addr)) (K : World → Prop) (w : World) : Prop :=
  LOOP (Int × Unit) (a0, ()) w fun s1 _ w2 next3 =>
    CND (decide ((s1.1 : Int) < a1)) (
      NC a3 fun p4 =>
      ∃ x5 : (Option Addr), w2.drew.cell? p4 = some (.pointer x5) ∧
      512 ≠ (0 : Int) ∧
      512 ≠ (0 : Int) ∧
      NC a2 fun p6 =>
      ∃ x7 : Int, w2.drew.cell? p6 = some (.int .i64 x7) ∧
      c_arena_Map_leaf x5 (u64 (Int.tdiv s1.1 512)) (fun r8 w9 =>
      w9.cell? p6 = some (.int .i64 x7) ∧
      NC r8 fun p10 =>
      ((0 : Int) ≤ (Int.tmod s1.1 512) ∧ ((Int.tmod s1.1 512) : Int) < (512 : Nat)) ∧
      stCells (p10.add (Int.toNat (Int.tmod s1.1 512) * 1)) 0 [.int .i64 x7] w9 fun w11 =>
      next3 (u64 (s1.1 + 1), ()) w11
      ) w2.drew
    ) (
      K  w2
    )

theorem tieZ66 (c_arena_Map_leaf : ∀ (a0 : (Option Addr)) (a1 : Int) (K : (Option Addr) → World → Prop) (w : World), Prop) (x : ArgsV [.one (.int .u64), .one (.int .u64), .one (.ptr), .one (.ptr)]) (K Kp : Value → World → Prop) (w : World) : T0.arena_Map_Set_1 env c_arena_Map_leaf x.1 x.2.1 x.2.2.1 x.2.2.2.1 (fun  w' => K (.tuple ⟨[]⟩) w') w =
    ev Go.Proofs.Tryd.prog (tabC [(67, fun args w K Kp => unArgs [.one (.ptr), .one (.int .u64)] args.toList fun x => c_arena_Map_leaf x.1 x.2.1 (fun r1 w' => K (.pointer r1) w') w)]) (ground Go.Proofs.Tryd.prog) ann66 body66 (finQ Go.Proofs.Tryd.prog Go.Proofs.Tryd.f66 K Kp) (initF (mkArgs [.one (.int .u64), .one (.int .u64), .one (.ptr), .one (.ptr)] x)) w := by kernel_rfl
theorem tie66 (x : ArgsV [.one (.int .u64), .one (.int .u64), .one (.ptr), .one (.ptr)]) (K Kp : Value → World → Prop) (w : World) : F.arena_Map_Set_1 env x.1 x.2.1 x.2.2.1 x.2.2.2.1 (fun  w' => K (.tuple ⟨[]⟩) w') w =
    ev Go.Proofs.Tryd.prog (tabC [(67, C67)]) (ground Go.Proofs.Tryd.prog) ann66 body66 (finQ Go.Proofs.Tryd.prog Go.Proofs.Tryd.f66 K Kp) (initF (mkArgs [.one (.int .u64), .one (.int .u64), .one (.ptr), .one (.ptr)] x)) w := tieZ66 (F.arena_Map_leaf env) x K Kp w
theorem fits66 : FitsOne Go.Proofs.Tryd.prog 66 C66 :=
  fits_of_tie (T := [(67, C67)]) (A := ann66) (fn := Go.Proofs.Tryd.f66) (c := body66) (fits_cons fits67 fits_nil) mixed Go.Proofs.Tryd.func66 Go.Proofs.Tryd.call66 (by kernel_rfl) (by kernel_rfl) (by kernel_rfl) tie66

/- F.stretch_Set_at_1 -/
noncomputable def C93 : Entry := fun args w K Kp => unArgs [.one (.int .i64), .one (.ptr), .one (.ptr)] args.toList fun x => F.stretch_Set_at_1 env x.1 x.2.1 x.2.2.1 (fun r1 w' => K (.bool r1) w') w
noncomputable def body93 : Code := (Go.Proofs.Tryd.f93.body).getD .skip
def ann93 : Ann := { loops := [], joins := [] }
theorem tie93 (x : ArgsV [.one (.int .i64), .one (.ptr), .one (.ptr)]) (K Kp : Value → World → Prop) (w : World) : F.stretch_Set_at_1 env x.1 x.2.1 x.2.2.1 (fun r1 w' => K (.bool r1) w') w =
    ev Go.Proofs.Tryd.prog (tabC []) (ground Go.Proofs.Tryd.prog) ann93 body93 (finQ Go.Proofs.Tryd.prog Go.Proofs.Tryd.f93 K Kp) (initF (mkArgs [.one (.int .i64), .one (.ptr), .one (.ptr)] x)) w := by kernel_rfl
theorem fits93 : FitsOne Go.Proofs.Tryd.prog 93 C93 :=
  fits_of_tie (T := []) (A := ann93) (fn := Go.Proofs.Tryd.f93) (c := body93) fits_nil mixed Go.Proofs.Tryd.func93 Go.Proofs.Tryd.call93 (by kernel_rfl) (by kernel_rfl) (by kernel_rfl) tie93

/- F.gosem_cut_vars -/
noncomputable def C119 : Entry := fun args w K Kp => unArgs [] args.toList fun x => F.gosem_cut_vars env  (fun  w' => K (.tuple ⟨[]⟩) w') w
noncomputable def body119 : Code := (Go.Proofs.Tryd.f119.body).getD .skip
def ann119 : Ann := { loops := [], joins := [] }
theorem tie119 (x : ArgsV []) (K Kp : Value → World → Prop) (w : World) : F.gosem_cut_vars env  (fun  w' => K (.tuple ⟨[]⟩) w') w =
    ev Go.Proofs.Tryd.prog (tabC []) (ground Go.Proofs.Tryd.prog) ann119 body119 (finQ Go.Proofs.Tryd.prog Go.Proofs.Tryd.f119 K Kp) (initF (mkArgs [] x)) w := by kernel_rfl
theorem fits119 : FitsOne Go.Proofs.Tryd.prog 119 C119 :=
  fits_of_tie (T := []) (A := ann119) (fn := Go.Proofs.Tryd.f119) (c := body119) fits_nil mixed Go.Proofs.Tryd.func119 Go.Proofs.Tryd.call119 (by kernel_rfl) (by kernel_rfl) (by kernel_rfl) tie119

end Go.Sh

set_option linter.all false
namespace Go.Sh

theorem at1_mono {E : Env} {i : Int} {p1 p2 : Option Addr} {w : World} {K K' : Bool → World → Prop} (hk : ∀ b w', K b w' → K' b w') (h : F.stretch_Set_at_1 E i p1 p2 K w) : F.stretch_Set_at_1 E i p1 p2 K' w := by
  unfold F.stretch_Set_at_1 at h ⊢
  obtain ⟨q1, rfl, x2, h2, h⟩ := NC_elim h
  obtain ⟨q3, rfl, x4, h4, h⟩ := NC_elim h
  obtain ⟨q5, h5, hi, x6, h6, h⟩ := NC_elim h
  obtain ⟨q7, rfl, x8, h8, h⟩ := NC_elim h
  refine ⟨some q3, h2, x4, h4, ?_⟩
  rw [h5]
  exact ⟨hi, x6, h6, x8, h8, hk _ _ h⟩

theorem ground_mono {P : Program} (g : FuncId) (args : Array Value) (w : World) (K K' : Value → World → Prop) (hk : ∀ v w', K v w' → K' v w') (h : ground P g args w K noP) : ground P g args w K' noP :=
  ⟨h.1, h.2.mono fun e w' hE => let ⟨v, hv, h⟩ := hE.val; .inl ⟨v, hv, hk v w' h⟩⟩

end Go.Sh
