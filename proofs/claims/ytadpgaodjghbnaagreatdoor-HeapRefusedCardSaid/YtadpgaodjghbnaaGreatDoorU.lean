/- Each shallow form is what the code of its function comes to: the second half. No further condition. -/
import Derived.Test.YtadpgaodjghbnaaGreatDoorT
import Derived.Test.YtadpgaodjghbnaaGreatDoorProg
import Derived.KernelRfl
import Derived.Test.YtadpgaodjghbnaaGreatDoorS
import Derived.Test.YtadpgaodjghbnaaGreatDoorA
import Derived.Calls
set_option linter.all false
set_option maxRecDepth 100000
set_option maxHeartbeats 4000000
namespace Go.Sh
open Go.Proofs

noncomputable def C80 : Entry := fun args w K Kp => unArgs [.one (.ptr), .one (.int .u64), .one (.int .u64)] args.toList fun x => F.vmem_Mem_Ready env x.1 x.2.1 x.2.2.1 (fun r1 w' => K (.slice r1.base r1.len r1.cap) w') w
noncomputable def body80 : Code := (Go.Proofs.Tryz.f80.body).getD .skip
def ann80 : Ann := { loops := [], joins := [] }
def T0.vmem_Mem_Ready (E : Env) (c_stretch_Set_Within : ∀ (a0 : (Option Addr)) (a1 : Int) (a2 : Int) (K : SlV → World → Prop) (w : World), Prop) (a0 : (Option Addr)) (a1 : Int) (a2 : Int) (K : SlV → World → Prop) (w : World) : Prop :=
 NC a0 fun p1 =>
 c_stretch_Set_Within (some (p1.add 5)) a1 a2 (fun r2 w3 =>
 K r2 w3
 ) w

theorem tieZ80 (c_stretch_Set_Within : ∀ (a0 : (Option Addr)) (a1 : Int) (a2 : Int) (K : SlV → World → Prop) (w : World), Prop) (x : ArgsV [.one (.ptr), .one (.int .u64), .one (.int .u64)]) (K Kp : Value → World → Prop) (w : World) : T0.vmem_Mem_Ready env c_stretch_Set_Within x.1 x.2.1 x.2.2.1 (fun r1 w' => K (.slice r1.base r1.len r1.cap) w') w =
 ev Go.Proofs.Tryz.prog (tabC [(84, fun args w K Kp => unArgs [.one (.ptr), .one (.int .u64), .one (.int .u64)] args.toList fun x => c_stretch_Set_Within x.1 x.2.1 x.2.2.1 (fun r1 w' => K (.slice r1.base r1.len r1.cap) w') w)]) (ground Go.Proofs.Tryz.prog) ann80 body80 (finQ Go.Proofs.Tryz.prog Go.Proofs.Tryz.f80 K Kp) (initF (mkArgs [.one (.ptr), .one (.int .u64), .one (.int .u64)] x)) w := by kernel_rfl
theorem tie80 (x : ArgsV [.one (.ptr), .one (.int .u64), .one (.int .u64)]) (K Kp : Value → World → Prop) (w : World) : F.vmem_Mem_Ready env x.1 x.2.1 x.2.2.1 (fun r1 w' => K (.slice r1.base r1.len r1.cap) w') w =
 ev Go.Proofs.Tryz.prog (tabC [(84, C84)]) (ground Go.Proofs.Tryz.prog) ann80 body80 (finQ Go.Proofs.Tryz.prog Go.Proofs.Tryz.f80 K Kp) (initF (mkArgs [.one (.ptr), .one (.int .u64), .one (.int .u64)] x)) w := tieZ80 (F.stretch_Set_Within env) x K Kp w
theorem fits80 : FitsOne Go.Proofs.Tryz.prog 80 C80 :=
 fits_of_tie (T := [(84, C84)]) (A := ann80) (fn := Go.Proofs.Tryz.f80) (c := body80) (fits_cons fits84 fits_nil) mixed Go.Proofs.Tryz.func80 Go.Proofs.Tryz.call80 (by kernel_rfl) (by kernel_rfl) (by kernel_rfl) tie80

noncomputable def C81 : Entry := fun args w K Kp => unArgs [.one (.ptr), .one (.int .u64), .one (.int .u64)] args.toList fun x => F.radix_Tree_Back env x.1 x.2.1 x.2.2.1 (fun r1 w' => K (.int .i64 r1) w') w
noncomputable def body81 : Code := (Go.Proofs.Tryz.f81.body).getD .skip
def ann81 : Ann := { loops := [], joins := [] }
def T0.radix_Tree_Back (E : Env) (c_radix_Tree_freed : ∀ (a0 : (Option Addr)) (a1 : Int) (a2 : Int) (a3 : (Option Addr)) (K : Int → World → Prop) (w : World), Prop) (a0 : (Option Addr)) (a1 : Int) (a2 : Int) (K : Int → World → Prop) (w : World) : Prop :=
 NC a0 fun p1 =>
 c_radix_Tree_freed a0 a1 a2 (some (p1.add 4)) (fun r2 w3 =>
 K r2 w3
 ) w

theorem tieZ81 (c_radix_Tree_freed : ∀ (a0 : (Option Addr)) (a1 : Int) (a2 : Int) (a3 : (Option Addr)) (K : Int → World → Prop) (w : World), Prop) (x : ArgsV [.one (.ptr), .one (.int .u64), .one (.int .u64)]) (K Kp : Value → World → Prop) (w : World) : T0.radix_Tree_Back env c_radix_Tree_freed x.1 x.2.1 x.2.2.1 (fun r1 w' => K (.int .i64 r1) w') w =
 ev Go.Proofs.Tryz.prog (tabC [(48, fun args w K Kp => unArgs [.one (.ptr), .one (.int .u64), .one (.int .u64), .one (.ptr)] args.toList fun x => c_radix_Tree_freed x.1 x.2.1 x.2.2.1 x.2.2.2.1 (fun r1 w' => K (.int .i64 r1) w') w)]) (ground Go.Proofs.Tryz.prog) ann81 body81 (finQ Go.Proofs.Tryz.prog Go.Proofs.Tryz.f81 K Kp) (initF (mkArgs [.one (.ptr), .one (.int .u64), .one (.int .u64)] x)) w := by kernel_rfl
theorem tie81 (x : ArgsV [.one (.ptr), .one (.int .u64), .one (.int .u64)]) (K Kp : Value → World → Prop) (w : World) : F.radix_Tree_Back env x.1 x.2.1 x.2.2.1 (fun r1 w' => K (.int .i64 r1) w') w =
 ev Go.Proofs.Tryz.prog (tabC [(48, C48)]) (ground Go.Proofs.Tryz.prog) ann81 body81 (finQ Go.Proofs.Tryz.prog Go.Proofs.Tryz.f81 K Kp) (initF (mkArgs [.one (.ptr), .one (.int .u64), .one (.int .u64)] x)) w := tieZ81 (F.radix_Tree_freed env) x K Kp w
theorem fits81 : FitsOne Go.Proofs.Tryz.prog 81 C81 :=
 fits_of_tie (T := [(48, C48)]) (A := ann81) (fn := Go.Proofs.Tryz.f81) (c := body81) (fits_cons fits48 fits_nil) mixed Go.Proofs.Tryz.func81 Go.Proofs.Tryz.call81 (by kernel_rfl) (by kernel_rfl) (by kernel_rfl) tie81

noncomputable def C55 : Entry := fun args w K Kp => unArgs [.one (.ptr), .one (.int .u64), .one (.int .u64)] args.toList fun x => F.mheap_Heap_back env x.1 x.2.1 x.2.2.1 (fun  w' => K (.tuple ⟨[]⟩) w') w
noncomputable def body55 : Code := (Go.Proofs.Tryz.f55.body).getD .skip
def ann55 : Ann := { loops := [(2, [(6, .one (.int .u64)), (20, .one (.int .i64))])], joins := [] }
def T0.mheap_Heap_back (E : Env) (c_vmem_Mem_Ready : ∀ (a0 : (Option Addr)) (a1 : Int) (a2 : Int) (K : SlV → World → Prop) (w : World), Prop) (c_radix_Tree_Back : ∀ (a0 : (Option Addr)) (a1 : Int) (a2 : Int) (K : Int → World → Prop) (w : World), Prop) (c_radix_Tree_Give : ∀ (a0 : (Option Addr)) (a1 : Int) (a2 : Int) (K : Int → World → Prop) (w : World), Prop) (a0 : (Option Addr)) (a1 : Int) (a2 : Int) (K : World → Prop) (w : World) : Prop :=
 NC a0 fun p1 =>
 ∃ x2 : (Option Addr), w.cell? p1 = some (.pointer x2) ∧
 c_vmem_Mem_Ready x2 a1 (u64 (a1 + a2)) (fun r3 w4 =>
 LOOP (Int × Int × Unit) (a1, 0, ()) w4 fun s5 _ w6 next7 =>
 CND (decide ((s5.2.1 : Int) < ((r3.len : Nat) : Int))) (
 NC r3.base fun p8 =>
 ((0 : Int) ≤ s5.2.1 ∧ (s5.2.1 : Int) < (r3.len : Nat)) ∧
 ∃ c9 : Int, w6.cell? ((p8.add (Int.toNat s5.2.1 * 2)).add 0) = some (.int .u64 c9) ∧
 ∃ c10 : Int, w6.cell? ((p8.add (Int.toNat s5.2.1 * 2)).add 1) = some (.int .u64 c10) ∧
 AL (.cells #[.int .u64 0, .int .u64 0] E.t_stretch_One) w6 fun b11 w12 =>
 stCells (Addr.mk b11 0 none) 0 [.int .u64 c9, .int .u64 c10] w12 fun w13 =>
 NC a0 fun p14 =>
 ∃ x15 : (Option Addr), w13.drew.cell? (p14.add 1) = some (.pointer x15) ∧
 ∃ x16 : Int, w13.drew.cell? (Addr.mk b11 0 none) = some (.int .u64 x16) ∧
 c_radix_Tree_Back x15 s5.1 (u64 (x16 - s5.1)) (fun r17 w18 =>
 w18.cell? (Addr.mk b11 0 none) = some (.int .u64 x16) ∧
 NC a0 fun p19 =>
 ∃ x20 : (Option Addr), w18.drew.cell? (p19.add 1) = some (.pointer x20) ∧
 ∃ x21 : Int, w18.drew.cell? (Addr.mk b11 0 none) = some (.int .u64 x21) ∧
 ∃ x22 : Int, w18.drew.cell? ((Addr.mk b11 0 none).add 1) = some (.int .u64 x22) ∧
 ∃ x23 : Int, w18.drew.cell? (Addr.mk b11 0 none) = some (.int .u64 x23) ∧
 c_radix_Tree_Give x20 x21 (u64 (x22 - x23)) (fun r24 w25 =>
 w25.cell? (Addr.mk b11 0 none) = some (.int .u64 x23) ∧
 w25.cell? ((Addr.mk b11 0 none).add 1) = some (.int .u64 x22) ∧
 ∃ x26 : Int, w25.cell? ((Addr.mk b11 0 none).add 1) = some (.int .u64 x26) ∧
 next7 (x26, i64 (s5.2.1 + 1), ()) w25
 ) w18.drew
 ) w13.drew
 ) (
 NC a0 fun p27 =>
 ∃ x28 : (Option Addr), w6.cell? (p27.add 1) = some (.pointer x28) ∧
 c_radix_Tree_Back x28 s5.1 (u64 ((u64 (a1 + a2)) - s5.1)) (fun r29 w30 =>
 K  w30
 ) w6
 )
 ) w

theorem tieZ55 (c_vmem_Mem_Ready : ∀ (a0 : (Option Addr)) (a1 : Int) (a2 : Int) (K : SlV → World → Prop) (w : World), Prop) (c_radix_Tree_Back : ∀ (a0 : (Option Addr)) (a1 : Int) (a2 : Int) (K : Int → World → Prop) (w : World), Prop) (c_radix_Tree_Give : ∀ (a0 : (Option Addr)) (a1 : Int) (a2 : Int) (K : Int → World → Prop) (w : World), Prop) (x : ArgsV [.one (.ptr), .one (.int .u64), .one (.int .u64)]) (K Kp : Value → World → Prop) (w : World) : T0.mheap_Heap_back env c_vmem_Mem_Ready c_radix_Tree_Back c_radix_Tree_Give x.1 x.2.1 x.2.2.1 (fun  w' => K (.tuple ⟨[]⟩) w') w =
 ev Go.Proofs.Tryz.prog (tabC [(80, fun args w K Kp => unArgs [.one (.ptr), .one (.int .u64), .one (.int .u64)] args.toList fun x => c_vmem_Mem_Ready x.1 x.2.1 x.2.2.1 (fun r1 w' => K (.slice r1.base r1.len r1.cap) w') w), (81, fun args w K Kp => unArgs [.one (.ptr), .one (.int .u64), .one (.int .u64)] args.toList fun x => c_radix_Tree_Back x.1 x.2.1 x.2.2.1 (fun r1 w' => K (.int .i64 r1) w') w), (22, fun args w K Kp => unArgs [.one (.ptr), .one (.int .u64), .one (.int .u64)] args.toList fun x => c_radix_Tree_Give x.1 x.2.1 x.2.2.1 (fun r1 w' => K (.int .i64 r1) w') w)]) (ground Go.Proofs.Tryz.prog) ann55 body55 (finQ Go.Proofs.Tryz.prog Go.Proofs.Tryz.f55 K Kp) (initF (mkArgs [.one (.ptr), .one (.int .u64), .one (.int .u64)] x)) w := by kernel_rfl
theorem tie55 (x : ArgsV [.one (.ptr), .one (.int .u64), .one (.int .u64)]) (K Kp : Value → World → Prop) (w : World) : F.mheap_Heap_back env x.1 x.2.1 x.2.2.1 (fun  w' => K (.tuple ⟨[]⟩) w') w =
 ev Go.Proofs.Tryz.prog (tabC [(80, C80), (81, C81), (22, C22)]) (ground Go.Proofs.Tryz.prog) ann55 body55 (finQ Go.Proofs.Tryz.prog Go.Proofs.Tryz.f55 K Kp) (initF (mkArgs [.one (.ptr), .one (.int .u64), .one (.int .u64)] x)) w := tieZ55 (F.vmem_Mem_Ready env) (F.radix_Tree_Back env) (F.radix_Tree_Give env) x K Kp w
theorem fits55 : FitsOne Go.Proofs.Tryz.prog 55 C55 :=
 fits_of_tie (T := [(80, C80), (81, C81), (22, C22)]) (A := ann55) (fn := Go.Proofs.Tryz.f55) (c := body55) (fits_cons fits80 (fits_cons fits81 (fits_cons fits22 fits_nil))) mixed Go.Proofs.Tryz.func55 Go.Proofs.Tryz.call55 (by kernel_rfl) (by kernel_rfl) (by kernel_rfl) tie55

noncomputable def body54 : Code := (Go.Proofs.Tryz.f54.body).getD .skip
def ann54 : Ann := { loops := [], joins := [] }
def T0.mheap_Heap_find_1 (E : Env) (c_mheap_Heap_back : ∀ (a0 : (Option Addr)) (a1 : Int) (a2 : Int) (K : World → Prop) (w : World), Prop) (a0 : (Option Addr)) (a1 : (Option Addr)) (a2 : (Option Addr)) (a3 : (Option Addr)) (K : World → Prop) (w : World) : Prop :=
 NC a0 fun p1 =>
 ∃ x2 : Int, w.cell? p1 = some (.int .i64 x2) ∧
 CND ((x2 : Int) != 0) (
 NC a1 fun p3 =>
 ∃ x4 : (Option Addr), w.cell? p3 = some (.pointer x4) ∧
 NC a2 fun p5 =>
 ∃ x6 : Int, w.cell? p5 = some (.int .u64 x6) ∧
 NC a3 fun p7 =>
 ∃ x8 : Int, w.cell? p7 = some (.int .u64 x8) ∧
 c_mheap_Heap_back x4 x6 x8 (fun  w9 =>
 K  w9
 ) w
 ) (
 K  w
 )

theorem tieZ54 (c_mheap_Heap_back : ∀ (a0 : (Option Addr)) (a1 : Int) (a2 : Int) (K : World → Prop) (w : World), Prop) (x : ArgsV [.one (.ptr), .one (.ptr), .one (.ptr), .one (.ptr)]) (K Kp : Value → World → Prop) (w : World) : T0.mheap_Heap_find_1 env c_mheap_Heap_back x.1 x.2.1 x.2.2.1 x.2.2.2.1 (fun  w' => K (.tuple ⟨[]⟩) w') w =
 ev Go.Proofs.Tryz.prog (tabC [(55, fun args w K Kp => unArgs [.one (.ptr), .one (.int .u64), .one (.int .u64)] args.toList fun x => c_mheap_Heap_back x.1 x.2.1 x.2.2.1 (fun  w' => K (.tuple ⟨[]⟩) w') w)]) (ground Go.Proofs.Tryz.prog) ann54 body54 (finQ Go.Proofs.Tryz.prog Go.Proofs.Tryz.f54 K Kp) (initF (mkArgs [.one (.ptr), .one (.ptr), .one (.ptr), .one (.ptr)] x)) w := by kernel_rfl
theorem tie54 (x : ArgsV [.one (.ptr), .one (.ptr), .one (.ptr), .one (.ptr)]) (K Kp : Value → World → Prop) (w : World) : F.mheap_Heap_find_1 env x.1 x.2.1 x.2.2.1 x.2.2.2.1 (fun  w' => K (.tuple ⟨[]⟩) w') w =
 ev Go.Proofs.Tryz.prog (tabC [(55, C55)]) (ground Go.Proofs.Tryz.prog) ann54 body54 (finQ Go.Proofs.Tryz.prog Go.Proofs.Tryz.f54 K Kp) (initF (mkArgs [.one (.ptr), .one (.ptr), .one (.ptr), .one (.ptr)] x)) w := tieZ54 (F.mheap_Heap_back env) x K Kp w
noncomputable def D54 : EntryD := fun args pv w K => unArgs [.one (.ptr), .one (.ptr), .one (.ptr), .one (.ptr)] args.toList fun x => F.mheap_Heap_find_1 env x.1 x.2.1 x.2.2.1 x.2.2.2.1 (fun w' => K false w') w
theorem fitsD54 : FitsDOne Go.Proofs.Tryz.prog 54 D54 :=
 fitsD_plain (T := [(55, C55)]) (A := ann54) (fn := Go.Proofs.Tryz.f54) (c := body54) (l := [.one (.ptr), .one (.ptr), .one (.ptr), .one (.ptr)]) (F := fun (x : ArgsV [.one (.ptr), .one (.ptr), .one (.ptr), .one (.ptr)]) K w => F.mheap_Heap_find_1 env x.1 x.2.1 x.2.2.1 x.2.2.2.1 K w) (fits_cons fits55 fits_nil) mixed Go.Proofs.Tryz.func54 Go.Proofs.Tryz.call54 (by kernel_rfl) (by kernel_rfl) (by kernel_rfl) (fun x K w => tie54 x (fun _ w' => K w') noP w)

noncomputable def C25 : Entry := fun args w K Kp => unArgs [.one (.ptr), .one (.int .i64), .one (.int .u64)] args.toList fun x => F.mheap_Heap_find env x.1 x.2.1 x.2.2.1 (fun r1 r2 w' => K (.tuple ⟨[.int .u64 r1, .int .i64 r2]⟩) w') w
noncomputable def body25 : Code := (Go.Proofs.Tryz.f25.body).getD .skip
def ann25 : Ann := { loops := [], joins := [(7, [(6, .one (.int .u64))])] }
def T0.mheap_Heap_find (E : Env) (c_mheap_Heap_got : ∀ (a0 : (Option Addr)) (a1 : Int) (a2 : Int) (K : Int → Bool → World → Prop) (w : World), Prop) (c_mheap_Heap_grow : ∀ (a0 : (Option Addr)) (a1 : Int) (K : Int → World → Prop) (w : World), Prop) (c_radix_Tree_Alloc : ∀ (a0 : (Option Addr)) (a1 : Int) (K : Int → Int → Int → World → Prop) (w : World), Prop) (c_vmem_Mem_Commit : ∀ (a0 : (Option Addr)) (a1 : Int) (a2 : Int) (K : Int → World → Prop) (w : World), Prop) (a0 : (Option Addr)) (a1 : Int) (a2 : Int) (K : Int → Int → World → Prop) (w : World) : Prop :=
 AL (.cells #[.pointer a0] E.t__mheap_Heap) w fun b1 w2 =>
 AL (.cells #[.int .u64 a2] E.t_uint64) w2 fun b3 w4 =>
 AL (.cells #[.int .i64 0] E.t_api_Errno) w4 fun b5 w6 =>
 ∃ x7 : (Option Addr), w6.cell? (Addr.mk b1 0 none) = some (.pointer x7) ∧
 ∃ x8 : Int, w6.cell? (Addr.mk b3 0 none) = some (.int .u64 x8) ∧
 c_mheap_Heap_got x7 a1 x8 (fun r9 r10 w11 =>
 JOIN (Int × Unit) (fun J12 =>
 CND (!r10) (
 ∃ x15 : (Option Addr), w11.cell? (Addr.mk b1 0 none) = some (.pointer x15) ∧
 ∃ x16 : Int, w11.cell? (Addr.mk b3 0 none) = some (.int .u64 x16) ∧
 c_mheap_Heap_grow x15 x16 (fun r17 w18 =>
 stCells (Addr.mk b5 0 none) 0 [.int .i64 r17] w18 fun w19 =>
 ∃ x20 : Int, w19.cell? (Addr.mk b5 0 none) = some (.int .i64 x20) ∧
 CND ((x20 : Int) != 0) (
 ∃ x21 : Int, w19.drew.cell? (Addr.mk b5 0 none) = some (.int .i64 x21) ∧
 stCells (Addr.mk b5 0 none) 0 [.int .i64 x21] w19.drew fun w22 =>
 ∃ x23 : Int, w22.cell? (Addr.mk b5 0 none) = some (.int .i64 x23) ∧
 K 0 x23 w22
 ) (
 ∃ x24 : (Option Addr), w19.drew.cell? (Addr.mk b1 0 none) = some (.pointer x24) ∧
 NC x24 fun p25 =>
 ∃ x26 : (Option Addr), w19.drew.cell? (p25.add 1) = some (.pointer x26) ∧
 ∃ x27 : Int, w19.drew.cell? (Addr.mk b3 0 none) = some (.int .u64 x27) ∧
 c_radix_Tree_Alloc x26 x27 (fun r28 r29 r30 w31 =>
 w31.cell? (Addr.mk b1 0 none) = some (.pointer x24) ∧
 J12 (r28, ()) w31
 ) w19.drew
 )
 ) w11
 ) (
 J12 (r9, ()) w11
 )
 ) fun s13 _ w14 =>
 AL (.cells #[.int .u64 0] E.t_uint64) w14 fun b32 w33 =>
 stCells (Addr.mk b32 0 none) 0 [.int .u64 s13.1] w33 fun w34 =>
 ∃ x35 : (Option Addr), w34.drew.cell? (Addr.mk b1 0 none) = some (.pointer x35) ∧
 NC x35 fun p36 =>
 ∃ x37 : (Option Addr), w34.drew.cell? p36 = some (.pointer x37) ∧
 ∃ x38 : Int, w34.drew.cell? (Addr.mk b3 0 none) = some (.int .u64 x38) ∧
 c_vmem_Mem_Commit x37 s13.1 x38 (fun r39 w40 =>
 w40.cell? (Addr.mk b1 0 none) = some (.pointer x35) ∧
 CND ((r39 : Int) != 0) (
 stCells (Addr.mk b5 0 none) 0 [.int .i64 13] w40 fun w41 =>
 F.mheap_Heap_find_1 E (some (Addr.mk b5 0 none)) (some (Addr.mk b1 0 none)) (some (Addr.mk b32 0 none)) (some (Addr.mk b3 0 none)) (fun w42 =>
 ∃ x43 : Int, w42.cell? (Addr.mk b5 0 none) = some (.int .i64 x43) ∧
 K 0 x43 w42
 ) w41
 ) (
 stCells (Addr.mk b5 0 none) 0 [.int .i64 0] w40 fun w44 =>
 F.mheap_Heap_find_1 E (some (Addr.mk b5 0 none)) (some (Addr.mk b1 0 none)) (some (Addr.mk b32 0 none)) (some (Addr.mk b3 0 none)) (fun w45 =>
 ∃ x46 : Int, w45.cell? (Addr.mk b5 0 none) = some (.int .i64 x46) ∧
 K s13.1 x46 w45
 ) w44
 )
 ) w34.drew
 ) w6

theorem tieZ25 (c_mheap_Heap_got : ∀ (a0 : (Option Addr)) (a1 : Int) (a2 : Int) (K : Int → Bool → World → Prop) (w : World), Prop) (c_mheap_Heap_grow : ∀ (a0 : (Option Addr)) (a1 : Int) (K : Int → World → Prop) (w : World), Prop) (c_radix_Tree_Alloc : ∀ (a0 : (Option Addr)) (a1 : Int) (K : Int → Int → Int → World → Prop) (w : World), Prop) (c_vmem_Mem_Commit : ∀ (a0 : (Option Addr)) (a1 : Int) (a2 : Int) (K : Int → World → Prop) (w : World), Prop) (x : ArgsV [.one (.ptr), .one (.int .i64), .one (.int .u64)]) (K : Value → World → Prop) (w : World) : T0.mheap_Heap_find env c_mheap_Heap_got c_mheap_Heap_grow c_radix_Tree_Alloc c_vmem_Mem_Commit x.1 x.2.1 x.2.2.1 (fun r1 r2 w' => K (.tuple ⟨[.int .u64 r1, .int .i64 r2]⟩) w') w =
 evD Go.Proofs.Tryz.prog (tabC [(51, fun args w K Kp => unArgs [.one (.ptr), .one (.int .i64), .one (.int .u64)] args.toList fun x => c_mheap_Heap_got x.1 x.2.1 x.2.2.1 (fun r1 r2 w' => K (.tuple ⟨[.int .u64 r1, .bool r2]⟩) w') w), (52, fun args w K Kp => unArgs [.one (.ptr), .one (.int .u64)] args.toList fun x => c_mheap_Heap_grow x.1 x.2.1 (fun r1 w' => K (.int .i64 r1) w') w), (53, fun args w K Kp => unArgs [.one (.ptr), .one (.int .u64)] args.toList fun x => c_radix_Tree_Alloc x.1 x.2.1 (fun r1 r2 r3 w' => K (.tuple ⟨[.int .u64 r1, .int .u64 r2, .int .i64 r3]⟩) w') w), (56, fun args w K Kp => unArgs [.one (.ptr), .one (.int .u64), .one (.int .u64)] args.toList fun x => c_vmem_Mem_Commit x.1 x.2.1 x.2.2.1 (fun r1 w' => K (.int .i64 r1) w') w)]) (ground Go.Proofs.Tryz.prog) ann25 (finQ Go.Proofs.Tryz.prog Go.Proofs.Tryz.f25 K noP) (finD Go.Proofs.Tryz.prog Go.Proofs.Tryz.f25 (tabD [(54, D54)]) K noP) body25 (initF (mkArgs [.one (.ptr), .one (.int .i64), .one (.int .u64)] x)) w := by kernel_rfl
theorem tie25 (x : ArgsV [.one (.ptr), .one (.int .i64), .one (.int .u64)]) (K : Value → World → Prop) (w : World) : F.mheap_Heap_find env x.1 x.2.1 x.2.2.1 (fun r1 r2 w' => K (.tuple ⟨[.int .u64 r1, .int .i64 r2]⟩) w') w =
 evD Go.Proofs.Tryz.prog (tabC [(51, C51), (52, C52), (53, C53), (56, C56)]) (ground Go.Proofs.Tryz.prog) ann25 (finQ Go.Proofs.Tryz.prog Go.Proofs.Tryz.f25 K noP) (finD Go.Proofs.Tryz.prog Go.Proofs.Tryz.f25 (tabD [(54, D54)]) K noP) body25 (initF (mkArgs [.one (.ptr), .one (.int .i64), .one (.int .u64)] x)) w := tieZ25 (F.mheap_Heap_got env) (F.mheap_Heap_grow env) (F.radix_Tree_Alloc env) (F.vmem_Mem_Commit env) x K w
theorem fits25 : FitsOne Go.Proofs.Tryz.prog 25 C25 :=
 fits_of_tieD (T := [(51, C51), (52, C52), (53, C53), (56, C56)]) (TD := [(54, D54)]) (A := ann25) (fn := Go.Proofs.Tryz.f25) (c := body25) (fits_cons fits51 (fits_cons fits52 (fits_cons fits53 (fits_cons fits56 fits_nil)))) (fitsD_cons fitsD54 fitsD_nil) mixed Go.Proofs.Tryz.func25 Go.Proofs.Tryz.call25 (by kernel_rfl) (by kernel_rfl) (by kernel_rfl) tie25

noncomputable def C57 : Entry := fun args w K Kp => unArgs [.one (.ptr)] args.toList fun x => F.fix_Fix_Take env x.1 (fun r1 w' => K (.int .i64 r1) w') w
noncomputable def body57 : Code := (Go.Proofs.Tryz.f57.body).getD .skip
def ann57 : Ann := { loops := [], joins := [(6, [(3, .one (.ptr))])] }
theorem tie57 (x : ArgsV [.one (.ptr)]) (K Kp : Value → World → Prop) (w : World) : F.fix_Fix_Take env x.1 (fun r1 w' => K (.int .i64 r1) w') w =
 ev Go.Proofs.Tryz.prog (tabC []) (ground Go.Proofs.Tryz.prog) ann57 body57 (finQ Go.Proofs.Tryz.prog Go.Proofs.Tryz.f57 K Kp) (initF (mkArgs [.one (.ptr)] x)) w := by kernel_rfl
theorem fits57 : FitsOne Go.Proofs.Tryz.prog 57 C57 :=
 fits_of_tie (T := []) (A := ann57) (fn := Go.Proofs.Tryz.f57) (c := body57) fits_nil mixed Go.Proofs.Tryz.func57 Go.Proofs.Tryz.call57 (by kernel_rfl) (by kernel_rfl) (by kernel_rfl) tie57

noncomputable def C26 : Entry := fun args w K Kp => unArgs [.one (.ptr), .one (.ptr)] args.toList fun x => F.mheap_Heap_keep env x.1 x.2.1 (fun r1 w' => K (.int .i64 r1) w') w
noncomputable def body26 : Code := (Go.Proofs.Tryz.f26.body).getD .skip
def ann26 : Ann := { loops := [], joins := [] }
def T0.mheap_Heap_keep (E : Env) (c_fix_Fix_Take : ∀ (a0 : (Option Addr)) (K : Int → World → Prop) (w : World), Prop) (c_span_Span_Info : ∀ (a0 : (Option Addr)) (K : Int → Int → Int → Int → Bool → Int → Int → Int → Bool → Bool → World → Prop) (w : World), Prop) (c_arena_Map_Set : ∀ (a0 : (Option Addr)) (a1 : Int) (a2 : Int) (a3 : Int) (K : Int → World → Prop) (w : World), Prop) (a0 : (Option Addr)) (a1 : (Option Addr)) (K : Int → World → Prop) (w : World) : Prop :=
 NC a0 fun p1 =>
 ∃ x2 : (Option Addr), w.cell? (p1.add 3) = some (.pointer x2) ∧
 c_fix_Fix_Take x2 (fun r3 w4 =>
 NC a0 fun p5 =>
 ∃ x6 : (Option Nat), w4.cell? (p5.add 4) = some (.map x6) ∧
 MUPD .i64 r3 (.pointer a1) x6 w4 fun w7 =>
 c_span_Span_Info a1 (fun r8 r9 r10 r11 r12 r13 r14 r15 r16 r17 w18 =>
 AL (.cells #[.int .u64 0, .int .i64 0, .int .i64 0, .int .i64 0, .bool false, .int .i64 0, .int .i64 0, .int .i64 0, .bool false, .bool false] E.t_api_Info) w18 fun b19 w20 =>
 stCells (Addr.mk b19 0 none) 0 [.int .u64 r8, .int .i64 r9, .int .i64 r10, .int .i64 r11, .bool r12, .int .i64 r13, .int .i64 r14, .int .i64 r15, .bool r16, .bool r17] w20 fun w21 =>
 NC a0 fun p22 =>
 ∃ x23 : (Option Addr), w21.drew.cell? (p22.add 2) = some (.pointer x23) ∧
 ∃ x24 : Int, w21.drew.cell? (Addr.mk b19 0 none) = some (.int .u64 x24) ∧
 8192 ≠ (0 : Int) ∧
 ∃ x25 : Int, w21.drew.cell? ((Addr.mk b19 0 none).add 1) = some (.int .i64 x25) ∧
 c_arena_Map_Set x23 (u64 (Int.tdiv x24 8192)) (u64 (x25)) r3 (fun r26 w27 =>
 w27.cell? ((Addr.mk b19 0 none).add 1) = some (.int .i64 x25) ∧
 w27.cell? (Addr.mk b19 0 none) = some (.int .u64 x24) ∧
 NC a0 fun p28 =>
 ∃ x29 : Int, w27.drew.cell? (p28.add 70) = some (.int .u64 x29) ∧
 ∃ x30 : Int, w27.drew.cell? ((Addr.mk b19 0 none).add 1) = some (.int .i64 x30) ∧
 NC a0 fun p31 =>
 stCells (p31.add 70) 0 [.int .u64 (u64 (x29 + (u64 (x30))))] w27.drew fun w32 =>
 K r3 w32
 ) w21.drew
 ) w7
 ) w

theorem tieZ26 (c_fix_Fix_Take : ∀ (a0 : (Option Addr)) (K : Int → World → Prop) (w : World), Prop) (c_span_Span_Info : ∀ (a0 : (Option Addr)) (K : Int → Int → Int → Int → Bool → Int → Int → Int → Bool → Bool → World → Prop) (w : World), Prop) (c_arena_Map_Set : ∀ (a0 : (Option Addr)) (a1 : Int) (a2 : Int) (a3 : Int) (K : Int → World → Prop) (w : World), Prop) (x : ArgsV [.one (.ptr), .one (.ptr)]) (K Kp : Value → World → Prop) (w : World) : T0.mheap_Heap_keep env c_fix_Fix_Take c_span_Span_Info c_arena_Map_Set x.1 x.2.1 (fun r1 w' => K (.int .i64 r1) w') w =
 ev Go.Proofs.Tryz.prog (tabC [(57, fun args w K Kp => unArgs [.one (.ptr)] args.toList fun x => c_fix_Fix_Take x.1 (fun r1 w' => K (.int .i64 r1) w') w), (12, fun args w K Kp => unArgs [.one (.ptr)] args.toList fun x => c_span_Span_Info x.1 (fun r1 r2 r3 r4 r5 r6 r7 r8 r9 r10 w' => K (.agg ⟨[.int .u64 r1, .int .i64 r2, .int .i64 r3, .int .i64 r4, .bool r5, .int .i64 r6, .int .i64 r7, .int .i64 r8, .bool r9, .bool r10]⟩) w') w), (21, fun args w K Kp => unArgs [.one (.ptr), .one (.int .u64), .one (.int .u64), .one (.int .i64)] args.toList fun x => c_arena_Map_Set x.1 x.2.1 x.2.2.1 x.2.2.2.1 (fun r1 w' => K (.int .i64 r1) w') w)]) (ground Go.Proofs.Tryz.prog) ann26 body26 (finQ Go.Proofs.Tryz.prog Go.Proofs.Tryz.f26 K Kp) (initF (mkArgs [.one (.ptr), .one (.ptr)] x)) w := by kernel_rfl
theorem tie26 (x : ArgsV [.one (.ptr), .one (.ptr)]) (K Kp : Value → World → Prop) (w : World) : F.mheap_Heap_keep env x.1 x.2.1 (fun r1 w' => K (.int .i64 r1) w') w =
 ev Go.Proofs.Tryz.prog (tabC [(57, C57), (12, C12), (21, C21)]) (ground Go.Proofs.Tryz.prog) ann26 body26 (finQ Go.Proofs.Tryz.prog Go.Proofs.Tryz.f26 K Kp) (initF (mkArgs [.one (.ptr), .one (.ptr)] x)) w := tieZ26 (F.fix_Fix_Take env) (F.span_Span_Info env) (F.arena_Map_Set env) x K Kp w
theorem fits26 : FitsOne Go.Proofs.Tryz.prog 26 C26 :=
 fits_of_tie (T := [(57, C57), (12, C12), (21, C21)]) (A := ann26) (fn := Go.Proofs.Tryz.f26) (c := body26) (fits_cons fits57 (fits_cons fits12 (fits_cons fits21 fits_nil))) mixed Go.Proofs.Tryz.func26 Go.Proofs.Tryz.call26 (by kernel_rfl) (by kernel_rfl) (by kernel_rfl) tie26

noncomputable def C7 : Entry := fun args w K Kp => unArgs [.one (.ptr), .one (.int .i64), .one (.int .u64), .one (.int .i64), .one (.bool)] args.toList fun x => F.mheap_Heap_Alloc env x.1 x.2.1 x.2.2.1 x.2.2.2.1 x.2.2.2.2.1 (fun r1 r2 w' => K (.tuple ⟨[.int .i64 r1, .int .i64 r2]⟩) w') w
noncomputable def body7 : Code := (Go.Proofs.Tryz.f7.body).getD .skip
def ann7 : Ann := { loops := [], joins := [] }
def T0.mheap_Heap_Alloc (E : Env) (c_span_New : ∀ (a0 : Int) (a1 : Int) (a2 : Int) (a3 : Bool) (K : (Option Addr) → Int → World → Prop) (w : World), Prop) (c_mheap_Heap_find : ∀ (a0 : (Option Addr)) (a1 : Int) (a2 : Int) (K : Int → Int → World → Prop) (w : World), Prop) (c_mheap_Heap_keep : ∀ (a0 : (Option Addr)) (a1 : (Option Addr)) (K : Int → World → Prop) (w : World), Prop) (a0 : (Option Addr)) (a1 : Int) (a2 : Int) (a3 : Int) (a4 : Bool) (K : Int → Int → World → Prop) (w : World) : Prop :=
 c_span_New 0 a2 a3 a4 (fun r1 r2 w3 =>
 CND ((r2 : Int) != 0) (
 K 0 1 w3
 ) (
 c_mheap_Heap_find a0 a1 a2 (fun r4 r5 w6 =>
 CND ((r5 : Int) != 0) (
 K 0 r5 w6
 ) (
 c_span_New r4 a2 a3 a4 (fun r7 r8 w9 =>
 c_mheap_Heap_keep a0 r7 (fun r10 w11 =>
 K r10 0 w11
 ) w9
 ) w6
 )
 ) w3
 )
 ) w

theorem tieZ7 (c_span_New : ∀ (a0 : Int) (a1 : Int) (a2 : Int) (a3 : Bool) (K : (Option Addr) → Int → World → Prop) (w : World), Prop) (c_mheap_Heap_find : ∀ (a0 : (Option Addr)) (a1 : Int) (a2 : Int) (K : Int → Int → World → Prop) (w : World), Prop) (c_mheap_Heap_keep : ∀ (a0 : (Option Addr)) (a1 : (Option Addr)) (K : Int → World → Prop) (w : World), Prop) (x : ArgsV [.one (.ptr), .one (.int .i64), .one (.int .u64), .one (.int .i64), .one (.bool)]) (K Kp : Value → World → Prop) (w : World) : T0.mheap_Heap_Alloc env c_span_New c_mheap_Heap_find c_mheap_Heap_keep x.1 x.2.1 x.2.2.1 x.2.2.2.1 x.2.2.2.2.1 (fun r1 r2 w' => K (.tuple ⟨[.int .i64 r1, .int .i64 r2]⟩) w') w =
 ev Go.Proofs.Tryz.prog (tabC [(24, fun args w K Kp => unArgs [.one (.int .u64), .one (.int .u64), .one (.int .i64), .one (.bool)] args.toList fun x => c_span_New x.1 x.2.1 x.2.2.1 x.2.2.2.1 (fun r1 r2 w' => K (.tuple ⟨[.pointer r1, .int .i64 r2]⟩) w') w), (25, fun args w K Kp => unArgs [.one (.ptr), .one (.int .i64), .one (.int .u64)] args.toList fun x => c_mheap_Heap_find x.1 x.2.1 x.2.2.1 (fun r1 r2 w' => K (.tuple ⟨[.int .u64 r1, .int .i64 r2]⟩) w') w), (26, fun args w K Kp => unArgs [.one (.ptr), .one (.ptr)] args.toList fun x => c_mheap_Heap_keep x.1 x.2.1 (fun r1 w' => K (.int .i64 r1) w') w)]) (ground Go.Proofs.Tryz.prog) ann7 body7 (finQ Go.Proofs.Tryz.prog Go.Proofs.Tryz.f7 K Kp) (initF (mkArgs [.one (.ptr), .one (.int .i64), .one (.int .u64), .one (.int .i64), .one (.bool)] x)) w := by kernel_rfl
theorem tie7 (x : ArgsV [.one (.ptr), .one (.int .i64), .one (.int .u64), .one (.int .i64), .one (.bool)]) (K Kp : Value → World → Prop) (w : World) : F.mheap_Heap_Alloc env x.1 x.2.1 x.2.2.1 x.2.2.2.1 x.2.2.2.2.1 (fun r1 r2 w' => K (.tuple ⟨[.int .i64 r1, .int .i64 r2]⟩) w') w =
 ev Go.Proofs.Tryz.prog (tabC [(24, C24), (25, C25), (26, C26)]) (ground Go.Proofs.Tryz.prog) ann7 body7 (finQ Go.Proofs.Tryz.prog Go.Proofs.Tryz.f7 K Kp) (initF (mkArgs [.one (.ptr), .one (.int .i64), .one (.int .u64), .one (.int .i64), .one (.bool)] x)) w := tieZ7 (F.span_New env) (F.mheap_Heap_find env) (F.mheap_Heap_keep env) x K Kp w
theorem fits7 : FitsOne Go.Proofs.Tryz.prog 7 C7 :=
 fits_of_tie (T := [(24, C24), (25, C25), (26, C26)]) (A := ann7) (fn := Go.Proofs.Tryz.f7) (c := body7) (fits_cons fits24 (fits_cons fits25 (fits_cons fits26 fits_nil))) mixed Go.Proofs.Tryz.func7 Go.Proofs.Tryz.call7 (by kernel_rfl) (by kernel_rfl) (by kernel_rfl) tie7

noncomputable def C95 : Entry := fun args w K Kp => unArgs [.one (.int .u32)] args.toList fun x => F.math_bits_Len32 env x.1 (fun r1 w' => K (.int .i64 r1) w') w
noncomputable def body95 : Code := (Go.Proofs.Tryz.f95.body).getD .skip
def ann95 : Ann := { loops := [], joins := [(4, [(0, .one (.int .u32)), (2, .one (.int .i64))]), (7, [(0, .one (.int .u32)), (2, .one (.int .i64))])] }
theorem tie95 (x : ArgsV [.one (.int .u32)]) (K Kp : Value → World → Prop) (w : World) : F.math_bits_Len32 env x.1 (fun r1 w' => K (.int .i64 r1) w') w =
 ev Go.Proofs.Tryz.prog (tabC []) (ground Go.Proofs.Tryz.prog) ann95 body95 (finQ Go.Proofs.Tryz.prog Go.Proofs.Tryz.f95 K Kp) (initF (mkArgs [.one (.int .u32)] x)) w := by kernel_rfl
theorem fits95 : FitsOne Go.Proofs.Tryz.prog 95 C95 :=
 fits_of_tie (T := []) (A := ann95) (fn := Go.Proofs.Tryz.f95) (c := body95) fits_nil mixed Go.Proofs.Tryz.func95 Go.Proofs.Tryz.call95 (by kernel_rfl) (by kernel_rfl) (by kernel_rfl) tie95

noncomputable def C96 : Entry := fun args w K Kp => unArgs [.one (.int .u64)] args.toList fun x => F.math_bits_Len64 env x.1 (fun r1 w' => K (.int .i64 r1) w') w
noncomputable def body96 : Code := (Go.Proofs.Tryz.f96.body).getD .skip
def ann96 : Ann := { loops := [], joins := [(4, [(0, .one (.int .u64)), (2, .one (.int .i64))]), (7, [(0, .one (.int .u64)), (2, .one (.int .i64))]), (10, [(0, .one (.int .u64)), (2, .one (.int .i64))])] }
theorem tie96 (x : ArgsV [.one (.int .u64)]) (K Kp : Value → World → Prop) (w : World) : F.math_bits_Len64 env x.1 (fun r1 w' => K (.int .i64 r1) w') w =
 ev Go.Proofs.Tryz.prog (tabC []) (ground Go.Proofs.Tryz.prog) ann96 body96 (finQ Go.Proofs.Tryz.prog Go.Proofs.Tryz.f96 K Kp) (initF (mkArgs [.one (.int .u64)] x)) w := by kernel_rfl
theorem fits96 : FitsOne Go.Proofs.Tryz.prog 96 C96 :=
 fits_of_tie (T := []) (A := ann96) (fn := Go.Proofs.Tryz.f96) (c := body96) fits_nil mixed Go.Proofs.Tryz.func96 Go.Proofs.Tryz.call96 (by kernel_rfl) (by kernel_rfl) (by kernel_rfl) tie96

noncomputable def C59 : Entry := fun args w K Kp => unArgs [.one (.int .u64)] args.toList fun x => F.math_bits_Len env x.1 (fun r1 w' => K (.int .i64 r1) w') w
noncomputable def body59 : Code := (Go.Proofs.Tryz.f59.body).getD .skip
def ann59 : Ann := { loops := [], joins := [] }
def T0.math_bits_Len (E : Env) (c_math_bits_Len64 : ∀ (a0 : Int) (K : Int → World → Prop) (w : World), Prop) (a0 : Int) (K : Int → World → Prop) (w : World) : Prop :=
 c_math_bits_Len64 a0 (fun r1 w2 =>
 K r1 w2
 ) w

theorem tieZ59 (c_math_bits_Len64 : ∀ (a0 : Int) (K : Int → World → Prop) (w : World), Prop) (x : ArgsV [.one (.int .u64)]) (K Kp : Value → World → Prop) (w : World) : T0.math_bits_Len env c_math_bits_Len64 x.1 (fun r1 w' => K (.int .i64 r1) w') w =
 ev Go.Proofs.Tryz.prog (tabC [(95, C95), (96, fun args w K Kp => unArgs [.one (.int .u64)] args.toList fun x => c_math_bits_Len64 x.1 (fun r1 w' => K (.int .i64 r1) w') w)]) (ground Go.Proofs.Tryz.prog) ann59 body59 (finQ Go.Proofs.Tryz.prog Go.Proofs.Tryz.f59 K Kp) (initF (mkArgs [.one (.int .u64)] x)) w := by kernel_rfl
theorem tie59 (x : ArgsV [.one (.int .u64)]) (K Kp : Value → World → Prop) (w : World) : F.math_bits_Len env x.1 (fun r1 w' => K (.int .i64 r1) w') w =
 ev Go.Proofs.Tryz.prog (tabC [(95, C95), (96, C96)]) (ground Go.Proofs.Tryz.prog) ann59 body59 (finQ Go.Proofs.Tryz.prog Go.Proofs.Tryz.f59 K Kp) (initF (mkArgs [.one (.int .u64)] x)) w := tieZ59 (F.math_bits_Len64 env) x K Kp w
theorem fits59 : FitsOne Go.Proofs.Tryz.prog 59 C59 :=
 fits_of_tie (T := [(95, C95), (96, C96)]) (A := ann59) (fn := Go.Proofs.Tryz.f59) (c := body59) (fits_cons fits95 (fits_cons fits96 fits_nil)) mixed Go.Proofs.Tryz.func59 Go.Proofs.Tryz.call59 (by kernel_rfl) (by kernel_rfl) (by kernel_rfl) tie59

noncomputable def C87 : Entry := fun args w K Kp => unArgs [.one (.sl), .one (.int .i64), .one (.int .i64), .one (.any)] args.toList fun x => F.slices_insertionSortCmpFunc_int_ env x.1 x.2.1 x.2.2.1 x.2.2.2.1 (fun  w' => K (.tuple ⟨[]⟩) w') w
noncomputable def body87 : Code := (Go.Proofs.Tryz.f87.body).getD .skip
def ann87 : Ann := { loops := [(1, [(8, .one (.int .i64))]), (4, [(9, .one (.int .i64))])], joins := [] }
theorem tie87 (x : ArgsV [.one (.sl), .one (.int .i64), .one (.int .i64), .one (.any)]) (K Kp : Value → World → Prop) (w : World) : F.slices_insertionSortCmpFunc_int_ env x.1 x.2.1 x.2.2.1 x.2.2.2.1 (fun  w' => K (.tuple ⟨[]⟩) w') w =
 ev Go.Proofs.Tryz.prog (tabC []) (ground Go.Proofs.Tryz.prog) ann87 body87 (finQ Go.Proofs.Tryz.prog Go.Proofs.Tryz.f87 K Kp) (initF (mkArgs [.one (.sl), .one (.int .i64), .one (.int .i64), .one (.any)] x)) w := by kernel_rfl
theorem fits87 : FitsOne Go.Proofs.Tryz.prog 87 C87 :=
 fits_of_tie (T := []) (A := ann87) (fn := Go.Proofs.Tryz.f87) (c := body87) fits_nil mixed Go.Proofs.Tryz.func87 Go.Proofs.Tryz.call87 (by kernel_rfl) (by kernel_rfl) (by kernel_rfl) tie87

noncomputable def C108 : Entry := fun args w K Kp => unArgs [.one (.sl), .one (.int .i64), .one (.int .i64), .one (.int .i64), .one (.any)] args.toList fun x => F.slices_siftDownCmpFunc_int_ env x.1 x.2.1 x.2.2.1 x.2.2.2.1 x.2.2.2.2.1 (fun  w' => K (.tuple ⟨[]⟩) w') w
noncomputable def body108 : Code := (Go.Proofs.Tryz.f108.body).getD .skip
def ann108 : Ann := { loops := [(1, [(10, .one (.int .i64))])], joins := [(4, [(40, .one (.bool))]), (5, [(11, .one (.int .i64))])] }
theorem tie108 (x : ArgsV [.one (.sl), .one (.int .i64), .one (.int .i64), .one (.int .i64), .one (.any)]) (K Kp : Value → World → Prop) (w : World) : F.slices_siftDownCmpFunc_int_ env x.1 x.2.1 x.2.2.1 x.2.2.2.1 x.2.2.2.2.1 (fun  w' => K (.tuple ⟨[]⟩) w') w =
 ev Go.Proofs.Tryz.prog (tabC []) (ground Go.Proofs.Tryz.prog) ann108 body108 (finQ Go.Proofs.Tryz.prog Go.Proofs.Tryz.f108 K Kp) (initF (mkArgs [.one (.sl), .one (.int .i64), .one (.int .i64), .one (.int .i64), .one (.any)] x)) w := by kernel_rfl
theorem fits108 : FitsOne Go.Proofs.Tryz.prog 108 C108 :=
 fits_of_tie (T := []) (A := ann108) (fn := Go.Proofs.Tryz.f108) (c := body108) fits_nil mixed Go.Proofs.Tryz.func108 Go.Proofs.Tryz.call108 (by kernel_rfl) (by kernel_rfl) (by kernel_rfl) tie108

noncomputable def C88 : Entry := fun args w K Kp => unArgs [.one (.sl), .one (.int .i64), .one (.int .i64), .one (.any)] args.toList fun x => F.slices_heapSortCmpFunc_int_ env x.1 x.2.1 x.2.2.1 x.2.2.2.1 (fun  w' => K (.tuple ⟨[]⟩) w') w
noncomputable def body88 : Code := (Go.Proofs.Tryz.f88.body).getD .skip
def ann88 : Ann := { loops := [(4, [(11, .one (.int .i64))]), (8, [(12, .one (.int .i64))])], joins := [] }
def T0.slices_heapSortCmpFunc_int_ (E : Env) (c_slices_siftDownCmpFunc_int_ : ∀ (a0 : SlV) (a1 : Int) (a2 : Int) (a3 : Int) (a4 : Value) (K : World → Prop) (w : World), Prop) (a0 : SlV) (a1 : Int) (a2 : Int) (a3 : Value) (K : World → Prop) (w : World) : Prop :=
 2 ≠ (0 : Int) ∧
 LET (i64 (Int.tdiv (i64 ((i64 (a2 - a1)) - 1)) 2) : Int) fun i_1 =>
 LOOP (Int × Unit) (i_1, ()) w fun s2 _ w3 next4 =>
 CND (decide ((s2.1 : Int) ≥ 0)) (
 c_slices_siftDownCmpFunc_int_ a0 s2.1 (i64 (a2 - a1)) a1 a3 (fun  w5 =>
 next4 (i64 (s2.1 - 1), ()) w5
 ) w3
 ) (
 LET (i64 ((i64 (a2 - a1)) - 1) : Int) fun i_6 =>
 LOOP (Int × Unit) (i_6, ()) w3 fun s7 _ w8 next9 =>
 CND (decide ((s7.1 : Int) ≥ 0)) (
 NC a0.base fun p10 =>
 ((0 : Int) ≤ (i64 (a1 + s7.1)) ∧ ((i64 (a1 + s7.1)) : Int) < (a0.len : Nat)) ∧
 ∃ x11 : Int, w8.drew.cell? (p10.add (Int.toNat (i64 (a1 + s7.1)) * 1)) = some (.int .i64 x11) ∧
 NC a0.base fun p12 =>
 ((0 : Int) ≤ a1 ∧ (a1 : Int) < (a0.len : Nat)) ∧
 ∃ x13 : Int, w8.drew.cell? (p12.add (Int.toNat a1 * 1)) = some (.int .i64 x13) ∧
 NC a0.base fun p14 =>
 ((0 : Int) ≤ a1 ∧ (a1 : Int) < (a0.len : Nat)) ∧
 stCells (p14.add (Int.toNat a1 * 1)) 0 [.int .i64 x11] w8.drew fun w15 =>
 NC a0.base fun p16 =>
 ((0 : Int) ≤ (i64 (a1 + s7.1)) ∧ ((i64 (a1 + s7.1)) : Int) < (a0.len : Nat)) ∧
 stCells (p16.add (Int.toNat (i64 (a1 + s7.1)) * 1)) 0 [.int .i64 x13] w15 fun w17 =>
 c_slices_siftDownCmpFunc_int_ a0 0 s7.1 a1 a3 (fun  w18 =>
 next9 (i64 (s7.1 - 1), ()) w18
 ) w17
 ) (
 K  w8
 )
 )

theorem tieZ88 (c_slices_siftDownCmpFunc_int_ : ∀ (a0 : SlV) (a1 : Int) (a2 : Int) (a3 : Int) (a4 : Value) (K : World → Prop) (w : World), Prop) (x : ArgsV [.one (.sl), .one (.int .i64), .one (.int .i64), .one (.any)]) (K Kp : Value → World → Prop) (w : World) : T0.slices_heapSortCmpFunc_int_ env c_slices_siftDownCmpFunc_int_ x.1 x.2.1 x.2.2.1 x.2.2.2.1 (fun  w' => K (.tuple ⟨[]⟩) w') w =
 ev Go.Proofs.Tryz.prog (tabC [(108, fun args w K Kp => unArgs [.one (.sl), .one (.int .i64), .one (.int .i64), .one (.int .i64), .one (.any)] args.toList fun x => c_slices_siftDownCmpFunc_int_ x.1 x.2.1 x.2.2.1 x.2.2.2.1 x.2.2.2.2.1 (fun  w' => K (.tuple ⟨[]⟩) w') w)]) (ground Go.Proofs.Tryz.prog) ann88 body88 (finQ Go.Proofs.Tryz.prog Go.Proofs.Tryz.f88 K Kp) (initF (mkArgs [.one (.sl), .one (.int .i64), .one (.int .i64), .one (.any)] x)) w := by kernel_rfl
theorem tie88 (x : ArgsV [.one (.sl), .one (.int .i64), .one (.int .i64), .one (.any)]) (K Kp : Value → World → Prop) (w : World) : F.slices_heapSortCmpFunc_int_ env x.1 x.2.1 x.2.2.1 x.2.2.2.1 (fun  w' => K (.tuple ⟨[]⟩) w') w =
 ev Go.Proofs.Tryz.prog (tabC [(108, C108)]) (ground Go.Proofs.Tryz.prog) ann88 body88 (finQ Go.Proofs.Tryz.prog Go.Proofs.Tryz.f88 K Kp) (initF (mkArgs [.one (.sl), .one (.int .i64), .one (.int .i64), .one (.any)] x)) w := tieZ88 (F.slices_siftDownCmpFunc_int_ env) x K Kp w
theorem fits88 : FitsOne Go.Proofs.Tryz.prog 88 C88 :=
 fits_of_tie (T := [(108, C108)]) (A := ann88) (fn := Go.Proofs.Tryz.f88) (c := body88) (fits_cons fits108 fits_nil) mixed Go.Proofs.Tryz.func88 Go.Proofs.Tryz.call88 (by kernel_rfl) (by kernel_rfl) (by kernel_rfl) tie88

noncomputable def C109 : Entry := fun args w K Kp => unArgs [.one (.int .i64)] args.toList fun x => F.slices_nextPowerOfTwo env x.1 (fun r1 w' => K (.int .u64 r1) w') w
noncomputable def body109 : Code := (Go.Proofs.Tryz.f109.body).getD .skip
def ann109 : Ann := { loops := [], joins := [] }
def T0.slices_nextPowerOfTwo (E : Env) (c_math_bits_Len : ∀ (a0 : Int) (K : Int → World → Prop) (w : World), Prop) (a0 : Int) (K : Int → World → Prop) (w : World) : Prop :=
 c_math_bits_Len (u64 (a0)) (fun r1 w2 =>
 (0 : Int) ≤ r1 ∧
 LET (u64 (1 * 2 ^ (min (Int.toNat r1) (IntKind.bits .u64))) : Int) fun t3 =>
 K t3 w2
 ) w

theorem tieZ109 (c_math_bits_Len : ∀ (a0 : Int) (K : Int → World → Prop) (w : World), Prop) (x : ArgsV [.one (.int .i64)]) (K Kp : Value → World → Prop) (w : World) : T0.slices_nextPowerOfTwo env c_math_bits_Len x.1 (fun r1 w' => K (.int .u64 r1) w') w =
 ev Go.Proofs.Tryz.prog (tabC [(59, fun args w K Kp => unArgs [.one (.int .u64)] args.toList fun x => c_math_bits_Len x.1 (fun r1 w' => K (.int .i64 r1) w') w)]) (ground Go.Proofs.Tryz.prog) ann109 body109 (finQ Go.Proofs.Tryz.prog Go.Proofs.Tryz.f109 K Kp) (initF (mkArgs [.one (.int .i64)] x)) w := by kernel_rfl
theorem tie109 (x : ArgsV [.one (.int .i64)]) (K Kp : Value → World → Prop) (w : World) : F.slices_nextPowerOfTwo env x.1 (fun r1 w' => K (.int .u64 r1) w') w =
 ev Go.Proofs.Tryz.prog (tabC [(59, C59)]) (ground Go.Proofs.Tryz.prog) ann109 body109 (finQ Go.Proofs.Tryz.prog Go.Proofs.Tryz.f109 K Kp) (initF (mkArgs [.one (.int .i64)] x)) w := tieZ109 (F.math_bits_Len env) x K Kp w
theorem fits109 : FitsOne Go.Proofs.Tryz.prog 109 C109 :=
 fits_of_tie (T := [(59, C59)]) (A := ann109) (fn := Go.Proofs.Tryz.f109) (c := body109) (fits_cons fits59 fits_nil) mixed Go.Proofs.Tryz.func109 Go.Proofs.Tryz.call109 (by kernel_rfl) (by kernel_rfl) (by kernel_rfl) tie109

noncomputable def C110 : Entry := fun args w K Kp => unArgs [.one (.ptr)] args.toList fun x => F.slices_xorshift_Next env x.1 (fun r1 w' => K (.int .u64 r1) w') w
noncomputable def body110 : Code := (Go.Proofs.Tryz.f110.body).getD .skip
def ann110 : Ann := { loops := [], joins := [] }
theorem tie110 (x : ArgsV [.one (.ptr)]) (K Kp : Value → World → Prop) (w : World) : F.slices_xorshift_Next env x.1 (fun r1 w' => K (.int .u64 r1) w') w =
 ev Go.Proofs.Tryz.prog (tabC []) (ground Go.Proofs.Tryz.prog) ann110 body110 (finQ Go.Proofs.Tryz.prog Go.Proofs.Tryz.f110 K Kp) (initF (mkArgs [.one (.ptr)] x)) w := by kernel_rfl
theorem fits110 : FitsOne Go.Proofs.Tryz.prog 110 C110 :=
 fits_of_tie (T := []) (A := ann110) (fn := Go.Proofs.Tryz.f110) (c := body110) fits_nil mixed Go.Proofs.Tryz.func110 Go.Proofs.Tryz.call110 (by kernel_rfl) (by kernel_rfl) (by kernel_rfl) tie110

noncomputable def C89 : Entry := fun args w K Kp => unArgs [.one (.sl), .one (.int .i64), .one (.int .i64), .one (.any)] args.toList fun x => F.slices_breakPatternsCmpFunc_int_ env x.1 x.2.1 x.2.2.1 x.2.2.2.1 (fun  w' => K (.tuple ⟨[]⟩) w') w
noncomputable def body89 : Code := (Go.Proofs.Tryz.f89.body).getD .skip
def ann89 : Ann := { loops := [(5, [(11, .one (.int .i64))])], joins := [(10, [(12, .one (.int .i64))])] }
def T0.slices_breakPatternsCmpFunc_int_ (E : Env) (c_slices_nextPowerOfTwo : ∀ (a0 : Int) (K : Int → World → Prop) (w : World), Prop) (c_slices_xorshift_Next : ∀ (a0 : (Option Addr)) (K : Int → World → Prop) (w : World), Prop) (a0 : SlV) (a1 : Int) (a2 : Int) (a3 : Value) (K : World → Prop) (w : World) : Prop :=
 CND (decide (((i64 (a2 - a1)) : Int) ≥ 8)) (
 AL (.cells #[.int .u64 0] E.t_slices_xorshift) w fun b1 w2 =>
 stCells (Addr.mk b1 0 none) 0 [.int .u64 (u64 (i64 (a2 - a1)))] w2 fun w3 =>
 c_slices_nextPowerOfTwo (i64 (a2 - a1)) (fun r4 w5 =>
 4 ≠ (0 : Int) ∧
 LET (i64 ((i64 (a1 + (i64 ((i64 (Int.tdiv (i64 (a2 - a1)) 4)) * 2)))) - 1) : Int) fun idx_6 =>
 LOOP (Int × Unit) (idx_6, ()) w5 fun s7 _ w8 next9 =>
 4 ≠ (0 : Int) ∧
 CND (decide ((s7.1 : Int) ≤ (i64 ((i64 (a1 + (i64 ((i64 (Int.tdiv (i64 (a2 - a1)) 4)) * 2)))) + 1)))) (
 c_slices_xorshift_Next (some (Addr.mk b1 0 none)) (fun r10 w11 =>
 LET (i64 (bitK .u64 0 r10 (u64 (r4 - 1))) : Int) fun other_12 =>
 JOIN (Int × Unit) (fun J13 =>
 CND (decide ((other_12 : Int) ≥ (i64 (a2 - a1)))) (
 LET (i64 (other_12 - (i64 (a2 - a1))) : Int) fun other_16 =>
 J13 (other_16, ()) w11
 ) (
 J13 (other_12, ()) w11
 )
 ) fun s14 _ w15 =>
 NC a0.base fun p17 =>
 ((0 : Int) ≤ (i64 (a1 + s14.1)) ∧ ((i64 (a1 + s14.1)) : Int) < (a0.len : Nat)) ∧
 ∃ x18 : Int, w15.drew.cell? (p17.add (Int.toNat (i64 (a1 + s14.1)) * 1)) = some (.int .i64 x18) ∧
 NC a0.base fun p19 =>
 ((0 : Int) ≤ s7.1 ∧ (s7.1 : Int) < (a0.len : Nat)) ∧
 ∃ x20 : Int, w15.drew.cell? (p19.add (Int.toNat s7.1 * 1)) = some (.int .i64 x20) ∧
 NC a0.base fun p21 =>
 ((0 : Int) ≤ s7.1 ∧ (s7.1 : Int) < (a0.len : Nat)) ∧
 stCells (p21.add (Int.toNat s7.1 * 1)) 0 [.int .i64 x18] w15.drew fun w22 =>
 NC a0.base fun p23 =>
 ((0 : Int) ≤ (i64 (a1 + s14.1)) ∧ ((i64 (a1 + s14.1)) : Int) < (a0.len : Nat)) ∧
 stCells (p23.add (Int.toNat (i64 (a1 + s14.1)) * 1)) 0 [.int .i64 x20] w22 fun w24 =>
 next9 (i64 (s7.1 + 1), ()) w24
 ) w8
 ) (
 K  w8
 )
 ) w3
 ) (
 K  w
 )

theorem tieZ89 (c_slices_nextPowerOfTwo : ∀ (a0 : Int) (K : Int → World → Prop) (w : World), Prop) (c_slices_xorshift_Next : ∀ (a0 : (Option Addr)) (K : Int → World → Prop) (w : World), Prop) (x : ArgsV [.one (.sl), .one (.int .i64), .one (.int .i64), .one (.any)]) (K Kp : Value → World → Prop) (w : World) : T0.slices_breakPatternsCmpFunc_int_ env c_slices_nextPowerOfTwo c_slices_xorshift_Next x.1 x.2.1 x.2.2.1 x.2.2.2.1 (fun  w' => K (.tuple ⟨[]⟩) w') w =
 ev Go.Proofs.Tryz.prog (tabC [(109, fun args w K Kp => unArgs [.one (.int .i64)] args.toList fun x => c_slices_nextPowerOfTwo x.1 (fun r1 w' => K (.int .u64 r1) w') w), (110, fun args w K Kp => unArgs [.one (.ptr)] args.toList fun x => c_slices_xorshift_Next x.1 (fun r1 w' => K (.int .u64 r1) w') w)]) (ground Go.Proofs.Tryz.prog) ann89 body89 (finQ Go.Proofs.Tryz.prog Go.Proofs.Tryz.f89 K Kp) (initF (mkArgs [.one (.sl), .one (.int .i64), .one (.int .i64), .one (.any)] x)) w := by kernel_rfl
theorem tie89 (x : ArgsV [.one (.sl), .one (.int .i64), .one (.int .i64), .one (.any)]) (K Kp : Value → World → Prop) (w : World) : F.slices_breakPatternsCmpFunc_int_ env x.1 x.2.1 x.2.2.1 x.2.2.2.1 (fun  w' => K (.tuple ⟨[]⟩) w') w =
 ev Go.Proofs.Tryz.prog (tabC [(109, C109), (110, C110)]) (ground Go.Proofs.Tryz.prog) ann89 body89 (finQ Go.Proofs.Tryz.prog Go.Proofs.Tryz.f89 K Kp) (initF (mkArgs [.one (.sl), .one (.int .i64), .one (.int .i64), .one (.any)] x)) w := tieZ89 (F.slices_nextPowerOfTwo env) (F.slices_xorshift_Next env) x K Kp w
theorem fits89 : FitsOne Go.Proofs.Tryz.prog 89 C89 :=
 fits_of_tie (T := [(109, C109), (110, C110)]) (A := ann89) (fn := Go.Proofs.Tryz.f89) (c := body89) (fits_cons fits109 (fits_cons fits110 fits_nil)) mixed Go.Proofs.Tryz.func89 Go.Proofs.Tryz.call89 (by kernel_rfl) (by kernel_rfl) (by kernel_rfl) tie89

noncomputable def C114 : Entry := fun args w K Kp => unArgs [.one (.sl), .one (.int .i64), .one (.int .i64), .one (.ptr), .one (.any)] args.toList fun x => F.slices_order2CmpFunc_int_ env x.1 x.2.1 x.2.2.1 x.2.2.2.1 x.2.2.2.2.1 (fun r1 r2 w' => K (.tuple ⟨[.int .i64 r1, .int .i64 r2]⟩) w') w
noncomputable def body114 : Code := (Go.Proofs.Tryz.f114.body).getD .skip
def ann114 : Ann := { loops := [], joins := [] }
theorem tie114 (x : ArgsV [.one (.sl), .one (.int .i64), .one (.int .i64), .one (.ptr), .one (.any)]) (K Kp : Value → World → Prop) (w : World) : F.slices_order2CmpFunc_int_ env x.1 x.2.1 x.2.2.1 x.2.2.2.1 x.2.2.2.2.1 (fun r1 r2 w' => K (.tuple ⟨[.int .i64 r1, .int .i64 r2]⟩) w') w =
 ev Go.Proofs.Tryz.prog (tabC []) (ground Go.Proofs.Tryz.prog) ann114 body114 (finQ Go.Proofs.Tryz.prog Go.Proofs.Tryz.f114 K Kp) (initF (mkArgs [.one (.sl), .one (.int .i64), .one (.int .i64), .one (.ptr), .one (.any)] x)) w := by kernel_rfl
theorem fits114 : FitsOne Go.Proofs.Tryz.prog 114 C114 :=
 fits_of_tie (T := []) (A := ann114) (fn := Go.Proofs.Tryz.f114) (c := body114) fits_nil mixed Go.Proofs.Tryz.func114 Go.Proofs.Tryz.call114 (by kernel_rfl) (by kernel_rfl) (by kernel_rfl) tie114

noncomputable def C112 : Entry := fun args w K Kp => unArgs [.one (.sl), .one (.int .i64), .one (.int .i64), .one (.int .i64), .one (.ptr), .one (.any)] args.toList fun x => F.slices_medianCmpFunc_int_ env x.1 x.2.1 x.2.2.1 x.2.2.2.1 x.2.2.2.2.1 x.2.2.2.2.2.1 (fun r1 w' => K (.int .i64 r1) w') w
noncomputable def body112 : Code := (Go.Proofs.Tryz.f112.body).getD .skip
def ann112 : Ann := { loops := [], joins := [] }
def T0.slices_medianCmpFunc_int_ (E : Env) (c_slices_order2CmpFunc_int_ : ∀ (a0 : SlV) (a1 : Int) (a2 : Int) (a3 : (Option Addr)) (a4 : Value) (K : Int → Int → World → Prop) (w : World), Prop) (a0 : SlV) (a1 : Int) (a2 : Int) (a3 : Int) (a4 : (Option Addr)) (a5 : Value) (K : Int → World → Prop) (w : World) : Prop :=
 c_slices_order2CmpFunc_int_ a0 a1 a2 a4 a5 (fun r1 r2 w3 =>
 c_slices_order2CmpFunc_int_ a0 r2 a3 a4 a5 (fun r4 r5 w6 =>
 c_slices_order2CmpFunc_int_ a0 r1 r4 a4 a5 (fun r7 r8 w9 =>
 K r8 w9
 ) w6
 ) w3
 ) w

theorem tieZ112 (c_slices_order2CmpFunc_int_ : ∀ (a0 : SlV) (a1 : Int) (a2 : Int) (a3 : (Option Addr)) (a4 : Value) (K : Int → Int → World → Prop) (w : World), Prop) (x : ArgsV [.one (.sl), .one (.int .i64), .one (.int .i64), .one (.int .i64), .one (.ptr), .one (.any)]) (K Kp : Value → World → Prop) (w : World) : T0.slices_medianCmpFunc_int_ env c_slices_order2CmpFunc_int_ x.1 x.2.1 x.2.2.1 x.2.2.2.1 x.2.2.2.2.1 x.2.2.2.2.2.1 (fun r1 w' => K (.int .i64 r1) w') w =
 ev Go.Proofs.Tryz.prog (tabC [(114, fun args w K Kp => unArgs [.one (.sl), .one (.int .i64), .one (.int .i64), .one (.ptr), .one (.any)] args.toList fun x => c_slices_order2CmpFunc_int_ x.1 x.2.1 x.2.2.1 x.2.2.2.1 x.2.2.2.2.1 (fun r1 r2 w' => K (.tuple ⟨[.int .i64 r1, .int .i64 r2]⟩) w') w)]) (ground Go.Proofs.Tryz.prog) ann112 body112 (finQ Go.Proofs.Tryz.prog Go.Proofs.Tryz.f112 K Kp) (initF (mkArgs [.one (.sl), .one (.int .i64), .one (.int .i64), .one (.int .i64), .one (.ptr), .one (.any)] x)) w := by kernel_rfl
theorem tie112 (x : ArgsV [.one (.sl), .one (.int .i64), .one (.int .i64), .one (.int .i64), .one (.ptr), .one (.any)]) (K Kp : Value → World → Prop) (w : World) : F.slices_medianCmpFunc_int_ env x.1 x.2.1 x.2.2.1 x.2.2.2.1 x.2.2.2.2.1 x.2.2.2.2.2.1 (fun r1 w' => K (.int .i64 r1) w') w =
 ev Go.Proofs.Tryz.prog (tabC [(114, C114)]) (ground Go.Proofs.Tryz.prog) ann112 body112 (finQ Go.Proofs.Tryz.prog Go.Proofs.Tryz.f112 K Kp) (initF (mkArgs [.one (.sl), .one (.int .i64), .one (.int .i64), .one (.int .i64), .one (.ptr), .one (.any)] x)) w := tieZ112 (F.slices_order2CmpFunc_int_ env) x K Kp w
theorem fits112 : FitsOne Go.Proofs.Tryz.prog 112 C112 :=
 fits_of_tie (T := [(114, C114)]) (A := ann112) (fn := Go.Proofs.Tryz.f112) (c := body112) (fits_cons fits114 fits_nil) mixed Go.Proofs.Tryz.func112 Go.Proofs.Tryz.call112 (by kernel_rfl) (by kernel_rfl) (by kernel_rfl) tie112

noncomputable def C111 : Entry := fun args w K Kp => unArgs [.one (.sl), .one (.int .i64), .one (.ptr), .one (.any)] args.toList fun x => F.slices_medianAdjacentCmpFunc_int_ env x.1 x.2.1 x.2.2.1 x.2.2.2.1 (fun r1 w' => K (.int .i64 r1) w') w
noncomputable def body111 : Code := (Go.Proofs.Tryz.f111.body).getD .skip
def ann111 : Ann := { loops := [], joins := [] }
def T0.slices_medianAdjacentCmpFunc_int_ (E : Env) (c_slices_medianCmpFunc_int_ : ∀ (a0 : SlV) (a1 : Int) (a2 : Int) (a3 : Int) (a4 : (Option Addr)) (a5 : Value) (K : Int → World → Prop) (w : World), Prop) (a0 : SlV) (a1 : Int) (a2 : (Option Addr)) (a3 : Value) (K : Int → World → Prop) (w : World) : Prop :=
 c_slices_medianCmpFunc_int_ a0 (i64 (a1 - 1)) a1 (i64 (a1 + 1)) a2 a3 (fun r1 w2 =>
 K r1 w2
 ) w

theorem tieZ111 (c_slices_medianCmpFunc_int_ : ∀ (a0 : SlV) (a1 : Int) (a2 : Int) (a3 : Int) (a4 : (Option Addr)) (a5 : Value) (K : Int → World → Prop) (w : World), Prop) (x : ArgsV [.one (.sl), .one (.int .i64), .one (.ptr), .one (.any)]) (K Kp : Value → World → Prop) (w : World) : T0.slices_medianAdjacentCmpFunc_int_ env c_slices_medianCmpFunc_int_ x.1 x.2.1 x.2.2.1 x.2.2.2.1 (fun r1 w' => K (.int .i64 r1) w') w =
 ev Go.Proofs.Tryz.prog (tabC [(112, fun args w K Kp => unArgs [.one (.sl), .one (.int .i64), .one (.int .i64), .one (.int .i64), .one (.ptr), .one (.any)] args.toList fun x => c_slices_medianCmpFunc_int_ x.1 x.2.1 x.2.2.1 x.2.2.2.1 x.2.2.2.2.1 x.2.2.2.2.2.1 (fun r1 w' => K (.int .i64 r1) w') w)]) (ground Go.Proofs.Tryz.prog) ann111 body111 (finQ Go.Proofs.Tryz.prog Go.Proofs.Tryz.f111 K Kp) (initF (mkArgs [.one (.sl), .one (.int .i64), .one (.ptr), .one (.any)] x)) w := by kernel_rfl
theorem tie111 (x : ArgsV [.one (.sl), .one (.int .i64), .one (.ptr), .one (.any)]) (K Kp : Value → World → Prop) (w : World) : F.slices_medianAdjacentCmpFunc_int_ env x.1 x.2.1 x.2.2.1 x.2.2.2.1 (fun r1 w' => K (.int .i64 r1) w') w =
 ev Go.Proofs.Tryz.prog (tabC [(112, C112)]) (ground Go.Proofs.Tryz.prog) ann111 body111 (finQ Go.Proofs.Tryz.prog Go.Proofs.Tryz.f111 K Kp) (initF (mkArgs [.one (.sl), .one (.int .i64), .one (.ptr), .one (.any)] x)) w := tieZ111 (F.slices_medianCmpFunc_int_ env) x K Kp w
theorem fits111 : FitsOne Go.Proofs.Tryz.prog 111 C111 :=
 fits_of_tie (T := [(112, C112)]) (A := ann111) (fn := Go.Proofs.Tryz.f111) (c := body111) (fits_cons fits112 fits_nil) mixed Go.Proofs.Tryz.func111 Go.Proofs.Tryz.call111 (by kernel_rfl) (by kernel_rfl) (by kernel_rfl) tie111

noncomputable def C90 : Entry := fun args w K Kp => unArgs [.one (.sl), .one (.int .i64), .one (.int .i64), .one (.any)] args.toList fun x => F.slices_choosePivotCmpFunc_int_ env x.1 x.2.1 x.2.2.1 x.2.2.2.1 (fun r1 r2 w' => K (.tuple ⟨[.int .i64 r1, .int .i64 r2]⟩) w') w
noncomputable def body90 : Code := (Go.Proofs.Tryz.f90.body).getD .skip
def ann90 : Ann := { loops := [], joins := [(11, [(12, .one (.int .i64)), (13, .one (.int .i64)), (14, .one (.int .i64))]), (12, [(13, .one (.int .i64))])] }
def T0.slices_choosePivotCmpFunc_int_ (E : Env) (c_slices_medianAdjacentCmpFunc_int_ : ∀ (a0 : SlV) (a1 : Int) (a2 : (Option Addr)) (a3 : Value) (K : Int → World → Prop) (w : World), Prop) (c_slices_medianCmpFunc_int_ : ∀ (a0 : SlV) (a1 : Int) (a2 : Int) (a3 : Int) (a4 : (Option Addr)) (a5 : Value) (K : Int → World → Prop) (w : World), Prop) (a0 : SlV) (a1 : Int) (a2 : Int) (a3 : Value) (K : Int → Int → World → Prop) (w : World) : Prop :=
 AL (.cells #[.int .i64 0] E.t_int) w fun b1 w2 =>
 4 ≠ (0 : Int) ∧
 LET (i64 (a1 + (i64 ((i64 (Int.tdiv (i64 (a2 - a1)) 4)) * 1))) : Int) fun i_3 =>
 4 ≠ (0 : Int) ∧
 LET (i64 (a1 + (i64 ((i64 (Int.tdiv (i64 (a2 - a1)) 4)) * 2))) : Int) fun j_4 =>
 4 ≠ (0 : Int) ∧
 LET (i64 (a1 + (i64 ((i64 (Int.tdiv (i64 (a2 - a1)) 4)) * 3))) : Int) fun k_5 =>
 JOIN (Int × Unit) (fun J6 =>
 CND (decide (((i64 (a2 - a1)) : Int) ≥ 8)) (
 JOIN (Int × Int × Int × Unit) (fun J9 =>
 CND (decide (((i64 (a2 - a1)) : Int) ≥ 50)) (
 c_slices_medianAdjacentCmpFunc_int_ a0 i_3 (some (Addr.mk b1 0 none)) a3 (fun r12 w13 =>
 c_slices_medianAdjacentCmpFunc_int_ a0 j_4 (some (Addr.mk b1 0 none)) a3 (fun r14 w15 =>
 c_slices_medianAdjacentCmpFunc_int_ a0 k_5 (some (Addr.mk b1 0 none)) a3 (fun r16 w17 =>
 J9 (r12, r14, r16, ()) w17
 ) w15
 ) w13
 ) w2
 ) (
 J9 (i_3, j_4, k_5, ()) w2
 )
 ) fun s10 _ w11 =>
 c_slices_medianCmpFunc_int_ a0 s10.1 s10.2.1 s10.2.2.1 (some (Addr.mk b1 0 none)) a3 (fun r18 w19 =>
 J6 (r18, ()) w19
 ) w11
 ) (
 J6 (j_4, ()) w2
 )
 ) fun s7 _ w8 =>
 ∃ x20 : Int, w8.cell? (Addr.mk b1 0 none) = some (.int .i64 x20) ∧
 CND ((x20 : Int) == 0) (
 K s7.1 1 w8
 ) (
 CND ((x20 : Int) == 12) (
 K s7.1 2 w8
 ) (
 K s7.1 0 w8
 )
 )

theorem tieZ90 (c_slices_medianAdjacentCmpFunc_int_ : ∀ (a0 : SlV) (a1 : Int) (a2 : (Option Addr)) (a3 : Value) (K : Int → World → Prop) (w : World), Prop) (c_slices_medianCmpFunc_int_ : ∀ (a0 : SlV) (a1 : Int) (a2 : Int) (a3 : Int) (a4 : (Option Addr)) (a5 : Value) (K : Int → World → Prop) (w : World), Prop) (x : ArgsV [.one (.sl), .one (.int .i64), .one (.int .i64), .one (.any)]) (K Kp : Value → World → Prop) (w : World) : T0.slices_choosePivotCmpFunc_int_ env c_slices_medianAdjacentCmpFunc_int_ c_slices_medianCmpFunc_int_ x.1 x.2.1 x.2.2.1 x.2.2.2.1 (fun r1 r2 w' => K (.tuple ⟨[.int .i64 r1, .int .i64 r2]⟩) w') w =
 ev Go.Proofs.Tryz.prog (tabC [(111, fun args w K Kp => unArgs [.one (.sl), .one (.int .i64), .one (.ptr), .one (.any)] args.toList fun x => c_slices_medianAdjacentCmpFunc_int_ x.1 x.2.1 x.2.2.1 x.2.2.2.1 (fun r1 w' => K (.int .i64 r1) w') w), (112, fun args w K Kp => unArgs [.one (.sl), .one (.int .i64), .one (.int .i64), .one (.int .i64), .one (.ptr), .one (.any)] args.toList fun x => c_slices_medianCmpFunc_int_ x.1 x.2.1 x.2.2.1 x.2.2.2.1 x.2.2.2.2.1 x.2.2.2.2.2.1 (fun r1 w' => K (.int .i64 r1) w') w)]) (ground Go.Proofs.Tryz.prog) ann90 body90 (finQ Go.Proofs.Tryz.prog Go.Proofs.Tryz.f90 K Kp) (initF (mkArgs [.one (.sl), .one (.int .i64), .one (.int .i64), .one (.any)] x)) w := by kernel_rfl
theorem tie90 (x : ArgsV [.one (.sl), .one (.int .i64), .one (.int .i64), .one (.any)]) (K Kp : Value → World → Prop) (w : World) : F.slices_choosePivotCmpFunc_int_ env x.1 x.2.1 x.2.2.1 x.2.2.2.1 (fun r1 r2 w' => K (.tuple ⟨[.int .i64 r1, .int .i64 r2]⟩) w') w =
 ev Go.Proofs.Tryz.prog (tabC [(111, C111), (112, C112)]) (ground Go.Proofs.Tryz.prog) ann90 body90 (finQ Go.Proofs.Tryz.prog Go.Proofs.Tryz.f90 K Kp) (initF (mkArgs [.one (.sl), .one (.int .i64), .one (.int .i64), .one (.any)] x)) w := tieZ90 (F.slices_medianAdjacentCmpFunc_int_ env) (F.slices_medianCmpFunc_int_ env) x K Kp w
theorem fits90 : FitsOne Go.Proofs.Tryz.prog 90 C90 :=
 fits_of_tie (T := [(111, C111), (112, C112)]) (A := ann90) (fn := Go.Proofs.Tryz.f90) (c := body90) (fits_cons fits111 (fits_cons fits112 fits_nil)) mixed Go.Proofs.Tryz.func90 Go.Proofs.Tryz.call90 (by kernel_rfl) (by kernel_rfl) (by kernel_rfl) tie90

noncomputable def C91 : Entry := fun args w K Kp => unArgs [.one (.sl), .one (.int .i64), .one (.int .i64), .one (.any)] args.toList fun x => F.slices_reverseRangeCmpFunc_int_ env x.1 x.2.1 x.2.2.1 x.2.2.2.1 (fun  w' => K (.tuple ⟨[]⟩) w') w
noncomputable def body91 : Code := (Go.Proofs.Tryz.f91.body).getD .skip
def ann91 : Ann := { loops := [(2, [(8, .one (.int .i64)), (9, .one (.int .i64))])], joins := [] }
theorem tie91 (x : ArgsV [.one (.sl), .one (.int .i64), .one (.int .i64), .one (.any)]) (K Kp : Value → World → Prop) (w : World) : F.slices_reverseRangeCmpFunc_int_ env x.1 x.2.1 x.2.2.1 x.2.2.2.1 (fun  w' => K (.tuple ⟨[]⟩) w') w =
 ev Go.Proofs.Tryz.prog (tabC []) (ground Go.Proofs.Tryz.prog) ann91 body91 (finQ Go.Proofs.Tryz.prog Go.Proofs.Tryz.f91 K Kp) (initF (mkArgs [.one (.sl), .one (.int .i64), .one (.int .i64), .one (.any)] x)) w := by kernel_rfl
theorem fits91 : FitsOne Go.Proofs.Tryz.prog 91 C91 :=
 fits_of_tie (T := []) (A := ann91) (fn := Go.Proofs.Tryz.f91) (c := body91) fits_nil mixed Go.Proofs.Tryz.func91 Go.Proofs.Tryz.call91 (by kernel_rfl) (by kernel_rfl) (by kernel_rfl) tie91

noncomputable def C92 : Entry := fun args w K Kp => unArgs [.one (.sl), .one (.int .i64), .one (.int .i64), .one (.any)] args.toList fun x => F.slices_partialInsertionSortCmpFunc_int_ env x.1 x.2.1 x.2.2.1 x.2.2.2.1 (fun r1 w' => K (.bool r1) w') w
noncomputable def body92 : Code := (Go.Proofs.Tryz.f92.body).getD .skip
def ann92 : Ann := { loops := [(3, [(9, .one (.int .i64)), (10, .one (.int .i64))]), (5, [(9, .one (.int .i64))]), (14, [(11, .one (.int .i64))]), (20, [(12, .one (.int .i64))])], joins := [(7, [(9, .one (.int .i64))]), (18, [])] }
theorem tie92 (x : ArgsV [.one (.sl), .one (.int .i64), .one (.int .i64), .one (.any)]) (K Kp : Value → World → Prop) (w : World) : F.slices_partialInsertionSortCmpFunc_int_ env x.1 x.2.1 x.2.2.1 x.2.2.2.1 (fun r1 w' => K (.bool r1) w') w =
 ev Go.Proofs.Tryz.prog (tabC []) (ground Go.Proofs.Tryz.prog) ann92 body92 (finQ Go.Proofs.Tryz.prog Go.Proofs.Tryz.f92 K Kp) (initF (mkArgs [.one (.sl), .one (.int .i64), .one (.int .i64), .one (.any)] x)) w := by kernel_rfl
theorem fits92 : FitsOne Go.Proofs.Tryz.prog 92 C92 :=
 fits_of_tie (T := []) (A := ann92) (fn := Go.Proofs.Tryz.f92) (c := body92) fits_nil mixed Go.Proofs.Tryz.func92 Go.Proofs.Tryz.call92 (by kernel_rfl) (by kernel_rfl) (by kernel_rfl) tie92

noncomputable def C93 : Entry := fun args w K Kp => unArgs [.one (.sl), .one (.int .i64), .one (.int .i64), .one (.int .i64), .one (.any)] args.toList fun x => F.slices_partitionEqualCmpFunc_int_ env x.1 x.2.1 x.2.2.1 x.2.2.2.1 x.2.2.2.2.1 (fun r1 w' => K (.int .i64 r1) w') w
noncomputable def body93 : Code := (Go.Proofs.Tryz.f93.body).getD .skip
def ann93 : Ann := { loops := [(3, [(11, .one (.int .i64)), (12, .one (.int .i64))]), (5, [(12, .one (.int .i64))])], joins := [(5, [(11, .one (.int .i64))]), (7, [(12, .one (.int .i64))])] }
theorem tie93 (x : ArgsV [.one (.sl), .one (.int .i64), .one (.int .i64), .one (.int .i64), .one (.any)]) (K Kp : Value → World → Prop) (w : World) : F.slices_partitionEqualCmpFunc_int_ env x.1 x.2.1 x.2.2.1 x.2.2.2.1 x.2.2.2.2.1 (fun r1 w' => K (.int .i64 r1) w') w =
 ev Go.Proofs.Tryz.prog (tabC []) (ground Go.Proofs.Tryz.prog) ann93 body93 (finQ Go.Proofs.Tryz.prog Go.Proofs.Tryz.f93 K Kp) (initF (mkArgs [.one (.sl), .one (.int .i64), .one (.int .i64), .one (.int .i64), .one (.any)] x)) w := by kernel_rfl
theorem fits93 : FitsOne Go.Proofs.Tryz.prog 93 C93 :=
 fits_of_tie (T := []) (A := ann93) (fn := Go.Proofs.Tryz.f93) (c := body93) fits_nil mixed Go.Proofs.Tryz.func93 Go.Proofs.Tryz.call93 (by kernel_rfl) (by kernel_rfl) (by kernel_rfl) tie93

noncomputable def C94 : Entry := fun args w K Kp => unArgs [.one (.sl), .one (.int .i64), .one (.int .i64), .one (.int .i64), .one (.any)] args.toList fun x => F.slices_partitionCmpFunc_int_ env x.1 x.2.1 x.2.2.1 x.2.2.2.1 x.2.2.2.2.1 (fun r1 r2 w' => K (.tuple ⟨[.int .i64 r1, .bool r2]⟩) w') w
noncomputable def body94 : Code := (Go.Proofs.Tryz.f94.body).getD .skip
def ann94 : Ann := { loops := [(3, [(12, .one (.int .i64))]), (5, [(13, .one (.int .i64))]), (13, [(12, .one (.int .i64)), (13, .one (.int .i64))]), (15, [(13, .one (.int .i64))])], joins := [(5, [(12, .one (.int .i64))]), (7, [(13, .one (.int .i64))]), (15, [(12, .one (.int .i64))]), (17, [(13, .one (.int .i64))])] }
theorem tie94 (x : ArgsV [.one (.sl), .one (.int .i64), .one (.int .i64), .one (.int .i64), .one (.any)]) (K Kp : Value → World → Prop) (w : World) : F.slices_partitionCmpFunc_int_ env x.1 x.2.1 x.2.2.1 x.2.2.2.1 x.2.2.2.2.1 (fun r1 r2 w' => K (.tuple ⟨[.int .i64 r1, .bool r2]⟩) w') w =
 ev Go.Proofs.Tryz.prog (tabC []) (ground Go.Proofs.Tryz.prog) ann94 body94 (finQ Go.Proofs.Tryz.prog Go.Proofs.Tryz.f94 K Kp) (initF (mkArgs [.one (.sl), .one (.int .i64), .one (.int .i64), .one (.int .i64), .one (.any)] x)) w := by kernel_rfl
theorem fits94 : FitsOne Go.Proofs.Tryz.prog 94 C94 :=
 fits_of_tie (T := []) (A := ann94) (fn := Go.Proofs.Tryz.f94) (c := body94) fits_nil mixed Go.Proofs.Tryz.func94 Go.Proofs.Tryz.call94 (by kernel_rfl) (by kernel_rfl) (by kernel_rfl) tie94

noncomputable def Cn58 (n : Nat) : Entry := fun args w K Kp => unArgs [.one (.sl), .one (.int .i64), .one (.int .i64), .one (.int .i64), .one (.any)] args.toList fun x => F.slices_pdqsortCmpFunc_int_ env n x.1 x.2.1 x.2.2.1 x.2.2.2.1 x.2.2.2.2.1 (fun  w' => K (.tuple ⟨[]⟩) w') w
noncomputable def C58 : Entry := fun args w K Kp => ∃ n, Cn58 n args w K Kp
noncomputable def body58 : Code := (Go.Proofs.Tryz.f58.body).getD .skip
def ann58 : Ann := { loops := [(2, [(1, .one (.int .i64)), (2, .one (.int .i64)), (3, .one (.int .i64)), (10, .one (.bool)), (11, .one (.bool))])], joins := [(10, [(3, .one (.int .i64))]), (15, [(13, .one (.int .i64)), (14, .one (.int .i64))]), (16, [(75, .one (.bool))]), (17, []), (18, [(97, .one (.bool))])] }
theorem tie58 (n : Nat) (x : ArgsV [.one (.sl), .one (.int .i64), .one (.int .i64), .one (.int .i64), .one (.any)]) (K Kp : Value → World → Prop) (w : World) : F.slices_pdqsortCmpFunc_int_ env (n + 1) x.1 x.2.1 x.2.2.1 x.2.2.2.1 x.2.2.2.2.1 (fun  w' => K (.tuple ⟨[]⟩) w') w =
 ev Go.Proofs.Tryz.prog (tabC [(87, C87), (88, C88), (89, C89), (90, C90), (91, C91), (92, C92), (93, C93), (94, C94), (58, Cn58 n)]) (ground Go.Proofs.Tryz.prog) ann58 body58 (finQ Go.Proofs.Tryz.prog Go.Proofs.Tryz.f58 K Kp) (initF (mkArgs [.one (.sl), .one (.int .i64), .one (.int .i64), .one (.int .i64), .one (.any)] x)) w := by kernel_rfl
theorem fitsN58 (n : Nat) : FitsOne Go.Proofs.Tryz.prog 58 (Cn58 n) := by
 induction n with
 | zero => intro args w K Kp h; obtain ⟨x, _, h⟩ := unArgs_elim h; exact h.elim
 | succ n ih => exact fits_of_tie (T := [(87, C87), (88, C88), (89, C89), (90, C90), (91, C91), (92, C92), (93, C93), (94, C94), (58, Cn58 n)]) (A := ann58) (fn := Go.Proofs.Tryz.f58) (c := body58) (fits_cons fits87 (fits_cons fits88 (fits_cons fits89 (fits_cons fits90 (fits_cons fits91 (fits_cons fits92 (fits_cons fits93 (fits_cons fits94 (fits_cons ih fits_nil))))))))) mixed Go.Proofs.Tryz.func58 Go.Proofs.Tryz.call58 (by kernel_rfl) (by kernel_rfl) (by kernel_rfl) (tie58 n)
theorem fits58 : FitsOne Go.Proofs.Tryz.prog 58 C58 := fits_some fitsN58

noncomputable def C27 : Entry := fun args w K Kp => unArgs [.one (.sl), .one (.any)] args.toList fun x => F.slices_SortFunc___int_int_ env x.1 x.2.1 (fun  w' => K (.tuple ⟨[]⟩) w') w
noncomputable def body27 : Code := (Go.Proofs.Tryz.f27.body).getD .skip
def ann27 : Ann := { loops := [], joins := [] }
def T0.slices_SortFunc___int_int_ (E : Env) (c_math_bits_Len : ∀ (a0 : Int) (K : Int → World → Prop) (w : World), Prop) (a0 : SlV) (a1 : Value) (K : World → Prop) (w : World) : Prop :=
 c_math_bits_Len (u64 (((a0.len : Nat) : Int))) (fun r1 w2 =>
 ∃ n_, F.slices_pdqsortCmpFunc_int_ E n_ a0 0 ((a0.len : Nat) : Int) r1 a1 (fun  w3 =>
 K  w3
 ) w2
 ) w

theorem tieZ27 (c_math_bits_Len : ∀ (a0 : Int) (K : Int → World → Prop) (w : World), Prop) (x : ArgsV [.one (.sl), .one (.any)]) (K Kp : Value → World → Prop) (w : World) : T0.slices_SortFunc___int_int_ env c_math_bits_Len x.1 x.2.1 (fun  w' => K (.tuple ⟨[]⟩) w') w =
 ev Go.Proofs.Tryz.prog (tabC [(59, fun args w K Kp => unArgs [.one (.int .u64)] args.toList fun x => c_math_bits_Len x.1 (fun r1 w' => K (.int .i64 r1) w') w), (58, C58)]) (ground Go.Proofs.Tryz.prog) ann27 body27 (finQ Go.Proofs.Tryz.prog Go.Proofs.Tryz.f27 K Kp) (initF (mkArgs [.one (.sl), .one (.any)] x)) w := by kernel_rfl
theorem tie27 (x : ArgsV [.one (.sl), .one (.any)]) (K Kp : Value → World → Prop) (w : World) : F.slices_SortFunc___int_int_ env x.1 x.2.1 (fun  w' => K (.tuple ⟨[]⟩) w') w =
 ev Go.Proofs.Tryz.prog (tabC [(59, C59), (58, C58)]) (ground Go.Proofs.Tryz.prog) ann27 body27 (finQ Go.Proofs.Tryz.prog Go.Proofs.Tryz.f27 K Kp) (initF (mkArgs [.one (.sl), .one (.any)] x)) w := tieZ27 (F.math_bits_Len env) x K Kp w
theorem fits27 : FitsOne Go.Proofs.Tryz.prog 27 C27 :=
 fits_of_tie (T := [(59, C59), (58, C58)]) (A := ann27) (fn := Go.Proofs.Tryz.f27) (c := body27) (fits_cons fits59 (fits_cons fits58 fits_nil)) mixed Go.Proofs.Tryz.func27 Go.Proofs.Tryz.call27 (by kernel_rfl) (by kernel_rfl) (by kernel_rfl) tie27

noncomputable def C8 : Entry := fun args w K Kp => unArgs [.one (.ptr)] args.toList fun x => F.mheap_Heap_Spans env x.1 (fun r1 w' => K (.slice r1.base r1.len r1.cap) w') w
noncomputable def body8 : Code := (Go.Proofs.Tryz.f8.body).getD .skip
def ann8 : Ann := { loops := [(3, [(3, .one (.sl))])], joins := [(4, [(11, .one (.bool))])] }
def T0.mheap_Heap_Spans (E : Env) (c_slices_SortFunc___int_int_ : ∀ (a0 : SlV) (a1 : Value) (K : World → Prop) (w : World), Prop) (a0 : (Option Addr)) (K : SlV → World → Prop) (w : World) : Prop :=
 AL (.cells #[.pointer a0] E.t__mheap_Heap) w fun b1 w2 =>
 ∃ x3 : (Option Addr), w2.cell? (Addr.mk b1 0 none) = some (.pointer x3) ∧
 NC x3 fun p4 =>
 ∃ x5 : (Option Nat), w2.cell? (p4.add 4) = some (.map x5) ∧
 ∃ cl6, rngAt w2 x5 cl6 ∧
 AL (rngObj x5 cl6) w2 fun b7 w8 =>
 LOOP (SlV × Unit) (⟨none, 0, 0⟩, ()) w8 fun s9 _ w10 next11 =>
 JOIN (Bool × Unit) (fun J12 =>
 NEXT b7 w10 (fun w15 =>
 J12 (false, ()) w15
 ) fun k17 v18 w16 =>
 J12 (true, ()) w16
 ) fun s13 _ w14 =>
 JOIN (Bool × Unit) (fun J19 =>
 CND (s13.1) (
 J19 (s13.1, ()) w14
 ) (
 c_slices_SortFunc___int_int_ s9.1 (.func (.func E.f_mheap_Heap_Spans_1) #[] #[.pointer (some (Addr.mk b1 0 none))]) (fun  w22 =>
 K s9.1 w22
 ) w14
 )
 ) fun s20 _ w21 =>
 ENT b7 w21 fun k23 v24 S25 =>
 unInt .i64 k23 fun x26 =>
 AL (.cells ⟨[.int .i64 x26]⟩ E.t_int) w21 fun b27 w28 =>
 APP E.t_int 1 8 #[.int .i64 0] s9.1 ⟨(some (Addr.mk b27 0 none)), 1, 1⟩ w28 fun s29 w30 =>
 next11 (s29, ()) w30

theorem tieZ8 (c_slices_SortFunc___int_int_ : ∀ (a0 : SlV) (a1 : Value) (K : World → Prop) (w : World), Prop) (x : ArgsV [.one (.ptr)]) (K Kp : Value → World → Prop) (w : World) : T0.mheap_Heap_Spans env c_slices_SortFunc___int_int_ x.1 (fun r1 w' => K (.slice r1.base r1.len r1.cap) w') w =
 ev Go.Proofs.Tryz.prog (tabC [(27, fun args w K Kp => unArgs [.one (.sl), .one (.any)] args.toList fun x => c_slices_SortFunc___int_int_ x.1 x.2.1 (fun  w' => K (.tuple ⟨[]⟩) w') w)]) (ground Go.Proofs.Tryz.prog) ann8 body8 (finQ Go.Proofs.Tryz.prog Go.Proofs.Tryz.f8 K Kp) (initF (mkArgs [.one (.ptr)] x)) w := by kernel_rfl
theorem tie8 (x : ArgsV [.one (.ptr)]) (K Kp : Value → World → Prop) (w : World) : F.mheap_Heap_Spans env x.1 (fun r1 w' => K (.slice r1.base r1.len r1.cap) w') w =
 ev Go.Proofs.Tryz.prog (tabC [(27, C27)]) (ground Go.Proofs.Tryz.prog) ann8 body8 (finQ Go.Proofs.Tryz.prog Go.Proofs.Tryz.f8 K Kp) (initF (mkArgs [.one (.ptr)] x)) w := tieZ8 (F.slices_SortFunc___int_int_ env) x K Kp w
theorem fits8 : FitsOne Go.Proofs.Tryz.prog 8 C8 :=
 fits_of_tie (T := [(27, C27)]) (A := ann8) (fn := Go.Proofs.Tryz.f8) (c := body8) (fits_cons fits27 fits_nil) mixed Go.Proofs.Tryz.func8 Go.Proofs.Tryz.call8 (by kernel_rfl) (by kernel_rfl) (by kernel_rfl) tie8

noncomputable def C63 : Entry := fun args w K Kp => unArgs [.one (.ptr), .one (.int .u64)] args.toList fun x => F.stretch_Set_Has env x.1 x.2.1 (fun r1 w' => K (.bool r1) w') w
noncomputable def body63 : Code := (Go.Proofs.Tryz.f63.body).getD .skip
def ann63 : Ann := { loops := [], joins := [] }
def T0.stretch_Set_Has (E : Env) (c_stretch_Set_at : ∀ (a0 : (Option Addr)) (a1 : Int) (K : Int → World → Prop) (w : World), Prop) (a0 : (Option Addr)) (a1 : Int) (K : Bool → World → Prop) (w : World) : Prop :=
 c_stretch_Set_at a0 a1 (fun r1 w2 =>
 NC a0 fun p3 =>
 ∃ x4 : SlV, w2.cell? p3 = some (.slice x4.base x4.len x4.cap) ∧
 CND (decide ((r1 : Int) < ((x4.len : Nat) : Int))) (
 NC a0 fun p5 =>
 ∃ x6 : SlV, w2.cell? p5 = some (.slice x6.base x6.len x6.cap) ∧
 NC x6.base fun p7 =>
 ((0 : Int) ≤ r1 ∧ (r1 : Int) < (x6.len : Nat)) ∧
 ∃ x8 : Int, w2.cell? (p7.add (Int.toNat r1 * 2)) = some (.int .u64 x8) ∧
 K (decide ((x8 : Int) ≤ a1)) w2
 ) (
 K false w2
 )
 ) w

theorem tieZ63 (c_stretch_Set_at : ∀ (a0 : (Option Addr)) (a1 : Int) (K : Int → World → Prop) (w : World), Prop) (x : ArgsV [.one (.ptr), .one (.int .u64)]) (K Kp : Value → World → Prop) (w : World) : T0.stretch_Set_Has env c_stretch_Set_at x.1 x.2.1 (fun r1 w' => K (.bool r1) w') w =
 ev Go.Proofs.Tryz.prog (tabC [(67, fun args w K Kp => unArgs [.one (.ptr), .one (.int .u64)] args.toList fun x => c_stretch_Set_at x.1 x.2.1 (fun r1 w' => K (.int .i64 r1) w') w)]) (ground Go.Proofs.Tryz.prog) ann63 body63 (finQ Go.Proofs.Tryz.prog Go.Proofs.Tryz.f63 K Kp) (initF (mkArgs [.one (.ptr), .one (.int .u64)] x)) w := by kernel_rfl
theorem tie63 (x : ArgsV [.one (.ptr), .one (.int .u64)]) (K Kp : Value → World → Prop) (w : World) : F.stretch_Set_Has env x.1 x.2.1 (fun r1 w' => K (.bool r1) w') w =
 ev Go.Proofs.Tryz.prog (tabC [(67, C67)]) (ground Go.Proofs.Tryz.prog) ann63 body63 (finQ Go.Proofs.Tryz.prog Go.Proofs.Tryz.f63 K Kp) (initF (mkArgs [.one (.ptr), .one (.int .u64)] x)) w := tieZ63 (F.stretch_Set_at env) x K Kp w
theorem fits63 : FitsOne Go.Proofs.Tryz.prog 63 C63 :=
 fits_of_tie (T := [(67, C67)]) (A := ann63) (fn := Go.Proofs.Tryz.f63) (c := body63) (fits_cons fits67 fits_nil) mixed Go.Proofs.Tryz.func63 Go.Proofs.Tryz.call63 (by kernel_rfl) (by kernel_rfl) (by kernel_rfl) tie63

noncomputable def C61 : Entry := fun args w K Kp => unArgs [.one (.ptr), .one (.int .u64)] args.toList fun x => F.arena_Map_Has env x.1 x.2.1 (fun r1 w' => K (.bool r1) w') w
noncomputable def body61 : Code := (Go.Proofs.Tryz.f61.body).getD .skip
def ann61 : Ann := { loops := [], joins := [] }
def T0.arena_Map_Has (E : Env) (c_stretch_Set_Has : ∀ (a0 : (Option Addr)) (a1 : Int) (K : Bool → World → Prop) (w : World), Prop) (a0 : (Option Addr)) (a1 : Int) (K : Bool → World → Prop) (w : World) : Prop :=
 NC a0 fun p1 =>
 4194304 ≠ (0 : Int) ∧
 c_stretch_Set_Has (some p1) (u64 (Int.tdiv a1 4194304)) (fun r2 w3 =>
 K r2 w3
 ) w

theorem tieZ61 (c_stretch_Set_Has : ∀ (a0 : (Option Addr)) (a1 : Int) (K : Bool → World → Prop) (w : World), Prop) (x : ArgsV [.one (.ptr), .one (.int .u64)]) (K Kp : Value → World → Prop) (w : World) : T0.arena_Map_Has env c_stretch_Set_Has x.1 x.2.1 (fun r1 w' => K (.bool r1) w') w =
 ev Go.Proofs.Tryz.prog (tabC [(63, fun args w K Kp => unArgs [.one (.ptr), .one (.int .u64)] args.toList fun x => c_stretch_Set_Has x.1 x.2.1 (fun r1 w' => K (.bool r1) w') w)]) (ground Go.Proofs.Tryz.prog) ann61 body61 (finQ Go.Proofs.Tryz.prog Go.Proofs.Tryz.f61 K Kp) (initF (mkArgs [.one (.ptr), .one (.int .u64)] x)) w := by kernel_rfl
theorem tie61 (x : ArgsV [.one (.ptr), .one (.int .u64)]) (K Kp : Value → World → Prop) (w : World) : F.arena_Map_Has env x.1 x.2.1 (fun r1 w' => K (.bool r1) w') w =
 ev Go.Proofs.Tryz.prog (tabC [(63, C63)]) (ground Go.Proofs.Tryz.prog) ann61 body61 (finQ Go.Proofs.Tryz.prog Go.Proofs.Tryz.f61 K Kp) (initF (mkArgs [.one (.ptr), .one (.int .u64)] x)) w := tieZ61 (F.stretch_Set_Has env) x K Kp w
theorem fits61 : FitsOne Go.Proofs.Tryz.prog 61 C61 :=
 fits_of_tie (T := [(63, C63)]) (A := ann61) (fn := Go.Proofs.Tryz.f61) (c := body61) (fits_cons fits63 fits_nil) mixed Go.Proofs.Tryz.func61 Go.Proofs.Tryz.call61 (by kernel_rfl) (by kernel_rfl) (by kernel_rfl) tie61

noncomputable def C68 : Entry := fun args w K Kp => unArgs [.one (.ptr), .one (.int .u64)] args.toList fun x => F.arena_Map_whole env x.1 x.2.1 (fun r1 w' => K (.int .i64 r1) w') w
noncomputable def body68 : Code := (Go.Proofs.Tryz.f68.body).getD .skip
def ann68 : Ann := { loops := [(2, [(12, .one (.int .i64))])], joins := [(5, [(25, .one (.bool))])] }
theorem tie68 (x : ArgsV [.one (.ptr), .one (.int .u64)]) (K Kp : Value → World → Prop) (w : World) : F.arena_Map_whole env x.1 x.2.1 (fun r1 w' => K (.int .i64 r1) w') w =
 ev Go.Proofs.Tryz.prog (tabC []) (ground Go.Proofs.Tryz.prog) ann68 body68 (finQ Go.Proofs.Tryz.prog Go.Proofs.Tryz.f68 K Kp) (initF (mkArgs [.one (.ptr), .one (.int .u64)] x)) w := by kernel_rfl
theorem fits68 : FitsOne Go.Proofs.Tryz.prog 68 C68 :=
 fits_of_tie (T := []) (A := ann68) (fn := Go.Proofs.Tryz.f68) (c := body68) fits_nil mixed Go.Proofs.Tryz.func68 Go.Proofs.Tryz.call68 (by kernel_rfl) (by kernel_rfl) (by kernel_rfl) tie68

noncomputable def C62 : Entry := fun args w K Kp => unArgs [.one (.ptr), .one (.int .u64)] args.toList fun x => F.arena_Map_At env x.1 x.2.1 (fun r1 w' => K (.int .i64 r1) w') w
noncomputable def body62 : Code := (Go.Proofs.Tryz.f62.body).getD .skip
def ann62 : Ann := { loops := [], joins := [] }
def T0.arena_Map_At (E : Env) (c_arena_Map_whole : ∀ (a0 : (Option Addr)) (a1 : Int) (K : Int → World → Prop) (w : World), Prop) (a0 : (Option Addr)) (a1 : Int) (K : Int → World → Prop) (w : World) : Prop :=
 8192 ≠ (0 : Int) ∧
 NC a0 fun p1 =>
 ∃ x2 : (Option Nat), w.cell? (p1.add 3) = some (.map x2) ∧
 512 ≠ (0 : Int) ∧
 LKP .u64 (u64 (Int.tdiv (u64 (Int.tdiv a1 8192)) 512)) x2 w (.pointer none) fun v3 ok4 es5 =>
 ∃ x6 : (Option Addr), v3 = .pointer x6 ∧
 CND (!x6.isNone) (
 512 ≠ (0 : Int) ∧
 NC x6 fun p7 =>
 ((0 : Int) ≤ (Int.tmod (u64 (Int.tdiv a1 8192)) 512) ∧ ((Int.tmod (u64 (Int.tdiv a1 8192)) 512) : Int) < (512 : Nat)) ∧
 ∃ x8 : Int, w.cell? (p7.add (Int.toNat (Int.tmod (u64 (Int.tdiv a1 8192)) 512) * 1)) = some (.int .i64 x8) ∧
 K x8 w
 ) (
 512 ≠ (0 : Int) ∧
 c_arena_Map_whole a0 (u64 (Int.tdiv (u64 (Int.tdiv a1 8192)) 512)) (fun r9 w10 =>
 K r9 w10
 ) w
 )

theorem tieZ62 (c_arena_Map_whole : ∀ (a0 : (Option Addr)) (a1 : Int) (K : Int → World → Prop) (w : World), Prop) (x : ArgsV [.one (.ptr), .one (.int .u64)]) (K Kp : Value → World → Prop) (w : World) : T0.arena_Map_At env c_arena_Map_whole x.1 x.2.1 (fun r1 w' => K (.int .i64 r1) w') w =
 ev Go.Proofs.Tryz.prog (tabC [(68, fun args w K Kp => unArgs [.one (.ptr), .one (.int .u64)] args.toList fun x => c_arena_Map_whole x.1 x.2.1 (fun r1 w' => K (.int .i64 r1) w') w)]) (ground Go.Proofs.Tryz.prog) ann62 body62 (finQ Go.Proofs.Tryz.prog Go.Proofs.Tryz.f62 K Kp) (initF (mkArgs [.one (.ptr), .one (.int .u64)] x)) w := by kernel_rfl
theorem tie62 (x : ArgsV [.one (.ptr), .one (.int .u64)]) (K Kp : Value → World → Prop) (w : World) : F.arena_Map_At env x.1 x.2.1 (fun r1 w' => K (.int .i64 r1) w') w =
 ev Go.Proofs.Tryz.prog (tabC [(68, C68)]) (ground Go.Proofs.Tryz.prog) ann62 body62 (finQ Go.Proofs.Tryz.prog Go.Proofs.Tryz.f62 K Kp) (initF (mkArgs [.one (.ptr), .one (.int .u64)] x)) w := tieZ62 (F.arena_Map_whole env) x K Kp w
theorem fits62 : FitsOne Go.Proofs.Tryz.prog 62 C62 :=
 fits_of_tie (T := [(68, C68)]) (A := ann62) (fn := Go.Proofs.Tryz.f62) (c := body62) (fits_cons fits68 fits_nil) mixed Go.Proofs.Tryz.func62 Go.Proofs.Tryz.call62 (by kernel_rfl) (by kernel_rfl) (by kernel_rfl) tie62

noncomputable def C31 : Entry := fun args w K Kp => unArgs [.one (.ptr), .one (.int .u64)] args.toList fun x => F.mheap_Heap_Of env x.1 x.2.1 (fun r1 w' => K (.int .i64 r1) w') w
noncomputable def body31 : Code := (Go.Proofs.Tryz.f31.body).getD .skip
def ann31 : Ann := { loops := [], joins := [] }
def T0.mheap_Heap_Of (E : Env) (c_arena_Map_At : ∀ (a0 : (Option Addr)) (a1 : Int) (K : Int → World → Prop) (w : World), Prop) (a0 : (Option Addr)) (a1 : Int) (K : Int → World → Prop) (w : World) : Prop :=
 NC a0 fun p1 =>
 ∃ x2 : (Option Addr), w.cell? (p1.add 2) = some (.pointer x2) ∧
 c_arena_Map_At x2 a1 (fun r3 w4 =>
 K r3 w4
 ) w

theorem tieZ31 (c_arena_Map_At : ∀ (a0 : (Option Addr)) (a1 : Int) (K : Int → World → Prop) (w : World), Prop) (x : ArgsV [.one (.ptr), .one (.int .u64)]) (K Kp : Value → World → Prop) (w : World) : T0.mheap_Heap_Of env c_arena_Map_At x.1 x.2.1 (fun r1 w' => K (.int .i64 r1) w') w =
 ev Go.Proofs.Tryz.prog (tabC [(62, fun args w K Kp => unArgs [.one (.ptr), .one (.int .u64)] args.toList fun x => c_arena_Map_At x.1 x.2.1 (fun r1 w' => K (.int .i64 r1) w') w)]) (ground Go.Proofs.Tryz.prog) ann31 body31 (finQ Go.Proofs.Tryz.prog Go.Proofs.Tryz.f31 K Kp) (initF (mkArgs [.one (.ptr), .one (.int .u64)] x)) w := by kernel_rfl
theorem tie31 (x : ArgsV [.one (.ptr), .one (.int .u64)]) (K Kp : Value → World → Prop) (w : World) : F.mheap_Heap_Of env x.1 x.2.1 (fun r1 w' => K (.int .i64 r1) w') w =
 ev Go.Proofs.Tryz.prog (tabC [(62, C62)]) (ground Go.Proofs.Tryz.prog) ann31 body31 (finQ Go.Proofs.Tryz.prog Go.Proofs.Tryz.f31 K Kp) (initF (mkArgs [.one (.ptr), .one (.int .u64)] x)) w := tieZ31 (F.arena_Map_At env) x K Kp w
theorem fits31 : FitsOne Go.Proofs.Tryz.prog 31 C31 :=
 fits_of_tie (T := [(62, C62)]) (A := ann31) (fn := Go.Proofs.Tryz.f31) (c := body31) (fits_cons fits62 fits_nil) mixed Go.Proofs.Tryz.func31 Go.Proofs.Tryz.call31 (by kernel_rfl) (by kernel_rfl) (by kernel_rfl) tie31

noncomputable def C36 : Entry := fun args w K Kp => unArgs [.one (.ptr)] args.toList fun x => F.pcache_Cache_Tell env x.1 (fun r1 r2 r3 w' => K (.tuple ⟨[.int .u64 r1, .int .u64 r2, .int .u64 r3]⟩) w') w
noncomputable def body36 : Code := (Go.Proofs.Tryz.f36.body).getD .skip
def ann36 : Ann := { loops := [], joins := [] }
def T0.pcache_Cache_Tell (E : Env) (c_pcache_Cache_Empty : ∀ (a0 : (Option Addr)) (K : Bool → World → Prop) (w : World), Prop) (a0 : (Option Addr)) (K : Int → Int → Int → World → Prop) (w : World) : Prop :=
 c_pcache_Cache_Empty a0 (fun r1 w2 =>
 CND (r1) (
 K 0 0 0 w2
 ) (
 NC a0 fun p3 =>
 ∃ x4 : Int, w2.drew.cell? p3 = some (.int .u64 x4) ∧
 NC a0 fun p5 =>
 ∃ x6 : Int, w2.drew.cell? (p5.add 1) = some (.int .u64 x6) ∧
 NC a0 fun p7 =>
 ∃ x8 : Int, w2.drew.cell? (p7.add 2) = some (.int .u64 x8) ∧
 K x4 x6 x8 w2.drew
 )
 ) w

theorem tieZ36 (c_pcache_Cache_Empty : ∀ (a0 : (Option Addr)) (K : Bool → World → Prop) (w : World), Prop) (x : ArgsV [.one (.ptr)]) (K Kp : Value → World → Prop) (w : World) : T0.pcache_Cache_Tell env c_pcache_Cache_Empty x.1 (fun r1 r2 r3 w' => K (.tuple ⟨[.int .u64 r1, .int .u64 r2, .int .u64 r3]⟩) w') w =
 ev Go.Proofs.Tryz.prog (tabC [(65, fun args w K Kp => unArgs [.one (.ptr)] args.toList fun x => c_pcache_Cache_Empty x.1 (fun r1 w' => K (.bool r1) w') w)]) (ground Go.Proofs.Tryz.prog) ann36 body36 (finQ Go.Proofs.Tryz.prog Go.Proofs.Tryz.f36 K Kp) (initF (mkArgs [.one (.ptr)] x)) w := by kernel_rfl
theorem tie36 (x : ArgsV [.one (.ptr)]) (K Kp : Value → World → Prop) (w : World) : F.pcache_Cache_Tell env x.1 (fun r1 r2 r3 w' => K (.tuple ⟨[.int .u64 r1, .int .u64 r2, .int .u64 r3]⟩) w') w =
 ev Go.Proofs.Tryz.prog (tabC [(65, C65)]) (ground Go.Proofs.Tryz.prog) ann36 body36 (finQ Go.Proofs.Tryz.prog Go.Proofs.Tryz.f36 K Kp) (initF (mkArgs [.one (.ptr)] x)) w := tieZ36 (F.pcache_Cache_Empty env) x K Kp w
theorem fits36 : FitsOne Go.Proofs.Tryz.prog 36 C36 :=
 fits_of_tie (T := [(65, C65)]) (A := ann36) (fn := Go.Proofs.Tryz.f36) (c := body36) (fits_cons fits65 fits_nil) mixed Go.Proofs.Tryz.func36 Go.Proofs.Tryz.call36 (by kernel_rfl) (by kernel_rfl) (by kernel_rfl) tie36

noncomputable def C30 : Entry := fun args w K Kp => unArgs [.one (.ptr), .one (.int .u64)] args.toList fun x => F.mheap_Heap_Owner env x.1 x.2.1 (fun r1 r2 w' => K (.tuple ⟨[.int .i64 r1, .int .i64 r2]⟩) w') w
noncomputable def body30 : Code := (Go.Proofs.Tryz.f30.body).getD .skip
def ann30 : Ann := { loops := [(7, [(35, .one (.int .i64))])], joins := [(2, [(23, .one (.bool))]), (11, [(62, .one (.bool))])] }
def T0.mheap_Heap_Owner (E : Env) (c_arena_Map_Has : ∀ (a0 : (Option Addr)) (a1 : Int) (K : Bool → World → Prop) (w : World), Prop) (c_mheap_Heap_Of : ∀ (a0 : (Option Addr)) (a1 : Int) (K : Int → World → Prop) (w : World), Prop) (c_pcache_Cache_Tell : ∀ (a0 : (Option Addr)) (K : Int → Int → Int → World → Prop) (w : World), Prop) (a0 : (Option Addr)) (a1 : Int) (K : Int → Int → World → Prop) (w : World) : Prop :=
 JOIN (Bool × Unit) (fun J1 =>
 CND (decide ((a1 : Int) ≥ 34359738368)) (
 J1 (true, ()) w
 ) (
 NC a0 fun p4 =>
 ∃ x5 : (Option Addr), w.cell? (p4.add 2) = some (.pointer x5) ∧
 c_arena_Map_Has x5 (u64 (a1 * 8192)) (fun r6 w7 =>
 J1 (!r6, ()) w7
 ) w
 )
 ) fun s2 _ w3 =>
 CND (s2.1) (
 K 0 0 w3
 ) (
 c_mheap_Heap_Of a0 (u64 (a1 * 8192)) (fun r8 w9 =>
 CND (decide ((r8 : Int) > 0)) (
 K 3 r8 w9
 ) (
 NC a0 fun p10 =>
 ∃ c11 : (Option Addr), w9.cell? ((p10.add 5).add 0) = some (.pointer c11) ∧
 ∃ c12 : (Option Addr), w9.cell? ((p10.add 5).add 1) = some (.pointer c12) ∧
 ∃ c13 : (Option Addr), w9.cell? ((p10.add 5).add 2) = some (.pointer c13) ∧
 ∃ c14 : (Option Addr), w9.cell? ((p10.add 5).add 3) = some (.pointer c14) ∧
 ∃ c15 : (Option Addr), w9.cell? ((p10.add 5).add 4) = some (.pointer c15) ∧
 ∃ c16 : (Option Addr), w9.cell? ((p10.add 5).add 5) = some (.pointer c16) ∧
 ∃ c17 : (Option Addr), w9.cell? ((p10.add 5).add 6) = some (.pointer c17) ∧
 ∃ c18 : (Option Addr), w9.cell? ((p10.add 5).add 7) = some (.pointer c18) ∧
 ∃ c19 : (Option Addr), w9.cell? ((p10.add 5).add 8) = some (.pointer c19) ∧
 ∃ c20 : (Option Addr), w9.cell? ((p10.add 5).add 9) = some (.pointer c20) ∧
 ∃ c21 : (Option Addr), w9.cell? ((p10.add 5).add 10) = some (.pointer c21) ∧
 ∃ c22 : (Option Addr), w9.cell? ((p10.add 5).add 11) = some (.pointer c22) ∧
 ∃ c23 : (Option Addr), w9.cell? ((p10.add 5).add 12) = some (.pointer c23) ∧
 ∃ c24 : (Option Addr), w9.cell? ((p10.add 5).add 13) = some (.pointer c24) ∧
 ∃ c25 : (Option Addr), w9.cell? ((p10.add 5).add 14) = some (.pointer c25) ∧
 ∃ c26 : (Option Addr), w9.cell? ((p10.add 5).add 15) = some (.pointer c26) ∧
 ∃ c27 : (Option Addr), w9.cell? ((p10.add 5).add 16) = some (.pointer c27) ∧
 ∃ c28 : (Option Addr), w9.cell? ((p10.add 5).add 17) = some (.pointer c28) ∧
 ∃ c29 : (Option Addr), w9.cell? ((p10.add 5).add 18) = some (.pointer c29) ∧
 ∃ c30 : (Option Addr), w9.cell? ((p10.add 5).add 19) = some (.pointer c30) ∧
 ∃ c31 : (Option Addr), w9.cell? ((p10.add 5).add 20) = some (.pointer c31) ∧
 ∃ c32 : (Option Addr), w9.cell? ((p10.add 5).add 21) = some (.pointer c32) ∧
 ∃ c33 : (Option Addr), w9.cell? ((p10.add 5).add 22) = some (.pointer c33) ∧
 ∃ c34 : (Option Addr), w9.cell? ((p10.add 5).add 23) = some (.pointer c34) ∧
 ∃ c35 : (Option Addr), w9.cell? ((p10.add 5).add 24) = some (.pointer c35) ∧
 ∃ c36 : (Option Addr), w9.cell? ((p10.add 5).add 25) = some (.pointer c36) ∧
 ∃ c37 : (Option Addr), w9.cell? ((p10.add 5).add 26) = some (.pointer c37) ∧
 ∃ c38 : (Option Addr), w9.cell? ((p10.add 5).add 27) = some (.pointer c38) ∧
 ∃ c39 : (Option Addr), w9.cell? ((p10.add 5).add 28) = some (.pointer c39) ∧
 ∃ c40 : (Option Addr), w9.cell? ((p10.add 5).add 29) = some (.pointer c40) ∧
 ∃ c41 : (Option Addr), w9.cell? ((p10.add 5).add 30) = some (.pointer c41) ∧
 ∃ c42 : (Option Addr), w9.cell? ((p10.add 5).add 31) = some (.pointer c42) ∧
 ∃ c43 : (Option Addr), w9.cell? ((p10.add 5).add 32) = some (.pointer c43) ∧
 ∃ c44 : (Option Addr), w9.cell? ((p10.add 5).add 33) = some (.pointer c44) ∧
 ∃ c45 : (Option Addr), w9.cell? ((p10.add 5).add 34) = some (.pointer c45) ∧
 ∃ c46 : (Option Addr), w9.cell? ((p10.add 5).add 35) = some (.pointer c46) ∧
 ∃ c47 : (Option Addr), w9.cell? ((p10.add 5).add 36) = some (.pointer c47) ∧
 ∃ c48 : (Option Addr), w9.cell? ((p10.add 5).add 37) = some (.pointer c48) ∧
 ∃ c49 : (Option Addr), w9.cell? ((p10.add 5).add 38) = some (.pointer c49) ∧
 ∃ c50 : (Option Addr), w9.cell? ((p10.add 5).add 39) = some (.pointer c50) ∧
 ∃ c51 : (Option Addr), w9.cell? ((p10.add 5).add 40) = some (.pointer c51) ∧
 ∃ c52 : (Option Addr), w9.cell? ((p10.add 5).add 41) = some (.pointer c52) ∧
 ∃ c53 : (Option Addr), w9.cell? ((p10.add 5).add 42) = some (.pointer c53) ∧
 ∃ c54 : (Option Addr), w9.cell? ((p10.add 5).add 43) = some (.pointer c54) ∧
 ∃ c55 : (Option Addr), w9.cell? ((p10.add 5).add 44) = some (.pointer c55) ∧
 ∃ c56 : (Option Addr), w9.cell? ((p10.add 5).add 45) = some (.pointer c56) ∧
 ∃ c57 : (Option Addr), w9.cell? ((p10.add 5).add 46) = some (.pointer c57) ∧
 ∃ c58 : (Option Addr), w9.cell? ((p10.add 5).add 47) = some (.pointer c58) ∧
 ∃ c59 : (Option Addr), w9.cell? ((p10.add 5).add 48) = some (.pointer c59) ∧
 ∃ c60 : (Option Addr), w9.cell? ((p10.add 5).add 49) = some (.pointer c60) ∧
 ∃ c61 : (Option Addr), w9.cell? ((p10.add 5).add 50) = some (.pointer c61) ∧
 ∃ c62 : (Option Addr), w9.cell? ((p10.add 5).add 51) = some (.pointer c62) ∧
 ∃ c63 : (Option Addr), w9.cell? ((p10.add 5).add 52) = some (.pointer c63) ∧
 ∃ c64 : (Option Addr), w9.cell? ((p10.add 5).add 53) = some (.pointer c64) ∧
 ∃ c65 : (Option Addr), w9.cell? ((p10.add 5).add 54) = some (.pointer c65) ∧
 ∃ c66 : (Option Addr), w9.cell? ((p10.add 5).add 55) = some (.pointer c66) ∧
 ∃ c67 : (Option Addr), w9.cell? ((p10.add 5).add 56) = some (.pointer c67) ∧
 ∃ c68 : (Option Addr), w9.cell? ((p10.add 5).add 57) = some (.pointer c68) ∧
 ∃ c69 : (Option Addr), w9.cell? ((p10.add 5).add 58) = some (.pointer c69) ∧
 ∃ c70 : (Option Addr), w9.cell? ((p10.add 5).add 59) = some (.pointer c70) ∧
 ∃ c71 : (Option Addr), w9.cell? ((p10.add 5).add 60) = some (.pointer c71) ∧
 ∃ c72 : (Option Addr), w9.cell? ((p10.add 5).add 61) = some (.pointer c72) ∧
 ∃ c73 : (Option Addr), w9.cell? ((p10.add 5).add 62) = some (.pointer c73) ∧
 ∃ c74 : (Option Addr), w9.cell? ((p10.add 5).add 63) = some (.pointer c74) ∧
 LOOP (Int × Unit) (0, ()) w9 fun s75 _ w76 next77 =>
 CND (decide ((s75.1 : Int) < 64)) (
 ((0 : Int) ≤ s75.1 ∧ (s75.1 : Int) < (64 : Nat)) ∧
 c_pcache_Cache_Tell (List.getD [c11, c12, c13, c14, c15, c16, c17, c18, c19, c20, c21, c22, c23, c24, c25, c26, c27, c28, c29, c30, c31, c32, c33, c34, c35, c36, c37, c38, c39, c40, c41, c42, c43, c44, c45, c46, c47, c48, c49, c50, c51, c52, c53, c54, c55, c56, c57, c58, c59, c60, c61, c62, c63, c64, c65, c66, c67, c68, c69, c70, c71, c72, c73, c74] (Int.toNat s75.1) none) (fun r78 r79 r80 w81 =>
 JOIN (Bool × Unit) (fun J82 =>
 CND (decide ((a1 : Int) ≥ r78)) (
 CND (decide (((u64 (a1 - r78)) : Int) < 64)) (
 (0 : Int) ≤ (u64 (a1 - r78)) ∧
 J82 (((bitK .u64 0 (Int.fdiv r79 (2 ^ (min (Int.toNat (u64 (a1 - r78))) (IntKind.bits .u64)))) 1) : Int) == 1, ()) w81
 ) (
 J82 (false, ()) w81
 )
 ) (
 J82 (false, ()) w81
 )
 ) fun s83 _ w84 =>
 CND (s83.1) (
 K 2 s75.1 w84
 ) (
 next77 (i64 (s75.1 + 1), ()) w84
 )
 ) w76
 ) (
 K 1 0 w76
 )
 )
 ) w3
 )

theorem tieZ30 (c_arena_Map_Has : ∀ (a0 : (Option Addr)) (a1 : Int) (K : Bool → World → Prop) (w : World), Prop) (c_mheap_Heap_Of : ∀ (a0 : (Option Addr)) (a1 : Int) (K : Int → World → Prop) (w : World), Prop) (c_pcache_Cache_Tell : ∀ (a0 : (Option Addr)) (K : Int → Int → Int → World → Prop) (w : World), Prop) (x : ArgsV [.one (.ptr), .one (.int .u64)]) (K Kp : Value → World → Prop) (w : World) : T0.mheap_Heap_Owner env c_arena_Map_Has c_mheap_Heap_Of c_pcache_Cache_Tell x.1 x.2.1 (fun r1 r2 w' => K (.tuple ⟨[.int .i64 r1, .int .i64 r2]⟩) w') w =
 ev Go.Proofs.Tryz.prog (tabC [(61, fun args w K Kp => unArgs [.one (.ptr), .one (.int .u64)] args.toList fun x => c_arena_Map_Has x.1 x.2.1 (fun r1 w' => K (.bool r1) w') w), (31, fun args w K Kp => unArgs [.one (.ptr), .one (.int .u64)] args.toList fun x => c_mheap_Heap_Of x.1 x.2.1 (fun r1 w' => K (.int .i64 r1) w') w), (36, fun args w K Kp => unArgs [.one (.ptr)] args.toList fun x => c_pcache_Cache_Tell x.1 (fun r1 r2 r3 w' => K (.tuple ⟨[.int .u64 r1, .int .u64 r2, .int .u64 r3]⟩) w') w)]) (ground Go.Proofs.Tryz.prog) ann30 body30 (finQ Go.Proofs.Tryz.prog Go.Proofs.Tryz.f30 K Kp) (initF (mkArgs [.one (.ptr), .one (.int .u64)] x)) w := by kernel_rfl
theorem tie30 (x : ArgsV [.one (.ptr), .one (.int .u64)]) (K Kp : Value → World → Prop) (w : World) : F.mheap_Heap_Owner env x.1 x.2.1 (fun r1 r2 w' => K (.tuple ⟨[.int .i64 r1, .int .i64 r2]⟩) w') w =
 ev Go.Proofs.Tryz.prog (tabC [(61, C61), (31, C31), (36, C36)]) (ground Go.Proofs.Tryz.prog) ann30 body30 (finQ Go.Proofs.Tryz.prog Go.Proofs.Tryz.f30 K Kp) (initF (mkArgs [.one (.ptr), .one (.int .u64)] x)) w := tieZ30 (F.arena_Map_Has env) (F.mheap_Heap_Of env) (F.pcache_Cache_Tell env) x K Kp w
theorem fits30 : FitsOne Go.Proofs.Tryz.prog 30 C30 :=
 fits_of_tie (T := [(61, C61), (31, C31), (36, C36)]) (A := ann30) (fn := Go.Proofs.Tryz.f30) (c := body30) (fits_cons fits61 (fits_cons fits31 (fits_cons fits36 fits_nil))) mixed Go.Proofs.Tryz.func30 Go.Proofs.Tryz.call30 (by kernel_rfl) (by kernel_rfl) (by kernel_rfl) tie30

noncomputable def C64 : Entry := fun args w K Kp => unArgs [.one (.ptr)] args.toList fun x => F.stretch_Set_Sum env x.1 (fun r1 w' => K (.int .u64 r1) w') w
noncomputable def body64 : Code := (Go.Proofs.Tryz.f64.body).getD .skip
def ann64 : Ann := { loops := [], joins := [] }
theorem tie64 (x : ArgsV [.one (.ptr)]) (K Kp : Value → World → Prop) (w : World) : F.stretch_Set_Sum env x.1 (fun r1 w' => K (.int .u64 r1) w') w =
 ev Go.Proofs.Tryz.prog (tabC []) (ground Go.Proofs.Tryz.prog) ann64 body64 (finQ Go.Proofs.Tryz.prog Go.Proofs.Tryz.f64 K Kp) (initF (mkArgs [.one (.ptr)] x)) w := by kernel_rfl
theorem fits64 : FitsOne Go.Proofs.Tryz.prog 64 C64 :=
 fits_of_tie (T := []) (A := ann64) (fn := Go.Proofs.Tryz.f64) (c := body64) fits_nil mixed Go.Proofs.Tryz.func64 Go.Proofs.Tryz.call64 (by kernel_rfl) (by kernel_rfl) (by kernel_rfl) tie64

noncomputable def C35 : Entry := fun args w K Kp => unArgs [.one (.ptr)] args.toList fun x => F.radix_Tree_Released env x.1 (fun r1 w' => K (.int .u64 r1) w') w
noncomputable def body35 : Code := (Go.Proofs.Tryz.f35.body).getD .skip
def ann35 : Ann := { loops := [], joins := [] }
def T0.radix_Tree_Released (E : Env) (c_stretch_Set_Sum : ∀ (a0 : (Option Addr)) (K : Int → World → Prop) (w : World), Prop) (a0 : (Option Addr)) (K : Int → World → Prop) (w : World) : Prop :=
 NC a0 fun p1 =>
 c_stretch_Set_Sum (some (p1.add 4)) (fun r2 w3 =>
 K r2 w3
 ) w

theorem tieZ35 (c_stretch_Set_Sum : ∀ (a0 : (Option Addr)) (K : Int → World → Prop) (w : World), Prop) (x : ArgsV [.one (.ptr)]) (K Kp : Value → World → Prop) (w : World) : T0.radix_Tree_Released env c_stretch_Set_Sum x.1 (fun r1 w' => K (.int .u64 r1) w') w =
 ev Go.Proofs.Tryz.prog (tabC [(64, fun args w K Kp => unArgs [.one (.ptr)] args.toList fun x => c_stretch_Set_Sum x.1 (fun r1 w' => K (.int .u64 r1) w') w)]) (ground Go.Proofs.Tryz.prog) ann35 body35 (finQ Go.Proofs.Tryz.prog Go.Proofs.Tryz.f35 K Kp) (initF (mkArgs [.one (.ptr)] x)) w := by kernel_rfl
theorem tie35 (x : ArgsV [.one (.ptr)]) (K Kp : Value → World → Prop) (w : World) : F.radix_Tree_Released env x.1 (fun r1 w' => K (.int .u64 r1) w') w =
 ev Go.Proofs.Tryz.prog (tabC [(64, C64)]) (ground Go.Proofs.Tryz.prog) ann35 body35 (finQ Go.Proofs.Tryz.prog Go.Proofs.Tryz.f35 K Kp) (initF (mkArgs [.one (.ptr)] x)) w := tieZ35 (F.stretch_Set_Sum env) x K Kp w
theorem fits35 : FitsOne Go.Proofs.Tryz.prog 35 C35 :=
 fits_of_tie (T := [(64, C64)]) (A := ann35) (fn := Go.Proofs.Tryz.f35) (c := body35) (fits_cons fits64 fits_nil) mixed Go.Proofs.Tryz.func35 Go.Proofs.Tryz.call35 (by kernel_rfl) (by kernel_rfl) (by kernel_rfl) tie35

noncomputable def C37 : Entry := fun args w K Kp => unArgs [.one (.ptr)] args.toList fun x => F.arena_Map_Count env x.1 (fun r1 w' => K (.int .u64 r1) w') w
noncomputable def body37 : Code := (Go.Proofs.Tryz.f37.body).getD .skip
def ann37 : Ann := { loops := [], joins := [] }
def T0.arena_Map_Count (E : Env) (c_stretch_Set_Sum : ∀ (a0 : (Option Addr)) (K : Int → World → Prop) (w : World), Prop) (a0 : (Option Addr)) (K : Int → World → Prop) (w : World) : Prop :=
 NC a0 fun p1 =>
 c_stretch_Set_Sum (some p1) (fun r2 w3 =>
 K r2 w3
 ) w

theorem tieZ37 (c_stretch_Set_Sum : ∀ (a0 : (Option Addr)) (K : Int → World → Prop) (w : World), Prop) (x : ArgsV [.one (.ptr)]) (K Kp : Value → World → Prop) (w : World) : T0.arena_Map_Count env c_stretch_Set_Sum x.1 (fun r1 w' => K (.int .u64 r1) w') w =
 ev Go.Proofs.Tryz.prog (tabC [(64, fun args w K Kp => unArgs [.one (.ptr)] args.toList fun x => c_stretch_Set_Sum x.1 (fun r1 w' => K (.int .u64 r1) w') w)]) (ground Go.Proofs.Tryz.prog) ann37 body37 (finQ Go.Proofs.Tryz.prog Go.Proofs.Tryz.f37 K Kp) (initF (mkArgs [.one (.ptr)] x)) w := by kernel_rfl
theorem tie37 (x : ArgsV [.one (.ptr)]) (K Kp : Value → World → Prop) (w : World) : F.arena_Map_Count env x.1 (fun r1 w' => K (.int .u64 r1) w') w =
 ev Go.Proofs.Tryz.prog (tabC [(64, C64)]) (ground Go.Proofs.Tryz.prog) ann37 body37 (finQ Go.Proofs.Tryz.prog Go.Proofs.Tryz.f37 K Kp) (initF (mkArgs [.one (.ptr)] x)) w := tieZ37 (F.stretch_Set_Sum env) x K Kp w
theorem fits37 : FitsOne Go.Proofs.Tryz.prog 37 C37 :=
 fits_of_tie (T := [(64, C64)]) (A := ann37) (fn := Go.Proofs.Tryz.f37) (c := body37) (fits_cons fits64 fits_nil) mixed Go.Proofs.Tryz.func37 Go.Proofs.Tryz.call37 (by kernel_rfl) (by kernel_rfl) (by kernel_rfl) tie37

noncomputable def C15 : Entry := fun args w K Kp => unArgs [.one (.ptr)] args.toList fun x => F.mheap_Heap_Pages env x.1 (fun r1 r2 r3 w' => K (.tuple ⟨[.int .u64 r1, .int .u64 r2, .int .u64 r3]⟩) w') w
noncomputable def body15 : Code := (Go.Proofs.Tryz.f15.body).getD .skip
def ann15 : Ann := { loops := [(3, [(5, .one (.int .u64)), (20, .one (.int .i64))]), (6, [(5, .one (.int .u64)), (10, .one (.int .u64))])], joins := [] }
def T0.mheap_Heap_Pages (E : Env) (c_radix_Tree_Released : ∀ (a0 : (Option Addr)) (K : Int → World → Prop) (w : World), Prop) (c_pcache_Cache_Tell : ∀ (a0 : (Option Addr)) (K : Int → Int → Int → World → Prop) (w : World), Prop) (c_arena_Map_Count : ∀ (a0 : (Option Addr)) (K : Int → World → Prop) (w : World), Prop) (a0 : (Option Addr)) (K : Int → Int → Int → World → Prop) (w : World) : Prop :=
 NC a0 fun p1 =>
 ∃ x2 : (Option Addr), w.cell? (p1.add 1) = some (.pointer x2) ∧
 c_radix_Tree_Released x2 (fun r3 w4 =>
 NC a0 fun p5 =>
 ∃ c6 : (Option Addr), w4.cell? ((p5.add 5).add 0) = some (.pointer c6) ∧
 ∃ c7 : (Option Addr), w4.cell? ((p5.add 5).add 1) = some (.pointer c7) ∧
 ∃ c8 : (Option Addr), w4.cell? ((p5.add 5).add 2) = some (.pointer c8) ∧
 ∃ c9 : (Option Addr), w4.cell? ((p5.add 5).add 3) = some (.pointer c9) ∧
 ∃ c10 : (Option Addr), w4.cell? ((p5.add 5).add 4) = some (.pointer c10) ∧
 ∃ c11 : (Option Addr), w4.cell? ((p5.add 5).add 5) = some (.pointer c11) ∧
 ∃ c12 : (Option Addr), w4.cell? ((p5.add 5).add 6) = some (.pointer c12) ∧
 ∃ c13 : (Option Addr), w4.cell? ((p5.add 5).add 7) = some (.pointer c13) ∧
 ∃ c14 : (Option Addr), w4.cell? ((p5.add 5).add 8) = some (.pointer c14) ∧
 ∃ c15 : (Option Addr), w4.cell? ((p5.add 5).add 9) = some (.pointer c15) ∧
 ∃ c16 : (Option Addr), w4.cell? ((p5.add 5).add 10) = some (.pointer c16) ∧
 ∃ c17 : (Option Addr), w4.cell? ((p5.add 5).add 11) = some (.pointer c17) ∧
 ∃ c18 : (Option Addr), w4.cell? ((p5.add 5).add 12) = some (.pointer c18) ∧
 ∃ c19 : (Option Addr), w4.cell? ((p5.add 5).add 13) = some (.pointer c19) ∧
 ∃ c20 : (Option Addr), w4.cell? ((p5.add 5).add 14) = some (.pointer c20) ∧
 ∃ c21 : (Option Addr), w4.cell? ((p5.add 5).add 15) = some (.pointer c21) ∧
 ∃ c22 : (Option Addr), w4.cell? ((p5.add 5).add 16) = some (.pointer c22) ∧
 ∃ c23 : (Option Addr), w4.cell? ((p5.add 5).add 17) = some (.pointer c23) ∧
 ∃ c24 : (Option Addr), w4.cell? ((p5.add 5).add 18) = some (.pointer c24) ∧
 ∃ c25 : (Option Addr), w4.cell? ((p5.add 5).add 19) = some (.pointer c25) ∧
 ∃ c26 : (Option Addr), w4.cell? ((p5.add 5).add 20) = some (.pointer c26) ∧
 ∃ c27 : (Option Addr), w4.cell? ((p5.add 5).add 21) = some (.pointer c27) ∧
 ∃ c28 : (Option Addr), w4.cell? ((p5.add 5).add 22) = some (.pointer c28) ∧
 ∃ c29 : (Option Addr), w4.cell? ((p5.add 5).add 23) = some (.pointer c29) ∧
 ∃ c30 : (Option Addr), w4.cell? ((p5.add 5).add 24) = some (.pointer c30) ∧
 ∃ c31 : (Option Addr), w4.cell? ((p5.add 5).add 25) = some (.pointer c31) ∧
 ∃ c32 : (Option Addr), w4.cell? ((p5.add 5).add 26) = some (.pointer c32) ∧
 ∃ c33 : (Option Addr), w4.cell? ((p5.add 5).add 27) = some (.pointer c33) ∧
 ∃ c34 : (Option Addr), w4.cell? ((p5.add 5).add 28) = some (.pointer c34) ∧
 ∃ c35 : (Option Addr), w4.cell? ((p5.add 5).add 29) = some (.pointer c35) ∧
 ∃ c36 : (Option Addr), w4.cell? ((p5.add 5).add 30) = some (.pointer c36) ∧
 ∃ c37 : (Option Addr), w4.cell? ((p5.add 5).add 31) = some (.pointer c37) ∧
 ∃ c38 : (Option Addr), w4.cell? ((p5.add 5).add 32) = some (.pointer c38) ∧
 ∃ c39 : (Option Addr), w4.cell? ((p5.add 5).add 33) = some (.pointer c39) ∧
 ∃ c40 : (Option Addr), w4.cell? ((p5.add 5).add 34) = some (.pointer c40) ∧
 ∃ c41 : (Option Addr), w4.cell? ((p5.add 5).add 35) = some (.pointer c41) ∧
 ∃ c42 : (Option Addr), w4.cell? ((p5.add 5).add 36) = some (.pointer c42) ∧
 ∃ c43 : (Option Addr), w4.cell? ((p5.add 5).add 37) = some (.pointer c43) ∧
 ∃ c44 : (Option Addr), w4.cell? ((p5.add 5).add 38) = some (.pointer c44) ∧
 ∃ c45 : (Option Addr), w4.cell? ((p5.add 5).add 39) = some (.pointer c45) ∧
 ∃ c46 : (Option Addr), w4.cell? ((p5.add 5).add 40) = some (.pointer c46) ∧
 ∃ c47 : (Option Addr), w4.cell? ((p5.add 5).add 41) = some (.pointer c47) ∧
 ∃ c48 : (Option Addr), w4.cell? ((p5.add 5).add 42) = some (.pointer c48) ∧
 ∃ c49 : (Option Addr), w4.cell? ((p5.add 5).add 43) = some (.pointer c49) ∧
 ∃ c50 : (Option Addr), w4.cell? ((p5.add 5).add 44) = some (.pointer c50) ∧
 ∃ c51 : (Option Addr), w4.cell? ((p5.add 5).add 45) = some (.pointer c51) ∧
 ∃ c52 : (Option Addr), w4.cell? ((p5.add 5).add 46) = some (.pointer c52) ∧
 ∃ c53 : (Option Addr), w4.cell? ((p5.add 5).add 47) = some (.pointer c53) ∧
 ∃ c54 : (Option Addr), w4.cell? ((p5.add 5).add 48) = some (.pointer c54) ∧
 ∃ c55 : (Option Addr), w4.cell? ((p5.add 5).add 49) = some (.pointer c55) ∧
 ∃ c56 : (Option Addr), w4.cell? ((p5.add 5).add 50) = some (.pointer c56) ∧
 ∃ c57 : (Option Addr), w4.cell? ((p5.add 5).add 51) = some (.pointer c57) ∧
 ∃ c58 : (Option Addr), w4.cell? ((p5.add 5).add 52) = some (.pointer c58) ∧
 ∃ c59 : (Option Addr), w4.cell? ((p5.add 5).add 53) = some (.pointer c59) ∧
 ∃ c60 : (Option Addr), w4.cell? ((p5.add 5).add 54) = some (.pointer c60) ∧
 ∃ c61 : (Option Addr), w4.cell? ((p5.add 5).add 55) = some (.pointer c61) ∧
 ∃ c62 : (Option Addr), w4.cell? ((p5.add 5).add 56) = some (.pointer c62) ∧
 ∃ c63 : (Option Addr), w4.cell? ((p5.add 5).add 57) = some (.pointer c63) ∧
 ∃ c64 : (Option Addr), w4.cell? ((p5.add 5).add 58) = some (.pointer c64) ∧
 ∃ c65 : (Option Addr), w4.cell? ((p5.add 5).add 59) = some (.pointer c65) ∧
 ∃ c66 : (Option Addr), w4.cell? ((p5.add 5).add 60) = some (.pointer c66) ∧
 ∃ c67 : (Option Addr), w4.cell? ((p5.add 5).add 61) = some (.pointer c67) ∧
 ∃ c68 : (Option Addr), w4.cell? ((p5.add 5).add 62) = some (.pointer c68) ∧
 ∃ c69 : (Option Addr), w4.cell? ((p5.add 5).add 63) = some (.pointer c69) ∧
 LOOP (Int × Int × Unit) (r3, 0, ()) w4 fun s70 _ w71 next72 =>
 CND (decide ((s70.2.1 : Int) < 64)) (
 ((0 : Int) ≤ s70.2.1 ∧ (s70.2.1 : Int) < (64 : Nat)) ∧
 c_pcache_Cache_Tell (List.getD [c6, c7, c8, c9, c10, c11, c12, c13, c14, c15, c16, c17, c18, c19, c20, c21, c22, c23, c24, c25, c26, c27, c28, c29, c30, c31, c32, c33, c34, c35, c36, c37, c38, c39, c40, c41, c42, c43, c44, c45, c46, c47, c48, c49, c50, c51, c52, c53, c54, c55, c56, c57, c58, c59, c60, c61, c62, c63, c64, c65, c66, c67, c68, c69] (Int.toNat s70.2.1) none) (fun r73 r74 r75 w76 =>
 LOOP (Int × Int × Unit) (s70.1, r75, ()) w76 fun s77 _ w78 next79 =>
 CND ((s77.2.1 : Int) != 0) (
 LET (bitK .u64 0 s77.2.1 (u64 (s77.2.1 - 1)) : Int) fun r_80 =>
 next79 (u64 (s77.1 + 1), r_80, ()) w78
 ) (
 next72 (s77.1, i64 (s70.2.1 + 1), ()) w78
 )
 ) w71
 ) (
 NC a0 fun p81 =>
 ∃ x82 : (Option Addr), w71.drew.cell? (p81.add 2) = some (.pointer x82) ∧
 NC a0 fun p83 =>
 ∃ x84 : Int, w71.drew.cell? (p83.add 70) = some (.int .u64 x84) ∧
 c_arena_Map_Count x82 (fun r85 w86 =>
 w86.cell? (p83.add 70) = some (.int .u64 x84) ∧
 K (u64 (r85 * 512)) x84 s70.1 w86
 ) w71.drew
 )
 ) w

theorem tieZ15 (c_radix_Tree_Released : ∀ (a0 : (Option Addr)) (K : Int → World → Prop) (w : World), Prop) (c_pcache_Cache_Tell : ∀ (a0 : (Option Addr)) (K : Int → Int → Int → World → Prop) (w : World), Prop) (c_arena_Map_Count : ∀ (a0 : (Option Addr)) (K : Int → World → Prop) (w : World), Prop) (x : ArgsV [.one (.ptr)]) (K Kp : Value → World → Prop) (w : World) : T0.mheap_Heap_Pages env c_radix_Tree_Released c_pcache_Cache_Tell c_arena_Map_Count x.1 (fun r1 r2 r3 w' => K (.tuple ⟨[.int .u64 r1, .int .u64 r2, .int .u64 r3]⟩) w') w =
 ev Go.Proofs.Tryz.prog (tabC [(35, fun args w K Kp => unArgs [.one (.ptr)] args.toList fun x => c_radix_Tree_Released x.1 (fun r1 w' => K (.int .u64 r1) w') w), (36, fun args w K Kp => unArgs [.one (.ptr)] args.toList fun x => c_pcache_Cache_Tell x.1 (fun r1 r2 r3 w' => K (.tuple ⟨[.int .u64 r1, .int .u64 r2, .int .u64 r3]⟩) w') w), (37, fun args w K Kp => unArgs [.one (.ptr)] args.toList fun x => c_arena_Map_Count x.1 (fun r1 w' => K (.int .u64 r1) w') w)]) (ground Go.Proofs.Tryz.prog) ann15 body15 (finQ Go.Proofs.Tryz.prog Go.Proofs.Tryz.f15 K Kp) (initF (mkArgs [.one (.ptr)] x)) w := by kernel_rfl
theorem tie15 (x : ArgsV [.one (.ptr)]) (K Kp : Value → World → Prop) (w : World) : F.mheap_Heap_Pages env x.1 (fun r1 r2 r3 w' => K (.tuple ⟨[.int .u64 r1, .int .u64 r2, .int .u64 r3]⟩) w') w =
 ev Go.Proofs.Tryz.prog (tabC [(35, C35), (36, C36), (37, C37)]) (ground Go.Proofs.Tryz.prog) ann15 body15 (finQ Go.Proofs.Tryz.prog Go.Proofs.Tryz.f15 K Kp) (initF (mkArgs [.one (.ptr)] x)) w := tieZ15 (F.radix_Tree_Released env) (F.pcache_Cache_Tell env) (F.arena_Map_Count env) x K Kp w
theorem fits15 : FitsOne Go.Proofs.Tryz.prog 15 C15 :=
 fits_of_tie (T := [(35, C35), (36, C36), (37, C37)]) (A := ann15) (fn := Go.Proofs.Tryz.f15) (c := body15) (fits_cons fits35 (fits_cons fits36 (fits_cons fits37 fits_nil))) mixed Go.Proofs.Tryz.func15 Go.Proofs.Tryz.call15 (by kernel_rfl) (by kernel_rfl) (by kernel_rfl) tie15

noncomputable def C9 : Entry := fun args w K Kp => unArgs [] args.toList fun x => F.mallowlaw16_awake env  (fun r1 w' => K (.bool r1) w') w
noncomputable def body9 : Code := (Go.Proofs.Tryz.f9.body).getD .skip
def ann9 : Ann := { loops := [], joins := [] }
def T0.mallowlaw16_awake (E : Env) (c_vmem_New : ∀ (a0_0 : SlV) (a0_1 : SlV) (a0_2 : SlV) (K : (Option Addr) → World → Prop) (w : World), Prop) (c_mheap_New : ∀ (a0 : (Option Addr)) (K : (Option Addr) → World → Prop) (w : World), Prop) (c_mheap_Heap_Alloc : ∀ (a0 : (Option Addr)) (a1 : Int) (a2 : Int) (a3 : Int) (a4 : Bool) (K : Int → Int → World → Prop) (w : World), Prop) (c_mheap_Heap_Owner : ∀ (a0 : (Option Addr)) (a1 : Int) (K : Int → Int → World → Prop) (w : World), Prop) (c_mheap_Heap_Pages : ∀ (a0 : (Option Addr)) (K : Int → Int → Int → World → Prop) (w : World), Prop) (c_mheap_Heap_Of : ∀ (a0 : (Option Addr)) (a1 : Int) (K : Int → World → Prop) (w : World), Prop) (K : Bool → World → Prop) (w : World) : Prop :=
 c_vmem_New ⟨none, 0, 0⟩ ⟨none, 0, 0⟩ ⟨none, 0, 0⟩ (fun r1 w2 =>
 CND (r1.isNone) (
 K false w2
 ) (
 c_mheap_New r1 (fun r3 w4 =>
 CND (r3.isNone) (
 K false w4
 ) (
 c_mheap_Heap_Alloc r3 0 1 5 false (fun r5 r6 w7 =>
 c_mheap_Heap_Alloc r3 0 1 5 false (fun r8 r9 w10 =>
 c_mheap_Heap_Alloc r3 0 16 0 false (fun r11 r12 w13 =>
 c_mheap_Heap_Owner r3 514 (fun r14 r15 w16 =>
 c_mheap_Heap_Pages r3 (fun r17 r18 r19 w20 =>
 CND ((r5 : Int) == 1) (
 CND ((r8 : Int) == 2) (
 CND ((r11 : Int) == 3) (
 CND ((r6 : Int) == 0) (
 CND ((r9 : Int) == 0) (
 CND ((r12 : Int) == 0) (
 c_mheap_Heap_Of r3 4194304 (fun r21 w22 =>
 CND ((r21 : Int) == 1) (
 c_mheap_Heap_Of r3 4718592 (fun r23 w24 =>
 CND ((r23 : Int) == 3) (
 CND ((r14 : Int) == 2) (
 CND ((r15 : Int) == 0) (
 CND ((r17 : Int) == 512) (
 K ((r18 : Int) == 18) w24
 ) (
 K false w24
 )
 ) (
 K false w24
 )
 ) (
 K false w24
 )
 ) (
 K false w24
 )
 ) w22
 ) (
 K false w22
 )
 ) w20
 ) (
 K false w20
 )
 ) (
 K false w20
 )
 ) (
 K false w20
 )
 ) (
 K false w20
 )
 ) (
 K false w20
 )
 ) (
 K false w20
 )
 ) w16
 ) w13
 ) w10
 ) w7
 ) w4
 )
 ) w2
 )
 ) w

theorem tieZ9 (c_vmem_New : ∀ (a0_0 : SlV) (a0_1 : SlV) (a0_2 : SlV) (K : (Option Addr) → World → Prop) (w : World), Prop) (c_mheap_New : ∀ (a0 : (Option Addr)) (K : (Option Addr) → World → Prop) (w : World), Prop) (c_mheap_Heap_Alloc : ∀ (a0 : (Option Addr)) (a1 : Int) (a2 : Int) (a3 : Int) (a4 : Bool) (K : Int → Int → World → Prop) (w : World), Prop) (c_mheap_Heap_Owner : ∀ (a0 : (Option Addr)) (a1 : Int) (K : Int → Int → World → Prop) (w : World), Prop) (c_mheap_Heap_Pages : ∀ (a0 : (Option Addr)) (K : Int → Int → Int → World → Prop) (w : World), Prop) (c_mheap_Heap_Of : ∀ (a0 : (Option Addr)) (a1 : Int) (K : Int → World → Prop) (w : World), Prop) (x : ArgsV []) (K Kp : Value → World → Prop) (w : World) : T0.mallowlaw16_awake env c_vmem_New c_mheap_New c_mheap_Heap_Alloc c_mheap_Heap_Owner c_mheap_Heap_Pages c_mheap_Heap_Of  (fun r1 w' => K (.bool r1) w') w =
 ev Go.Proofs.Tryz.prog (tabC [(17, fun args w K Kp => unArgs [.agg [.sl, .sl, .sl]] args.toList fun x => c_vmem_New x.1.1 x.1.2.1 x.1.2.2.1 (fun r1 w' => K (.pointer r1) w') w), (19, fun args w K Kp => unArgs [.one (.ptr)] args.toList fun x => c_mheap_New x.1 (fun r1 w' => K (.pointer r1) w') w), (7, fun args w K Kp => unArgs [.one (.ptr), .one (.int .i64), .one (.int .u64), .one (.int .i64), .one (.bool)] args.toList fun x => c_mheap_Heap_Alloc x.1 x.2.1 x.2.2.1 x.2.2.2.1 x.2.2.2.2.1 (fun r1 r2 w' => K (.tuple ⟨[.int .i64 r1, .int .i64 r2]⟩) w') w), (30, fun args w K Kp => unArgs [.one (.ptr), .one (.int .u64)] args.toList fun x => c_mheap_Heap_Owner x.1 x.2.1 (fun r1 r2 w' => K (.tuple ⟨[.int .i64 r1, .int .i64 r2]⟩) w') w), (15, fun args w K Kp => unArgs [.one (.ptr)] args.toList fun x => c_mheap_Heap_Pages x.1 (fun r1 r2 r3 w' => K (.tuple ⟨[.int .u64 r1, .int .u64 r2, .int .u64 r3]⟩) w') w), (31, fun args w K Kp => unArgs [.one (.ptr), .one (.int .u64)] args.toList fun x => c_mheap_Heap_Of x.1 x.2.1 (fun r1 w' => K (.int .i64 r1) w') w)]) (ground Go.Proofs.Tryz.prog) ann9 body9 (finQ Go.Proofs.Tryz.prog Go.Proofs.Tryz.f9 K Kp) (initF (mkArgs [] x)) w := by kernel_rfl
theorem tie9 (x : ArgsV []) (K Kp : Value → World → Prop) (w : World) : F.mallowlaw16_awake env  (fun r1 w' => K (.bool r1) w') w =
 ev Go.Proofs.Tryz.prog (tabC [(17, C17), (19, C19), (7, C7), (30, C30), (15, C15), (31, C31)]) (ground Go.Proofs.Tryz.prog) ann9 body9 (finQ Go.Proofs.Tryz.prog Go.Proofs.Tryz.f9 K Kp) (initF (mkArgs [] x)) w := tieZ9 (F.vmem_New env) (F.mheap_New env) (F.mheap_Heap_Alloc env) (F.mheap_Heap_Owner env) (F.mheap_Heap_Pages env) (F.mheap_Heap_Of env) x K Kp w
theorem fits9 : FitsOne Go.Proofs.Tryz.prog 9 C9 :=
 fits_of_tie (T := [(17, C17), (19, C19), (7, C7), (30, C30), (15, C15), (31, C31)]) (A := ann9) (fn := Go.Proofs.Tryz.f9) (c := body9) (fits_cons fits17 (fits_cons fits19 (fits_cons fits7 (fits_cons fits30 (fits_cons fits15 (fits_cons fits31 fits_nil)))))) mixed Go.Proofs.Tryz.func9 Go.Proofs.Tryz.call9 (by kernel_rfl) (by kernel_rfl) (by kernel_rfl) tie9

noncomputable def C11 : Entry := fun args w K Kp => unArgs [.one (.ptr), .one (.int .i64)] args.toList fun x => F.mheap_Heap_Span env x.1 x.2.1 (fun r1 r2 w' => K (.tuple ⟨[.pointer r1, .int .i64 r2]⟩) w') w
noncomputable def body11 : Code := (Go.Proofs.Tryz.f11.body).getD .skip
def ann11 : Ann := { loops := [], joins := [] }
theorem tie11 (x : ArgsV [.one (.ptr), .one (.int .i64)]) (K Kp : Value → World → Prop) (w : World) : F.mheap_Heap_Span env x.1 x.2.1 (fun r1 r2 w' => K (.tuple ⟨[.pointer r1, .int .i64 r2]⟩) w') w =
 ev Go.Proofs.Tryz.prog (tabC []) (ground Go.Proofs.Tryz.prog) ann11 body11 (finQ Go.Proofs.Tryz.prog Go.Proofs.Tryz.f11 K Kp) (initF (mkArgs [.one (.ptr), .one (.int .i64)] x)) w := by kernel_rfl
theorem fits11 : FitsOne Go.Proofs.Tryz.prog 11 C11 :=
 fits_of_tie (T := []) (A := ann11) (fn := Go.Proofs.Tryz.f11) (c := body11) fits_nil mixed Go.Proofs.Tryz.func11 Go.Proofs.Tryz.call11 (by kernel_rfl) (by kernel_rfl) (by kernel_rfl) tie11

noncomputable def C10 : Entry := fun args w K Kp => unArgs [.one (.sl)] args.toList fun x => F.mallowlaw16_asked env x.1 (fun r1 r2 r3 w' => K (.tuple ⟨[.int .i64 r1, .slice r2.base r2.len r2.cap, .bool r3]⟩) w') w
noncomputable def body10 : Code := (Go.Proofs.Tryz.f10.body).getD .skip
def ann10 : Ann := { loops := [(7, [(6, .one (.int .i64)), (7, .one (.sl)), (8, .one (.int .i64))])], joins := [(13, [(55, .one (.bool))]), (18, [(6, .one (.int .i64))])] }
def T0.mallowlaw16_asked (E : Env) (c_mallowlaw16_fresh : ∀ (a0_0 : SlV) (a0_1 : SlV) (a0_2 : SlV) (K : (Option Addr) → World → Prop) (w : World), Prop) (c_mheap_Heap_Pages : ∀ (a0 : (Option Addr)) (K : Int → Int → Int → World → Prop) (w : World), Prop) (c_mheap_Heap_Alloc : ∀ (a0 : (Option Addr)) (a1 : Int) (a2 : Int) (a3 : Int) (a4 : Bool) (K : Int → Int → World → Prop) (w : World), Prop) (c_mheap_Heap_Span : ∀ (a0 : (Option Addr)) (a1 : Int) (K : (Option Addr) → Int → World → Prop) (w : World), Prop) (c_span_Span_Info : ∀ (a0 : (Option Addr)) (K : Int → Int → Int → Int → Bool → Int → Int → Int → Bool → Bool → World → Prop) (w : World), Prop) (a0 : SlV) (K : Int → SlV → Bool → World → Prop) (w : World) : Prop :=
 c_mallowlaw16_fresh ⟨none, 0, 0⟩ ⟨none, 0, 0⟩ ⟨none, 0, 0⟩ (fun r1 w2 =>
 CND (r1.isNone) (
 K 0 ⟨none, 0, 0⟩ false w2
 ) (
 LOOP (Int × SlV × Int × Unit) (0, ⟨none, 0, 0⟩, 0, ()) w2 fun s3 _ w4 next5 =>
 CND (decide ((s3.2.2.1 : Int) < ((a0.len : Nat) : Int))) (
 c_mheap_Heap_Pages r1 (fun r6 r7 r8 w9 =>
 NC a0.base fun p10 =>
 ((0 : Int) ≤ s3.2.2.1 ∧ (s3.2.2.1 : Int) < (a0.len : Nat)) ∧
 ∃ x11 : Int, w9.cell? (p10.add (Int.toNat s3.2.2.1 * 1)) = some (.int .u64 x11) ∧
 c_mheap_Heap_Alloc r1 (-1) x11 0 false (fun r12 r13 w14 =>
 c_mheap_Heap_Span r1 r12 (fun r15 r16 w17 =>
 JOIN (Bool × Unit) (fun J18 =>
 CND ((r13 : Int) != 0) (
 J18 (true, ()) w17
 ) (
 J18 (r15.isNone, ()) w17
 )
 ) fun s19 _ w20 =>
 CND (s19.1) (
 K 0 ⟨none, 0, 0⟩ false w20
 ) (
 c_mheap_Heap_Pages r1 (fun r21 r22 r23 w24 =>
 JOIN (Int × Unit) (fun J25 =>
 CND (decide ((r21 : Int) > r6)) (
 LET (i64 ((i64 (s3.1 + 1)) + 1) : Int) fun n_28 =>
 J25 (n_28, ()) w24
 ) (
 J25 (i64 (s3.1 + 1), ()) w24
 )
 ) fun s26 _ w27 =>
 c_span_Span_Info r15 (fun r29 r30 r31 r32 r33 r34 r35 r36 r37 r38 w39 =>
 AL (.cells ⟨[.int .u64 r29]⟩ E.t_uint64) w39 fun b40 w41 =>
 APP E.t_uint64 1 8 #[.int .u64 0] s3.2.1 ⟨(some (Addr.mk b40 0 none)), 1, 1⟩ w41 fun s42 w43 =>
 next5 (s26.1, s42, i64 (s3.2.2.1 + 1), ()) w43
 ) w27
 ) w20
 )
 ) w14
 ) w9
 ) w4
 ) (
 K s3.1 s3.2.1 true w4
 )
 )
 ) w

theorem tieZ10 (c_mallowlaw16_fresh : ∀ (a0_0 : SlV) (a0_1 : SlV) (a0_2 : SlV) (K : (Option Addr) → World → Prop) (w : World), Prop) (c_mheap_Heap_Pages : ∀ (a0 : (Option Addr)) (K : Int → Int → Int → World → Prop) (w : World), Prop) (c_mheap_Heap_Alloc : ∀ (a0 : (Option Addr)) (a1 : Int) (a2 : Int) (a3 : Int) (a4 : Bool) (K : Int → Int → World → Prop) (w : World), Prop) (c_mheap_Heap_Span : ∀ (a0 : (Option Addr)) (a1 : Int) (K : (Option Addr) → Int → World → Prop) (w : World), Prop) (c_span_Span_Info : ∀ (a0 : (Option Addr)) (K : Int → Int → Int → Int → Bool → Int → Int → Int → Bool → Bool → World → Prop) (w : World), Prop) (x : ArgsV [.one (.sl)]) (K Kp : Value → World → Prop) (w : World) : T0.mallowlaw16_asked env c_mallowlaw16_fresh c_mheap_Heap_Pages c_mheap_Heap_Alloc c_mheap_Heap_Span c_span_Span_Info x.1 (fun r1 r2 r3 w' => K (.tuple ⟨[.int .i64 r1, .slice r2.base r2.len r2.cap, .bool r3]⟩) w') w =
 ev Go.Proofs.Tryz.prog (tabC [(5, fun args w K Kp => unArgs [.agg [.sl, .sl, .sl]] args.toList fun x => c_mallowlaw16_fresh x.1.1 x.1.2.1 x.1.2.2.1 (fun r1 w' => K (.pointer r1) w') w), (15, fun args w K Kp => unArgs [.one (.ptr)] args.toList fun x => c_mheap_Heap_Pages x.1 (fun r1 r2 r3 w' => K (.tuple ⟨[.int .u64 r1, .int .u64 r2, .int .u64 r3]⟩) w') w), (7, fun args w K Kp => unArgs [.one (.ptr), .one (.int .i64), .one (.int .u64), .one (.int .i64), .one (.bool)] args.toList fun x => c_mheap_Heap_Alloc x.1 x.2.1 x.2.2.1 x.2.2.2.1 x.2.2.2.2.1 (fun r1 r2 w' => K (.tuple ⟨[.int .i64 r1, .int .i64 r2]⟩) w') w), (11, fun args w K Kp => unArgs [.one (.ptr), .one (.int .i64)] args.toList fun x => c_mheap_Heap_Span x.1 x.2.1 (fun r1 r2 w' => K (.tuple ⟨[.pointer r1, .int .i64 r2]⟩) w') w), (12, fun args w K Kp => unArgs [.one (.ptr)] args.toList fun x => c_span_Span_Info x.1 (fun r1 r2 r3 r4 r5 r6 r7 r8 r9 r10 w' => K (.agg ⟨[.int .u64 r1, .int .i64 r2, .int .i64 r3, .int .i64 r4, .bool r5, .int .i64 r6, .int .i64 r7, .int .i64 r8, .bool r9, .bool r10]⟩) w') w)]) (ground Go.Proofs.Tryz.prog) ann10 body10 (finQ Go.Proofs.Tryz.prog Go.Proofs.Tryz.f10 K Kp) (initF (mkArgs [.one (.sl)] x)) w := by kernel_rfl
theorem tie10 (x : ArgsV [.one (.sl)]) (K Kp : Value → World → Prop) (w : World) : F.mallowlaw16_asked env x.1 (fun r1 r2 r3 w' => K (.tuple ⟨[.int .i64 r1, .slice r2.base r2.len r2.cap, .bool r3]⟩) w') w =
 ev Go.Proofs.Tryz.prog (tabC [(5, C5), (15, C15), (7, C7), (11, C11), (12, C12)]) (ground Go.Proofs.Tryz.prog) ann10 body10 (finQ Go.Proofs.Tryz.prog Go.Proofs.Tryz.f10 K Kp) (initF (mkArgs [.one (.sl)] x)) w := tieZ10 (F.mallowlaw16_fresh env) (F.mheap_Heap_Pages env) (F.mheap_Heap_Alloc env) (F.mheap_Heap_Span env) (F.span_Span_Info env) x K Kp w
theorem fits10 : FitsOne Go.Proofs.Tryz.prog 10 C10 :=
 fits_of_tie (T := [(5, C5), (15, C15), (7, C7), (11, C11), (12, C12)]) (A := ann10) (fn := Go.Proofs.Tryz.f10) (c := body10) (fits_cons fits5 (fits_cons fits15 (fits_cons fits7 (fits_cons fits11 (fits_cons fits12 fits_nil))))) mixed Go.Proofs.Tryz.func10 Go.Proofs.Tryz.call10 (by kernel_rfl) (by kernel_rfl) (by kernel_rfl) tie10

noncomputable def C13 : Entry := fun args w K Kp => unArgs [.one (.ptr)] args.toList fun x => F.mheap_Heap_Mem env x.1 (fun r1 w' => K (.pointer r1) w') w
noncomputable def body13 : Code := (Go.Proofs.Tryz.f13.body).getD .skip
def ann13 : Ann := { loops := [], joins := [] }
theorem tie13 (x : ArgsV [.one (.ptr)]) (K Kp : Value → World → Prop) (w : World) : F.mheap_Heap_Mem env x.1 (fun r1 w' => K (.pointer r1) w') w =
 ev Go.Proofs.Tryz.prog (tabC []) (ground Go.Proofs.Tryz.prog) ann13 body13 (finQ Go.Proofs.Tryz.prog Go.Proofs.Tryz.f13 K Kp) (initF (mkArgs [.one (.ptr)] x)) w := by kernel_rfl
theorem fits13 : FitsOne Go.Proofs.Tryz.prog 13 C13 :=
 fits_of_tie (T := []) (A := ann13) (fn := Go.Proofs.Tryz.f13) (c := body13) fits_nil mixed Go.Proofs.Tryz.func13 Go.Proofs.Tryz.call13 (by kernel_rfl) (by kernel_rfl) (by kernel_rfl) tie13

noncomputable def C33 : Entry := fun args w K Kp => unArgs [.one (.ptr), .one (.int .u64)] args.toList fun x => F.vmem_Mem_at env x.1 x.2.1 (fun r1 r2 w' => K (.tuple ⟨[.int .u64 r1, .int .u64 r2]⟩) w') Kp w
noncomputable def body33 : Code := (Go.Proofs.Tryz.f33.body).getD .skip
def ann33 : Ann := { loops := [], joins := [] }
def T0.vmem_Mem_at (E : Env) (c_stretch_Set_Has : ∀ (a0 : (Option Addr)) (a1 : Int) (K : Bool → World → Prop) (w : World), Prop) (a0 : (Option Addr)) (a1 : Int) (K : Int → Int → World → Prop) (Kp : Value → World → Prop) (w : World) : Prop :=
 8192 ≠ (0 : Int) ∧
 8 ≠ (0 : Int) ∧
 CND (((Int.tmod a1 8) : Int) != 0) (
 Kp (.iface E.t_vmem_fault (.agg ⟨[.int .i64 11]⟩)) w
 ) (
 NC a0 fun p1 =>
 c_stretch_Set_Has (some (p1.add 5)) (u64 (Int.tdiv a1 8192)) (fun r2 w3 =>
 CND (!r2) (
 Kp (.iface E.t_vmem_fault (.agg ⟨[.int .i64 12]⟩)) w3
 ) (
 8192 ≠ (0 : Int) ∧
 8 ≠ (0 : Int) ∧
 LET (u64 (Int.tdiv (Int.tmod a1 8192) 8) : Int) fun t4 =>
 K (u64 (Int.tdiv a1 8192)) t4 w3
 )
 ) w
 )

theorem tieZ33 (c_stretch_Set_Has : ∀ (a0 : (Option Addr)) (a1 : Int) (K : Bool → World → Prop) (w : World), Prop) (x : ArgsV [.one (.ptr), .one (.int .u64)]) (K Kp : Value → World → Prop) (w : World) : T0.vmem_Mem_at env c_stretch_Set_Has x.1 x.2.1 (fun r1 r2 w' => K (.tuple ⟨[.int .u64 r1, .int .u64 r2]⟩) w') Kp w =
 ev Go.Proofs.Tryz.prog (tabC [(63, fun args w K Kp => unArgs [.one (.ptr), .one (.int .u64)] args.toList fun x => c_stretch_Set_Has x.1 x.2.1 (fun r1 w' => K (.bool r1) w') w)]) (ground Go.Proofs.Tryz.prog) ann33 body33 (finQ Go.Proofs.Tryz.prog Go.Proofs.Tryz.f33 K Kp) (initF (mkArgs [.one (.ptr), .one (.int .u64)] x)) w := by kernel_rfl
theorem tie33 (x : ArgsV [.one (.ptr), .one (.int .u64)]) (K Kp : Value → World → Prop) (w : World) : F.vmem_Mem_at env x.1 x.2.1 (fun r1 r2 w' => K (.tuple ⟨[.int .u64 r1, .int .u64 r2]⟩) w') Kp w =
 ev Go.Proofs.Tryz.prog (tabC [(63, C63)]) (ground Go.Proofs.Tryz.prog) ann33 body33 (finQ Go.Proofs.Tryz.prog Go.Proofs.Tryz.f33 K Kp) (initF (mkArgs [.one (.ptr), .one (.int .u64)] x)) w := tieZ33 (F.stretch_Set_Has env) x K Kp w
theorem fits33 : FitsOne Go.Proofs.Tryz.prog 33 C33 :=
 fits_of_tie (T := [(63, C63)]) (A := ann33) (fn := Go.Proofs.Tryz.f33) (c := body33) (fits_cons fits63 fits_nil) mixed Go.Proofs.Tryz.func33 Go.Proofs.Tryz.call33 (by kernel_rfl) (by kernel_rfl) (by kernel_rfl) tie33

noncomputable def C34 : Entry := fun args w K Kp => unArgs [.one (.ptr), .one (.int .u64)] args.toList fun x => F.vmem_Mem_stored env x.1 x.2.1 (fun r1 w' => K (.pointer r1) w') w
noncomputable def body34 : Code := (Go.Proofs.Tryz.f34.body).getD .skip
def ann34 : Ann := { loops := [(5, [(16, .one (.int .i64))])], joins := [] }
theorem tie34 (x : ArgsV [.one (.ptr), .one (.int .u64)]) (K Kp : Value → World → Prop) (w : World) : F.vmem_Mem_stored env x.1 x.2.1 (fun r1 w' => K (.pointer r1) w') w =
 ev Go.Proofs.Tryz.prog (tabC []) (ground Go.Proofs.Tryz.prog) ann34 body34 (finQ Go.Proofs.Tryz.prog Go.Proofs.Tryz.f34 K Kp) (initF (mkArgs [.one (.ptr), .one (.int .u64)] x)) w := by kernel_rfl
theorem fits34 : FitsOne Go.Proofs.Tryz.prog 34 C34 :=
 fits_of_tie (T := []) (A := ann34) (fn := Go.Proofs.Tryz.f34) (c := body34) fits_nil mixed Go.Proofs.Tryz.func34 Go.Proofs.Tryz.call34 (by kernel_rfl) (by kernel_rfl) (by kernel_rfl) tie34

noncomputable def D32 : EntryD := fun args pv w K => unArgs [.one (.ptr)] args.toList fun x => F.vmem_caught env x.1 (pv.getD .nilIface) (fun w' => K pv.isSome w') w
noncomputable def body32 : Code := (Go.Proofs.Tryz.f32.body).getD .skip
def ann32 : Ann := { loops := [], joins := [] }
noncomputable def rest32 : Code := ((recOf body32).map (·.2)).getD .skip
theorem tie32 (x : ArgsV [.one (.ptr)]) (v : Value) (K : World → Prop) (w : World) : F.vmem_caught env x.1 v K w =
 ev Go.Proofs.Tryz.prog (tabC []) (ground Go.Proofs.Tryz.prog) ann32 rest32 (finQ Go.Proofs.Tryz.prog Go.Proofs.Tryz.f32 (fun _ w' => K w') noP) ((initF (mkArgs [.one (.ptr)] x)).put 5 v) w := by kernel_rfl
theorem fitsD32 : FitsDOne Go.Proofs.Tryz.prog 32 D32 :=
 fitsD_rec (T := []) (A := ann32) (fn := Go.Proofs.Tryz.f32) (c := body32) (y := rest32) (d := 5) (l := [.one (.ptr)]) (F := fun (x : ArgsV [.one (.ptr)]) v K w => F.vmem_caught env x.1 v K w) fits_nil mixed Go.Proofs.Tryz.func32 Go.Proofs.Tryz.call32 (by kernel_rfl) (by kernel_rfl) (by kernel_rfl) (by kernel_rfl) (by kernel_rfl) tie32

noncomputable def C14 : Entry := fun args w K Kp => unArgs [.one (.ptr), .one (.int .u64), .one (.int .u64)] args.toList fun x => F.vmem_Mem_Store env x.1 x.2.1 x.2.2.1 (fun r1 w' => K (.int .i64 r1) w') w
noncomputable def body14 : Code := (Go.Proofs.Tryz.f14.body).getD .skip
def ann14 : Ann := { loops := [], joins := [] }
def T0.vmem_Mem_Store (E : Env) (c_vmem_Mem_at : ∀ (a0 : (Option Addr)) (a1 : Int) (K : Int → Int → World → Prop) (Kp : Value → World → Prop) (w : World), Prop) (c_vmem_Mem_stored : ∀ (a0 : (Option Addr)) (a1 : Int) (K : (Option Addr) → World → Prop) (w : World), Prop) (a0 : (Option Addr)) (a1 : Int) (a2 : Int) (K : Int → World → Prop) (w : World) : Prop :=
 AL (.cells #[.int .i64 0] E.t_api_Errno) w fun b1 w2 =>
 c_vmem_Mem_at a0 a1 (fun r3 r4 w5 =>
 c_vmem_Mem_stored a0 r3 (fun r6 w7 =>
 NC r6 fun p8 =>
 ((0 : Int) ≤ r4 ∧ (r4 : Int) < (1024 : Nat)) ∧
 stCells (p8.add (Int.toNat r4 * 1)) 0 [.int .u64 a2] w7 fun w9 =>
 stCells (Addr.mk b1 0 none) 0 [.int .i64 0] w9 fun w10 =>
 F.vmem_caught E (some (Addr.mk b1 0 none)) .nilIface (fun w11 =>
 ∃ x12 : Int, w11.cell? (Addr.mk b1 0 none) = some (.int .i64 x12) ∧
 K x12 w11
 ) w10
 ) w5
 ) (fun v13 w14 =>
 F.vmem_caught E (some (Addr.mk b1 0 none)) v13 (fun w15 =>
 ∃ x16 : Int, w15.cell? (Addr.mk b1 0 none) = some (.int .i64 x16) ∧
 K x16 w15
 ) w14
 ) w2

theorem tieZ14 (c_vmem_Mem_at : ∀ (a0 : (Option Addr)) (a1 : Int) (K : Int → Int → World → Prop) (Kp : Value → World → Prop) (w : World), Prop) (c_vmem_Mem_stored : ∀ (a0 : (Option Addr)) (a1 : Int) (K : (Option Addr) → World → Prop) (w : World), Prop) (x : ArgsV [.one (.ptr), .one (.int .u64), .one (.int .u64)]) (K : Value → World → Prop) (w : World) : T0.vmem_Mem_Store env c_vmem_Mem_at c_vmem_Mem_stored x.1 x.2.1 x.2.2.1 (fun r1 w' => K (.int .i64 r1) w') w =
 evD Go.Proofs.Tryz.prog (tabC [(33, fun args w K Kp => unArgs [.one (.ptr), .one (.int .u64)] args.toList fun x => c_vmem_Mem_at x.1 x.2.1 (fun r1 r2 w' => K (.tuple ⟨[.int .u64 r1, .int .u64 r2]⟩) w') Kp w), (34, fun args w K Kp => unArgs [.one (.ptr), .one (.int .u64)] args.toList fun x => c_vmem_Mem_stored x.1 x.2.1 (fun r1 w' => K (.pointer r1) w') w)]) (ground Go.Proofs.Tryz.prog) ann14 (finQ Go.Proofs.Tryz.prog Go.Proofs.Tryz.f14 K noP) (finD Go.Proofs.Tryz.prog Go.Proofs.Tryz.f14 (tabD [(32, D32)]) K noP) body14 (initF (mkArgs [.one (.ptr), .one (.int .u64), .one (.int .u64)] x)) w := by kernel_rfl
theorem tie14 (x : ArgsV [.one (.ptr), .one (.int .u64), .one (.int .u64)]) (K : Value → World → Prop) (w : World) : F.vmem_Mem_Store env x.1 x.2.1 x.2.2.1 (fun r1 w' => K (.int .i64 r1) w') w =
 evD Go.Proofs.Tryz.prog (tabC [(33, C33), (34, C34)]) (ground Go.Proofs.Tryz.prog) ann14 (finQ Go.Proofs.Tryz.prog Go.Proofs.Tryz.f14 K noP) (finD Go.Proofs.Tryz.prog Go.Proofs.Tryz.f14 (tabD [(32, D32)]) K noP) body14 (initF (mkArgs [.one (.ptr), .one (.int .u64), .one (.int .u64)] x)) w := tieZ14 (F.vmem_Mem_at env) (F.vmem_Mem_stored env) x K w
theorem fits14 : FitsOne Go.Proofs.Tryz.prog 14 C14 :=
 fits_of_tieD (T := [(33, C33), (34, C34)]) (TD := [(32, D32)]) (A := ann14) (fn := Go.Proofs.Tryz.f14) (c := body14) (fits_cons fits33 (fits_cons fits34 fits_nil)) (fitsD_cons fitsD32 fitsD_nil) mixed Go.Proofs.Tryz.func14 Go.Proofs.Tryz.call14 (by kernel_rfl) (by kernel_rfl) (by kernel_rfl) tie14

noncomputable def C16 : Entry := fun args w K Kp => unArgs [.one (.ptr), .one (.int .u64)] args.toList fun x => F.vmem_Mem_Load env x.1 x.2.1 (fun r1 r2 w' => K (.tuple ⟨[.int .u64 r1, .int .i64 r2]⟩) w') w
noncomputable def body16 : Code := (Go.Proofs.Tryz.f16.body).getD .skip
def ann16 : Ann := { loops := [], joins := [] }
def T0.vmem_Mem_Load (E : Env) (c_vmem_Mem_at : ∀ (a0 : (Option Addr)) (a1 : Int) (K : Int → Int → World → Prop) (Kp : Value → World → Prop) (w : World), Prop) (a0 : (Option Addr)) (a1 : Int) (K : Int → Int → World → Prop) (w : World) : Prop :=
 AL (.cells #[.int .i64 0] E.t_api_Errno) w fun b1 w2 =>
 c_vmem_Mem_at a0 a1 (fun r3 r4 w5 =>
 NC a0 fun p6 =>
 ∃ x7 : (Option Nat), w5.cell? (p6.add 10) = some (.map x7) ∧
 LKP .u64 r3 x7 w5 (.pointer none) fun v8 ok9 es10 =>
 ∃ x11 : (Option Addr), v8 = .pointer x11 ∧
 CND (!x11.isNone) (
 NC x11 fun p12 =>
 ((0 : Int) ≤ r4 ∧ (r4 : Int) < (1024 : Nat)) ∧
 ∃ x13 : Int, w5.cell? (p12.add (Int.toNat r4 * 1)) = some (.int .u64 x13) ∧
 stCells (Addr.mk b1 0 none) 0 [.int .i64 0] w5 fun w14 =>
 F.vmem_caught E (some (Addr.mk b1 0 none)) .nilIface (fun w15 =>
 ∃ x16 : Int, w15.cell? (Addr.mk b1 0 none) = some (.int .i64 x16) ∧
 K x13 x16 w15
 ) w14
 ) (
 NC a0 fun p17 =>
 ∃ x18 : (Option Nat), w5.cell? (p17.add 9) = some (.map x18) ∧
 LKP .u64 r3 x18 w5 (.int .u64 0) fun v19 ok20 es21 =>
 ∃ x22 : Int, v19 = .int .u64 x22 ∧
 stCells (Addr.mk b1 0 none) 0 [.int .i64 0] w5 fun w23 =>
 F.vmem_caught E (some (Addr.mk b1 0 none)) .nilIface (fun w24 =>
 ∃ x25 : Int, w24.cell? (Addr.mk b1 0 none) = some (.int .i64 x25) ∧
 K x22 x25 w24
 ) w23
 )
 ) (fun v26 w27 =>
 F.vmem_caught E (some (Addr.mk b1 0 none)) v26 (fun w28 =>
 ∃ x29 : Int, w28.cell? (Addr.mk b1 0 none) = some (.int .i64 x29) ∧
 K 0 x29 w28
 ) w27
 ) w2

theorem tieZ16 (c_vmem_Mem_at : ∀ (a0 : (Option Addr)) (a1 : Int) (K : Int → Int → World → Prop) (Kp : Value → World → Prop) (w : World), Prop) (x : ArgsV [.one (.ptr), .one (.int .u64)]) (K : Value → World → Prop) (w : World) : T0.vmem_Mem_Load env c_vmem_Mem_at x.1 x.2.1 (fun r1 r2 w' => K (.tuple ⟨[.int .u64 r1, .int .i64 r2]⟩) w') w =
 evD Go.Proofs.Tryz.prog (tabC [(33, fun args w K Kp => unArgs [.one (.ptr), .one (.int .u64)] args.toList fun x => c_vmem_Mem_at x.1 x.2.1 (fun r1 r2 w' => K (.tuple ⟨[.int .u64 r1, .int .u64 r2]⟩) w') Kp w)]) (ground Go.Proofs.Tryz.prog) ann16 (finQ Go.Proofs.Tryz.prog Go.Proofs.Tryz.f16 K noP) (finD Go.Proofs.Tryz.prog Go.Proofs.Tryz.f16 (tabD [(32, D32)]) K noP) body16 (initF (mkArgs [.one (.ptr), .one (.int .u64)] x)) w := by kernel_rfl
theorem tie16 (x : ArgsV [.one (.ptr), .one (.int .u64)]) (K : Value → World → Prop) (w : World) : F.vmem_Mem_Load env x.1 x.2.1 (fun r1 r2 w' => K (.tuple ⟨[.int .u64 r1, .int .i64 r2]⟩) w') w =
 evD Go.Proofs.Tryz.prog (tabC [(33, C33)]) (ground Go.Proofs.Tryz.prog) ann16 (finQ Go.Proofs.Tryz.prog Go.Proofs.Tryz.f16 K noP) (finD Go.Proofs.Tryz.prog Go.Proofs.Tryz.f16 (tabD [(32, D32)]) K noP) body16 (initF (mkArgs [.one (.ptr), .one (.int .u64)] x)) w := tieZ16 (F.vmem_Mem_at env) x K w
theorem fits16 : FitsOne Go.Proofs.Tryz.prog 16 C16 :=
 fits_of_tieD (T := [(33, C33)]) (TD := [(32, D32)]) (A := ann16) (fn := Go.Proofs.Tryz.f16) (c := body16) (fits_cons fits33 fits_nil) (fitsD_cons fitsD32 fitsD_nil) mixed Go.Proofs.Tryz.func16 Go.Proofs.Tryz.call16 (by kernel_rfl) (by kernel_rfl) (by kernel_rfl) tie16

noncomputable def C4 : Entry := fun args w K Kp => unArgs [.one (.sl), .one (.int .u64), .one (.int .i64)] args.toList fun x => F.mallowlaw16_HeapRefused env x.1 x.2.1 x.2.2.1 (fun r1 w' => K (.bool r1) w') w
noncomputable def body4 : Code := (Go.Proofs.Tryz.f4.body).getD .skip
def ann4 : Ann := { loops := [(4, [(7, .one (.int .i64))]), (13, [(12, .one (.int .i64))]), (20, [(14, .one (.int .i64))]), (27, [(19, .one (.int .i64))]), (35, [(28, .one (.int .i64))])], joins := [(2, [(51, .one (.bool))]), (7, [(69, .one (.bool))]), (25, [(147, .one (.bool))]), (33, [(194, .one (.bool))]), (39, [(219, .one (.bool))])] }
def T0.mallowlaw16_HeapRefused (E : Env) (c_mallowlaw16_asked : ∀ (a0 : SlV) (K : Int → SlV → Bool → World → Prop) (w : World), Prop) (c_mallowlaw16_fresh : ∀ (a0_0 : SlV) (a0_1 : SlV) (a0_2 : SlV) (K : (Option Addr) → World → Prop) (w : World), Prop) (c_mheap_Heap_Alloc : ∀ (a0 : (Option Addr)) (a1 : Int) (a2 : Int) (a3 : Int) (a4 : Bool) (K : Int → Int → World → Prop) (w : World), Prop) (c_mheap_Heap_Span : ∀ (a0 : (Option Addr)) (a1 : Int) (K : (Option Addr) → Int → World → Prop) (w : World), Prop) (c_span_Span_Info : ∀ (a0 : (Option Addr)) (K : Int → Int → Int → Int → Bool → Int → Int → Int → Bool → Bool → World → Prop) (w : World), Prop) (c_mheap_Heap_Mem : ∀ (a0 : (Option Addr)) (K : (Option Addr) → World → Prop) (w : World), Prop) (c_vmem_Mem_Store : ∀ (a0 : (Option Addr)) (a1 : Int) (a2 : Int) (K : Int → World → Prop) (w : World), Prop) (c_mheap_Heap_Pages : ∀ (a0 : (Option Addr)) (K : Int → Int → Int → World → Prop) (w : World), Prop) (c_mheap_Heap_Spans : ∀ (a0 : (Option Addr)) (K : SlV → World → Prop) (w : World), Prop) (c_vmem_Mem_Load : ∀ (a0 : (Option Addr)) (a1 : Int) (K : Int → Int → World → Prop) (w : World), Prop) (c_mallowlaw16_awake : ∀ (K : Bool → World → Prop) (w : World), Prop) (a0 : SlV) (a1 : Int) (a2 : Int) (K : Bool → World → Prop) (w : World) : Prop :=
 JOIN (Bool × Unit) (fun J1 =>
 CND (decide ((((a0.len : Nat) : Int) : Int) > 20)) (
 J1 (true, ()) w
 ) (
 CND (decide ((a1 : Int) < 1)) (
 J1 (true, ()) w
 ) (
 CND (decide ((a1 : Int) > 2000)) (
 J1 (true, ()) w
 ) (
 CND (decide ((a2 : Int) < 1)) (
 J1 (true, ()) w
 ) (
 J1 (decide ((a2 : Int) > 3), ()) w
 )
 )
 )
 )
 ) fun s2 _ w3 =>
 CND (s2.1) (
 K true w3
 ) (
 LOOP (Int × Unit) (0, ()) w3 fun s4 _ w5 next6 =>
 CND (decide ((s4.1 : Int) < ((a0.len : Nat) : Int))) (
 JOIN (Bool × Unit) (fun J7 =>
 NC a0.base fun p10 =>
 ((0 : Int) ≤ s4.1 ∧ (s4.1 : Int) < (a0.len : Nat)) ∧
 ∃ x11 : Int, w5.cell? (p10.add (Int.toNat s4.1 * 1)) = some (.int .u64 x11) ∧
 CND (decide ((x11 : Int) < 1)) (
 J7 (true, ()) w5
 ) (
 NC a0.base fun p12 =>
 ((0 : Int) ≤ s4.1 ∧ (s4.1 : Int) < (a0.len : Nat)) ∧
 ∃ x13 : Int, w5.cell? (p12.add (Int.toNat s4.1 * 1)) = some (.int .u64 x13) ∧
 J7 (decide ((x13 : Int) > 700), ()) w5
 )
 ) fun s8 _ w9 =>
 CND (s8.1) (
 K true w9
 ) (
 next6 (i64 (s4.1 + 1), ()) w9
 )
 ) (
 c_mallowlaw16_asked a0 (fun r14 r15 r16 w17 =>
 CND (!r16) (
 K false w17
 ) (
 ((0 : Int) ≤ (i64 (r14 + a2)) ∧ ((i64 (r14 + a2)) : Int) ≤ (i64 (r14 + a2)) ∧ ((i64 (r14 + a2)) : Int) < 9223372036854775808 ∧ ((1 : Nat) : Int) * (i64 (r14 + a2)) ≤ 140737488355328) ∧
 AL (.cells (mkZero #[.bool false] (Int.toNat (i64 (r14 + a2)) * 1)) E.t_bool) w17 fun b18 w19 =>
 AL (.cells #[.slice none 0 0, .slice none 0 0, .slice none 0 0] E.t_api_Answers) w19 fun b20 w21 =>
 stCells (Addr.mk b20 0 none) 0 [.slice none 0 0, .slice (some (Addr.mk b18 0 none)) (Int.toNat (i64 (r14 + a2))) (Int.toNat (i64 (r14 + a2))), .slice none 0 0] w21 fun w22 =>
 LOOP (Int × Unit) (0, ()) w22 fun s23 _ w24 next25 =>
 CND (decide ((s23.1 : Int) < a2)) (
 ∃ x26 : SlV, w24.cell? ((Addr.mk b20 0 none).add 1) = some (.slice x26.base x26.len x26.cap) ∧
 NC x26.base fun p27 =>
 ((0 : Int) ≤ (i64 (r14 + s23.1)) ∧ ((i64 (r14 + s23.1)) : Int) < (x26.len : Nat)) ∧
 stCells (p27.add (Int.toNat (i64 (r14 + s23.1)) * 1)) 0 [.bool true] w24 fun w28 =>
 next25 (i64 (s23.1 + 1), ()) w28
 ) (
 ∃ c29 : SlV, w24.cell? ((Addr.mk b20 0 none).add 0) = some (.slice c29.base c29.len c29.cap) ∧
 ∃ c30 : SlV, w24.cell? ((Addr.mk b20 0 none).add 1) = some (.slice c30.base c30.len c30.cap) ∧
 ∃ c31 : SlV, w24.cell? ((Addr.mk b20 0 none).add 2) = some (.slice c31.base c31.len c31.cap) ∧
 c_mallowlaw16_fresh c29 c30 c31 (fun r32 w33 =>
 CND (r32.isNone) (
 K false w33
 ) (
 LOOP (Int × Unit) (0, ()) w33 fun s34 _ w35 next36 =>
 CND (decide ((s34.1 : Int) < ((a0.len : Nat) : Int))) (
 NC a0.base fun p37 =>
 ((0 : Int) ≤ s34.1 ∧ (s34.1 : Int) < (a0.len : Nat)) ∧
 ∃ x38 : Int, w35.cell? (p37.add (Int.toNat s34.1 * 1)) = some (.int .u64 x38) ∧
 c_mheap_Heap_Alloc r32 (-1) x38 0 false (fun r39 r40 w41 =>
 c_mheap_Heap_Span r32 r39 (fun r42 r43 w44 =>
 JOIN (Bool × Unit) (fun J45 =>
 CND ((r40 : Int) != 0) (
 J45 (true, ()) w44.drew
 ) (
 CND (r42.isNone) (
 J45 (true, ()) w44.drew
 ) (
 NC r15.base fun p48 =>
 ((0 : Int) ≤ s34.1 ∧ (s34.1 : Int) < (r15.len : Nat)) ∧
 ∃ x49 : Int, w44.drew.cell? (p48.add (Int.toNat s34.1 * 1)) = some (.int .u64 x49) ∧
 c_span_Span_Info r42 (fun r50 r51 r52 r53 r54 r55 r56 r57 r58 r59 w60 =>
 w60.cell? (p48.add (Int.toNat s34.1 * 1)) = some (.int .u64 x49) ∧
 CND ((r50 : Int) != x49) (
 J45 (true, ()) w60
 ) (
 NC r15.base fun p61 =>
 ((0 : Int) ≤ s34.1 ∧ (s34.1 : Int) < (r15.len : Nat)) ∧
 ∃ x62 : Int, w60.cell? (p61.add (Int.toNat s34.1 * 1)) = some (.int .u64 x62) ∧
 c_mheap_Heap_Mem r32 (fun r63 w64 =>
 w64.cell? (p61.add (Int.toNat s34.1 * 1)) = some (.int .u64 x62) ∧
 w64.cell? (p48.add (Int.toNat s34.1 * 1)) = some (.int .u64 x49) ∧
 c_vmem_Mem_Store r63 x62 (u64 ((u64 (s34.1)) + 5)) (fun r65 w66 =>
 w66.cell? (p48.add (Int.toNat s34.1 * 1)) = some (.int .u64 x49) ∧
 J45 ((r65 : Int) != 0, ()) w66
 ) w64
 ) w60
 )
 ) w44.drew
 )
 )
 ) fun s46 _ w47 =>
 CND (s46.1) (
 K false w47
 ) (
 next36 (i64 (s34.1 + 1), ()) w47
 )
 ) w41
 ) w35
 ) (
 LOOP (Int × Unit) (0, ()) w35 fun s67 _ w68 next69 =>
 CND (decide ((s67.1 : Int) < a2)) (
 c_mheap_Heap_Pages r32 (fun r70 r71 r72 w73 =>
 c_mheap_Heap_Alloc r32 (-1) a1 0 true (fun r74 r75 w76 =>
 c_mheap_Heap_Pages r32 (fun r77 r78 r79 w80 =>
 JOIN (Bool × Unit) (fun J81 =>
 CND ((r75 : Int) != 13) (
 J81 (true, ()) w80
 ) (
 CND ((r74 : Int) != 0) (
 J81 (true, ()) w80
 ) (
 CND ((r71 : Int) != r78) (
 J81 (true, ()) w80
 ) (
 CND (decide ((r79 : Int) < r72)) (
 J81 (true, ()) w80
 ) (
 c_mheap_Heap_Spans r32 (fun r84 w85 =>
 J81 ((((r84.len : Nat) : Int) : Int) != ((a0.len : Nat) : Int), ()) w85
 ) w80
 )
 )
 )
 )
 ) fun s82 _ w83 =>
 CND (s82.1) (
 K false w83
 ) (
 LOOP (Int × Unit) (0, ()) w83 fun s86 _ w87 next88 =>
 CND (decide ((s86.1 : Int) < ((r15.len : Nat) : Int))) (
 NC r15.base fun p89 =>
 ((0 : Int) ≤ s86.1 ∧ (s86.1 : Int) < (r15.len : Nat)) ∧
 ∃ x90 : Int, w87.drew.cell? (p89.add (Int.toNat s86.1 * 1)) = some (.int .u64 x90) ∧
 c_mheap_Heap_Mem r32 (fun r91 w92 =>
 w92.cell? (p89.add (Int.toNat s86.1 * 1)) = some (.int .u64 x90) ∧
 c_vmem_Mem_Load r91 x90 (fun r93 r94 w95 =>
 JOIN (Bool × Unit) (fun J96 =>
 CND ((r93 : Int) != (u64 ((u64 (s86.1)) + 5))) (
 J96 (true, ()) w95
 ) (
 J96 ((r94 : Int) != 0, ()) w95
 )
 ) fun s97 _ w98 =>
 CND (s97.1) (
 K false w98
 ) (
 next88 (i64 (s86.1 + 1), ()) w98
 )
 ) w92
 ) w87.drew
 ) (
 next69 (i64 (s67.1 + 1), ()) w87
 )
 )
 ) w76
 ) w73
 ) w68
 ) (
 c_mheap_Heap_Alloc r32 (-1) a1 0 true (fun r99 r100 w101 =>
 CND (decide ((r99 : Int) > 0)) (
 CND ((r100 : Int) == 0) (
 c_mallowlaw16_awake  (fun r102 w103 =>
 K r102 w103
 ) w101
 ) (
 K false w101
 )
 ) (
 K false w101
 )
 ) w68
 )
 )
 )
 ) w24
 )
 )
 ) w5
 )
 )

theorem tieZ4 (c_mallowlaw16_asked : ∀ (a0 : SlV) (K : Int → SlV → Bool → World → Prop) (w : World), Prop) (c_mallowlaw16_fresh : ∀ (a0_0 : SlV) (a0_1 : SlV) (a0_2 : SlV) (K : (Option Addr) → World → Prop) (w : World), Prop) (c_mheap_Heap_Alloc : ∀ (a0 : (Option Addr)) (a1 : Int) (a2 : Int) (a3 : Int) (a4 : Bool) (K : Int → Int → World → Prop) (w : World), Prop) (c_mheap_Heap_Span : ∀ (a0 : (Option Addr)) (a1 : Int) (K : (Option Addr) → Int → World → Prop) (w : World), Prop) (c_span_Span_Info : ∀ (a0 : (Option Addr)) (K : Int → Int → Int → Int → Bool → Int → Int → Int → Bool → Bool → World → Prop) (w : World), Prop) (c_mheap_Heap_Mem : ∀ (a0 : (Option Addr)) (K : (Option Addr) → World → Prop) (w : World), Prop) (c_vmem_Mem_Store : ∀ (a0 : (Option Addr)) (a1 : Int) (a2 : Int) (K : Int → World → Prop) (w : World), Prop) (c_mheap_Heap_Pages : ∀ (a0 : (Option Addr)) (K : Int → Int → Int → World → Prop) (w : World), Prop) (c_mheap_Heap_Spans : ∀ (a0 : (Option Addr)) (K : SlV → World → Prop) (w : World), Prop) (c_vmem_Mem_Load : ∀ (a0 : (Option Addr)) (a1 : Int) (K : Int → Int → World → Prop) (w : World), Prop) (c_mallowlaw16_awake : ∀ (K : Bool → World → Prop) (w : World), Prop) (x : ArgsV [.one (.sl), .one (.int .u64), .one (.int .i64)]) (K Kp : Value → World → Prop) (w : World) : T0.mallowlaw16_HeapRefused env c_mallowlaw16_asked c_mallowlaw16_fresh c_mheap_Heap_Alloc c_mheap_Heap_Span c_span_Span_Info c_mheap_Heap_Mem c_vmem_Mem_Store c_mheap_Heap_Pages c_mheap_Heap_Spans c_vmem_Mem_Load c_mallowlaw16_awake x.1 x.2.1 x.2.2.1 (fun r1 w' => K (.bool r1) w') w =
 ev Go.Proofs.Tryz.prog (tabC [(10, fun args w K Kp => unArgs [.one (.sl)] args.toList fun x => c_mallowlaw16_asked x.1 (fun r1 r2 r3 w' => K (.tuple ⟨[.int .i64 r1, .slice r2.base r2.len r2.cap, .bool r3]⟩) w') w), (5, fun args w K Kp => unArgs [.agg [.sl, .sl, .sl]] args.toList fun x => c_mallowlaw16_fresh x.1.1 x.1.2.1 x.1.2.2.1 (fun r1 w' => K (.pointer r1) w') w), (7, fun args w K Kp => unArgs [.one (.ptr), .one (.int .i64), .one (.int .u64), .one (.int .i64), .one (.bool)] args.toList fun x => c_mheap_Heap_Alloc x.1 x.2.1 x.2.2.1 x.2.2.2.1 x.2.2.2.2.1 (fun r1 r2 w' => K (.tuple ⟨[.int .i64 r1, .int .i64 r2]⟩) w') w), (11, fun args w K Kp => unArgs [.one (.ptr), .one (.int .i64)] args.toList fun x => c_mheap_Heap_Span x.1 x.2.1 (fun r1 r2 w' => K (.tuple ⟨[.pointer r1, .int .i64 r2]⟩) w') w), (12, fun args w K Kp => unArgs [.one (.ptr)] args.toList fun x => c_span_Span_Info x.1 (fun r1 r2 r3 r4 r5 r6 r7 r8 r9 r10 w' => K (.agg ⟨[.int .u64 r1, .int .i64 r2, .int .i64 r3, .int .i64 r4, .bool r5, .int .i64 r6, .int .i64 r7, .int .i64 r8, .bool r9, .bool r10]⟩) w') w), (13, fun args w K Kp => unArgs [.one (.ptr)] args.toList fun x => c_mheap_Heap_Mem x.1 (fun r1 w' => K (.pointer r1) w') w), (14, fun args w K Kp => unArgs [.one (.ptr), .one (.int .u64), .one (.int .u64)] args.toList fun x => c_vmem_Mem_Store x.1 x.2.1 x.2.2.1 (fun r1 w' => K (.int .i64 r1) w') w), (15, fun args w K Kp => unArgs [.one (.ptr)] args.toList fun x => c_mheap_Heap_Pages x.1 (fun r1 r2 r3 w' => K (.tuple ⟨[.int .u64 r1, .int .u64 r2, .int .u64 r3]⟩) w') w), (8, fun args w K Kp => unArgs [.one (.ptr)] args.toList fun x => c_mheap_Heap_Spans x.1 (fun r1 w' => K (.slice r1.base r1.len r1.cap) w') w), (16, fun args w K Kp => unArgs [.one (.ptr), .one (.int .u64)] args.toList fun x => c_vmem_Mem_Load x.1 x.2.1 (fun r1 r2 w' => K (.tuple ⟨[.int .u64 r1, .int .i64 r2]⟩) w') w), (9, fun args w K Kp => unArgs [] args.toList fun x => c_mallowlaw16_awake  (fun r1 w' => K (.bool r1) w') w)]) (ground Go.Proofs.Tryz.prog) ann4 body4 (finQ Go.Proofs.Tryz.prog Go.Proofs.Tryz.f4 K Kp) (initF (mkArgs [.one (.sl), .one (.int .u64), .one (.int .i64)] x)) w := by kernel_rfl
theorem tie4 (x : ArgsV [.one (.sl), .one (.int .u64), .one (.int .i64)]) (K Kp : Value → World → Prop) (w : World) : F.mallowlaw16_HeapRefused env x.1 x.2.1 x.2.2.1 (fun r1 w' => K (.bool r1) w') w =
 ev Go.Proofs.Tryz.prog (tabC [(10, C10), (5, C5), (7, C7), (11, C11), (12, C12), (13, C13), (14, C14), (15, C15), (8, C8), (16, C16), (9, C9)]) (ground Go.Proofs.Tryz.prog) ann4 body4 (finQ Go.Proofs.Tryz.prog Go.Proofs.Tryz.f4 K Kp) (initF (mkArgs [.one (.sl), .one (.int .u64), .one (.int .i64)] x)) w := tieZ4 (F.mallowlaw16_asked env) (F.mallowlaw16_fresh env) (F.mheap_Heap_Alloc env) (F.mheap_Heap_Span env) (F.span_Span_Info env) (F.mheap_Heap_Mem env) (F.vmem_Mem_Store env) (F.mheap_Heap_Pages env) (F.mheap_Heap_Spans env) (F.vmem_Mem_Load env) (F.mallowlaw16_awake env) x K Kp w
theorem fits4 : FitsOne Go.Proofs.Tryz.prog 4 C4 :=
 fits_of_tie (T := [(10, C10), (5, C5), (7, C7), (11, C11), (12, C12), (13, C13), (14, C14), (15, C15), (8, C8), (16, C16), (9, C9)]) (A := ann4) (fn := Go.Proofs.Tryz.f4) (c := body4) (fits_cons fits10 (fits_cons fits5 (fits_cons fits7 (fits_cons fits11 (fits_cons fits12 (fits_cons fits13 (fits_cons fits14 (fits_cons fits15 (fits_cons fits8 (fits_cons fits16 (fits_cons fits9 fits_nil))))))))))) mixed Go.Proofs.Tryz.func4 Go.Proofs.Tryz.call4 (by kernel_rfl) (by kernel_rfl) (by kernel_rfl) tie4

noncomputable def C60 : Entry := fun args w K Kp => unArgs [.one (.int .u64)] args.toList fun x => F.cmp_isNaN_uint64_ env x.1 (fun r1 w' => K (.bool r1) w') w
noncomputable def body60 : Code := (Go.Proofs.Tryz.f60.body).getD .skip
def ann60 : Ann := { loops := [], joins := [] }
theorem tie60 (x : ArgsV [.one (.int .u64)]) (K Kp : Value → World → Prop) (w : World) : F.cmp_isNaN_uint64_ env x.1 (fun r1 w' => K (.bool r1) w') w =
 ev Go.Proofs.Tryz.prog (tabC []) (ground Go.Proofs.Tryz.prog) ann60 body60 (finQ Go.Proofs.Tryz.prog Go.Proofs.Tryz.f60 K Kp) (initF (mkArgs [.one (.int .u64)] x)) w := by kernel_rfl
theorem fits60 : FitsOne Go.Proofs.Tryz.prog 60 C60 :=
 fits_of_tie (T := []) (A := ann60) (fn := Go.Proofs.Tryz.f60) (c := body60) fits_nil mixed Go.Proofs.Tryz.func60 Go.Proofs.Tryz.call60 (by kernel_rfl) (by kernel_rfl) (by kernel_rfl) tie60

noncomputable def C29 : Entry := fun args w K Kp => unArgs [.one (.int .u64), .one (.int .u64)] args.toList fun x => F.cmp_Compare_uint64_ env x.1 x.2.1 (fun r1 w' => K (.int .i64 r1) w') w
noncomputable def body29 : Code := (Go.Proofs.Tryz.f29.body).getD .skip
def ann29 : Ann := { loops := [], joins := [] }
def T0.cmp_Compare_uint64_ (E : Env) (c_cmp_isNaN_uint64_ : ∀ (a0 : Int) (K : Bool → World → Prop) (w : World), Prop) (a0 : Int) (a1 : Int) (K : Int → World → Prop) (w : World) : Prop :=
 c_cmp_isNaN_uint64_ a0 (fun r1 w2 =>
 c_cmp_isNaN_uint64_ a1 (fun r3 w4 =>
 CND (r1) (
 CND (r3) (
 K 0 w4
 ) (
 K (-1) w4
 )
 ) (
 CND (r3) (
 K 1 w4
 ) (
 CND (decide ((a0 : Int) < a1)) (
 K (-1) w4
 ) (
 CND (decide ((a0 : Int) > a1)) (
 K 1 w4
 ) (
 K 0 w4
 )
 )
 )
 )
 ) w2
 ) w

theorem tieZ29 (c_cmp_isNaN_uint64_ : ∀ (a0 : Int) (K : Bool → World → Prop) (w : World), Prop) (x : ArgsV [.one (.int .u64), .one (.int .u64)]) (K Kp : Value → World → Prop) (w : World) : T0.cmp_Compare_uint64_ env c_cmp_isNaN_uint64_ x.1 x.2.1 (fun r1 w' => K (.int .i64 r1) w') w =
 ev Go.Proofs.Tryz.prog (tabC [(60, fun args w K Kp => unArgs [.one (.int .u64)] args.toList fun x => c_cmp_isNaN_uint64_ x.1 (fun r1 w' => K (.bool r1) w') w)]) (ground Go.Proofs.Tryz.prog) ann29 body29 (finQ Go.Proofs.Tryz.prog Go.Proofs.Tryz.f29 K Kp) (initF (mkArgs [.one (.int .u64), .one (.int .u64)] x)) w := by kernel_rfl
theorem tie29 (x : ArgsV [.one (.int .u64), .one (.int .u64)]) (K Kp : Value → World → Prop) (w : World) : F.cmp_Compare_uint64_ env x.1 x.2.1 (fun r1 w' => K (.int .i64 r1) w') w =
 ev Go.Proofs.Tryz.prog (tabC [(60, C60)]) (ground Go.Proofs.Tryz.prog) ann29 body29 (finQ Go.Proofs.Tryz.prog Go.Proofs.Tryz.f29 K Kp) (initF (mkArgs [.one (.int .u64), .one (.int .u64)] x)) w := tieZ29 (F.cmp_isNaN_uint64_ env) x K Kp w
theorem fits29 : FitsOne Go.Proofs.Tryz.prog 29 C29 :=
 fits_of_tie (T := [(60, C60)]) (A := ann29) (fn := Go.Proofs.Tryz.f29) (c := body29) (fits_cons fits60 fits_nil) mixed Go.Proofs.Tryz.func29 Go.Proofs.Tryz.call29 (by kernel_rfl) (by kernel_rfl) (by kernel_rfl) tie29

noncomputable def C28 : Entry := fun args w K Kp => unArgs [.one (.int .i64), .one (.int .i64), .one (.ptr)] args.toList fun x => F.mheap_Heap_Spans_1 env x.1 x.2.1 x.2.2.1 (fun r1 w' => K (.int .i64 r1) w') w
noncomputable def body28 : Code := (Go.Proofs.Tryz.f28.body).getD .skip
def ann28 : Ann := { loops := [], joins := [] }
def T0.mheap_Heap_Spans_1 (E : Env) (c_span_Span_Info : ∀ (a0 : (Option Addr)) (K : Int → Int → Int → Int → Bool → Int → Int → Int → Bool → Bool → World → Prop) (w : World), Prop) (c_cmp_Compare_uint64_ : ∀ (a0 : Int) (a1 : Int) (K : Int → World → Prop) (w : World), Prop) (a0 : Int) (a1 : Int) (a2 : (Option Addr)) (K : Int → World → Prop) (w : World) : Prop :=
 NC a2 fun p1 =>
 ∃ x2 : (Option Addr), w.drew.cell? p1 = some (.pointer x2) ∧
 NC x2 fun p3 =>
 ∃ x4 : (Option Nat), w.drew.cell? (p3.add 4) = some (.map x4) ∧
 LKP .i64 a0 x4 w.drew (.pointer none) fun v5 ok6 es7 =>
 ∃ x8 : (Option Addr), v5 = .pointer x8 ∧
 NC a2 fun p9 =>
 ∃ x10 : (Option Addr), w.drew.cell? p9 = some (.pointer x10) ∧
 NC x10 fun p11 =>
 ∃ x12 : (Option Nat), w.drew.cell? (p11.add 4) = some (.map x12) ∧
 LKP .i64 a1 x12 w.drew (.pointer none) fun v13 ok14 es15 =>
 ∃ x16 : (Option Addr), v13 = .pointer x16 ∧
 c_span_Span_Info x8 (fun r17 r18 r19 r20 r21 r22 r23 r24 r25 r26 w27 =>
 Keep.obj x12 es15 w27 ∧
 w27.cell? (p11.add 4) = some (.map x12) ∧
 w27.cell? p9 = some (.pointer x10) ∧
 w27.cell? (p3.add 4) = some (.map x4) ∧
 w27.cell? p1 = some (.pointer x2) ∧
 c_span_Span_Info x16 (fun r28 r29 r30 r31 r32 r33 r34 r35 r36 r37 w38 =>
 w38.cell? (p11.add 4) = some (.map x12) ∧
 w38.cell? p9 = some (.pointer x10) ∧
 w38.cell? (p3.add 4) = some (.map x4) ∧
 w38.cell? p1 = some (.pointer x2) ∧
 c_cmp_Compare_uint64_ r17 r28 (fun r39 w40 =>
 w40.cell? (p11.add 4) = some (.map x12) ∧
 w40.cell? p9 = some (.pointer x10) ∧
 w40.cell? (p3.add 4) = some (.map x4) ∧
 w40.cell? p1 = some (.pointer x2) ∧
 K r39 w40
 ) w38
 ) w27
 ) w.drew

theorem tieZ28 (c_span_Span_Info : ∀ (a0 : (Option Addr)) (K : Int → Int → Int → Int → Bool → Int → Int → Int → Bool → Bool → World → Prop) (w : World), Prop) (c_cmp_Compare_uint64_ : ∀ (a0 : Int) (a1 : Int) (K : Int → World → Prop) (w : World), Prop) (x : ArgsV [.one (.int .i64), .one (.int .i64), .one (.ptr)]) (K Kp : Value → World → Prop) (w : World) : T0.mheap_Heap_Spans_1 env c_span_Span_Info c_cmp_Compare_uint64_ x.1 x.2.1 x.2.2.1 (fun r1 w' => K (.int .i64 r1) w') w =
 ev Go.Proofs.Tryz.prog (tabC [(12, fun args w K Kp => unArgs [.one (.ptr)] args.toList fun x => c_span_Span_Info x.1 (fun r1 r2 r3 r4 r5 r6 r7 r8 r9 r10 w' => K (.agg ⟨[.int .u64 r1, .int .i64 r2, .int .i64 r3, .int .i64 r4, .bool r5, .int .i64 r6, .int .i64 r7, .int .i64 r8, .bool r9, .bool r10]⟩) w') w), (29, fun args w K Kp => unArgs [.one (.int .u64), .one (.int .u64)] args.toList fun x => c_cmp_Compare_uint64_ x.1 x.2.1 (fun r1 w' => K (.int .i64 r1) w') w)]) (ground Go.Proofs.Tryz.prog) ann28 body28 (finQ Go.Proofs.Tryz.prog Go.Proofs.Tryz.f28 K Kp) (initF (mkArgs [.one (.int .i64), .one (.int .i64), .one (.ptr)] x)) w := by kernel_rfl
theorem tie28 (x : ArgsV [.one (.int .i64), .one (.int .i64), .one (.ptr)]) (K Kp : Value → World → Prop) (w : World) : F.mheap_Heap_Spans_1 env x.1 x.2.1 x.2.2.1 (fun r1 w' => K (.int .i64 r1) w') w =
 ev Go.Proofs.Tryz.prog (tabC [(12, C12), (29, C29)]) (ground Go.Proofs.Tryz.prog) ann28 body28 (finQ Go.Proofs.Tryz.prog Go.Proofs.Tryz.f28 K Kp) (initF (mkArgs [.one (.int .i64), .one (.int .i64), .one (.ptr)] x)) w := tieZ28 (F.span_Span_Info env) (F.cmp_Compare_uint64_ env) x K Kp w
theorem fits28 : FitsOne Go.Proofs.Tryz.prog 28 C28 :=
 fits_of_tie (T := [(12, C12), (29, C29)]) (A := ann28) (fn := Go.Proofs.Tryz.f28) (c := body28) (fits_cons fits12 (fits_cons fits29 fits_nil)) mixed Go.Proofs.Tryz.func28 Go.Proofs.Tryz.call28 (by kernel_rfl) (by kernel_rfl) (by kernel_rfl) tie28

noncomputable def C47 : Entry := fun args w K Kp => unArgs [.one (.ptr), .one (.int .u64)] args.toList fun x => F.arena_Map_leaf env x.1 x.2.1 (fun r1 w' => K (.pointer r1) w') w
noncomputable def body47 : Code := (Go.Proofs.Tryz.f47.body).getD .skip
def ann47 : Ann := { loops := [(7, [(25, .one (.int .i64))])], joins := [] }
def T0.arena_Map_leaf (E : Env) (c_arena_Map_whole : ∀ (a0 : (Option Addr)) (a1 : Int) (K : Int → World → Prop) (w : World), Prop) (c_arena_Map_cut : ∀ (a0 : (Option Addr)) (a1 : Int) (a2 : Int) (K : World → Prop) (w : World), Prop) (a0 : (Option Addr)) (a1 : Int) (K : (Option Addr) → World → Prop) (w : World) : Prop :=
 NC a0 fun p1 =>
 ∃ x2 : (Option Nat), w.cell? (p1.add 3) = some (.map x2) ∧
 LKP .u64 a1 x2 w (.pointer none) fun v3 ok4 es5 =>
 ∃ x6 : (Option Addr), v3 = .pointer x6 ∧
 CND (x6.isNone) (
 c_arena_Map_whole a0 a1 (fun r7 w8 =>
 c_arena_Map_cut a0 a1 (u64 (a1 + 1)) (fun  w9 =>
 AL (.cells (Array.replicate 512 (.int .i64 0)) E.t__512_int) w9 fun b10 w11 =>
 LOOP (Int × Unit) (0, ()) w11 fun s12 _ w13 next14 =>
 CND (decide ((s12.1 : Int) < 512)) (
 ((0 : Int) ≤ s12.1 ∧ (s12.1 : Int) < (512 : Nat)) ∧
 stCells ((Addr.mk b10 0 none).add (Int.toNat s12.1 * 1)) 0 [.int .i64 r7] w13 fun w15 =>
 next14 (i64 (s12.1 + 1), ()) w15
 ) (
 NC a0 fun p16 =>
 ∃ x17 : (Option Nat), w13.cell? (p16.add 3) = some (.map x17) ∧
 MUPD .u64 a1 (.pointer (some (Addr.mk b10 0 none))) x17 w13 fun w18 =>
 K (some (Addr.mk b10 0 none)) w18
 )
 ) w8
 ) w
 ) (
 K x6 w
 )

theorem tieZ47 (c_arena_Map_whole : ∀ (a0 : (Option Addr)) (a1 : Int) (K : Int → World → Prop) (w : World), Prop) (c_arena_Map_cut : ∀ (a0 : (Option Addr)) (a1 : Int) (a2 : Int) (K : World → Prop) (w : World), Prop) (x : ArgsV [.one (.ptr), .one (.int .u64)]) (K Kp : Value → World → Prop) (w : World) : T0.arena_Map_leaf env c_arena_Map_whole c_arena_Map_cut x.1 x.2.1 (fun r1 w' => K (.pointer r1) w') w =
 ev Go.Proofs.Tryz.prog (tabC [(68, fun args w K Kp => unArgs [.one (.ptr), .one (.int .u64)] args.toList fun x => c_arena_Map_whole x.1 x.2.1 (fun r1 w' => K (.int .i64 r1) w') w), (45, fun args w K Kp => unArgs [.one (.ptr), .one (.int .u64), .one (.int .u64)] args.toList fun x => c_arena_Map_cut x.1 x.2.1 x.2.2.1 (fun  w' => K (.tuple ⟨[]⟩) w') w)]) (ground Go.Proofs.Tryz.prog) ann47 body47 (finQ Go.Proofs.Tryz.prog Go.Proofs.Tryz.f47 K Kp) (initF (mkArgs [.one (.ptr), .one (.int .u64)] x)) w := by kernel_rfl
theorem tie47 (x : ArgsV [.one (.ptr), .one (.int .u64)]) (K Kp : Value → World → Prop) (w : World) : F.arena_Map_leaf env x.1 x.2.1 (fun r1 w' => K (.pointer r1) w') w =
 ev Go.Proofs.Tryz.prog (tabC [(68, C68), (45, C45)]) (ground Go.Proofs.Tryz.prog) ann47 body47 (finQ Go.Proofs.Tryz.prog Go.Proofs.Tryz.f47 K Kp) (initF (mkArgs [.one (.ptr), .one (.int .u64)] x)) w := tieZ47 (F.arena_Map_whole env) (F.arena_Map_cut env) x K Kp w
theorem fits47 : FitsOne Go.Proofs.Tryz.prog 47 C47 :=
 fits_of_tie (T := [(68, C68), (45, C45)]) (A := ann47) (fn := Go.Proofs.Tryz.f47) (c := body47) (fits_cons fits68 (fits_cons fits45 fits_nil)) mixed Go.Proofs.Tryz.func47 Go.Proofs.Tryz.call47 (by kernel_rfl) (by kernel_rfl) (by kernel_rfl) tie47

noncomputable def C46 : Entry := fun args w K Kp => unArgs [.one (.int .u64), .one (.int .u64), .one (.ptr), .one (.ptr)] args.toList fun x => F.arena_Map_Set_1 env x.1 x.2.1 x.2.2.1 x.2.2.2.1 (fun  w' => K (.tuple ⟨[]⟩) w') w
noncomputable def body46 : Code := (Go.Proofs.Tryz.f46.body).getD .skip
def ann46 : Ann := { loops := [(1, [(6, .one (.int .u64))])], joins := [] }
def T0.arena_Map_Set_1 (E : Env) (c_arena_Map_leaf : ∀ (a0 : (Option Addr)) (a1 : Int) (K : (Option Addr) → World → Prop) (w : World), Prop) (a0 : Int) (a1 : Int) (a2 : (Option Addr)) (a3 : (Option Addr)) (K : World → Prop) (w : World) : Prop :=
 LOOP (Int × Unit) (a0, ()) w fun s1 _ w2 next3 =>
 CND (decide ((s1.1 : Int) < a1)) (
 NC a3 fun p4 =>
 ∃ x5 : (Option Addr), w2.drew.cell? p4 = some (.pointer x5) ∧
 512 ≠ (0 : Int) ∧
 512 ≠ (0 : Int) ∧
 NC a2 fun p6 =>
 ∃ x7 : Int, w2.drew.cell? p6 = some (.int .i64 x7) ∧
 c_arena_Map_leaf x5 (u64 (Int.tdiv s1.1 512)) (fun r8 w9 =>
 w9.cell? p6 = some (.int .i64 x7) ∧
 NC r8 fun p10 =>
 ((0 : Int) ≤ (Int.tmod s1.1 512) ∧ ((Int.tmod s1.1 512) : Int) < (512 : Nat)) ∧
 stCells (p10.add (Int.toNat (Int.tmod s1.1 512) * 1)) 0 [.int .i64 x7] w9 fun w11 =>
 next3 (u64 (s1.1 + 1), ()) w11
 ) w2.drew
 ) (
 K  w2
 )

theorem tieZ46 (c_arena_Map_leaf : ∀ (a0 : (Option Addr)) (a1 : Int) (K : (Option Addr) → World → Prop) (w : World), Prop) (x : ArgsV [.one (.int .u64), .one (.int .u64), .one (.ptr), .one (.ptr)]) (K Kp : Value → World → Prop) (w : World) : T0.arena_Map_Set_1 env c_arena_Map_leaf x.1 x.2.1 x.2.2.1 x.2.2.2.1 (fun  w' => K (.tuple ⟨[]⟩) w') w =
 ev Go.Proofs.Tryz.prog (tabC [(47, fun args w K Kp => unArgs [.one (.ptr), .one (.int .u64)] args.toList fun x => c_arena_Map_leaf x.1 x.2.1 (fun r1 w' => K (.pointer r1) w') w)]) (ground Go.Proofs.Tryz.prog) ann46 body46 (finQ Go.Proofs.Tryz.prog Go.Proofs.Tryz.f46 K Kp) (initF (mkArgs [.one (.int .u64), .one (.int .u64), .one (.ptr), .one (.ptr)] x)) w := by kernel_rfl
theorem tie46 (x : ArgsV [.one (.int .u64), .one (.int .u64), .one (.ptr), .one (.ptr)]) (K Kp : Value → World → Prop) (w : World) : F.arena_Map_Set_1 env x.1 x.2.1 x.2.2.1 x.2.2.2.1 (fun  w' => K (.tuple ⟨[]⟩) w') w =
 ev Go.Proofs.Tryz.prog (tabC [(47, C47)]) (ground Go.Proofs.Tryz.prog) ann46 body46 (finQ Go.Proofs.Tryz.prog Go.Proofs.Tryz.f46 K Kp) (initF (mkArgs [.one (.int .u64), .one (.int .u64), .one (.ptr), .one (.ptr)] x)) w := tieZ46 (F.arena_Map_leaf env) x K Kp w
theorem fits46 : FitsOne Go.Proofs.Tryz.prog 46 C46 :=
 fits_of_tie (T := [(47, C47)]) (A := ann46) (fn := Go.Proofs.Tryz.f46) (c := body46) (fits_cons fits47 fits_nil) mixed Go.Proofs.Tryz.func46 Go.Proofs.Tryz.call46 (by kernel_rfl) (by kernel_rfl) (by kernel_rfl) tie46

noncomputable def C98 : Entry := fun args w K Kp => unArgs [.one (.int .i64), .one (.ptr), .one (.ptr)] args.toList fun x => F.stretch_Set_at_1 env x.1 x.2.1 x.2.2.1 (fun r1 w' => K (.bool r1) w') w
noncomputable def body98 : Code := (Go.Proofs.Tryz.f98.body).getD .skip
def ann98 : Ann := { loops := [], joins := [] }
theorem tie98 (x : ArgsV [.one (.int .i64), .one (.ptr), .one (.ptr)]) (K Kp : Value → World → Prop) (w : World) : F.stretch_Set_at_1 env x.1 x.2.1 x.2.2.1 (fun r1 w' => K (.bool r1) w') w =
 ev Go.Proofs.Tryz.prog (tabC []) (ground Go.Proofs.Tryz.prog) ann98 body98 (finQ Go.Proofs.Tryz.prog Go.Proofs.Tryz.f98 K Kp) (initF (mkArgs [.one (.int .i64), .one (.ptr), .one (.ptr)] x)) w := by kernel_rfl
theorem fits98 : FitsOne Go.Proofs.Tryz.prog 98 C98 :=
 fits_of_tie (T := []) (A := ann98) (fn := Go.Proofs.Tryz.f98) (c := body98) fits_nil mixed Go.Proofs.Tryz.func98 Go.Proofs.Tryz.call98 (by kernel_rfl) (by kernel_rfl) (by kernel_rfl) tie98

end Go.Sh


set_option linter.all false
namespace Go.Sh

theorem at1_mono {E : Env} {i : Int} {p1 p2 : Option Addr} {w : World} {K K' : Bool → World → Prop} (hk : ∀ b w', K b w' → K' b w') (h : F.stretch_Set_at_1 E i p1 p2 K w) : F.stretch_Set_at_1 E i p1 p2 K' w := by
  unfold F.stretch_Set_at_1 at h ⊢
  obtain ⟨q1, rfl, x2, h2, h⟩ := NC_elim h
  obtain ⟨q3, rfl, x4, h4, h⟩ := NC_elim h
  obtain ⟨q5, h5, hi, x6, h6, h⟩ := NC_elim h
  obtain ⟨q7, rfl, x8, h8, h⟩ := NC_elim h
  refine ⟨some q3, h2, x4, h4, ?_⟩
  rw [h5]
  exact ⟨hi, x6, h6, x8, h8, hk _ _ h⟩

theorem ground_mono {P : Program} (g : FuncId) (args : Array Value) (w : World) (K K' : Value → World → Prop) (hk : ∀ v w', K v w' → K' v w') (h : ground P g args w K noP) : ground P g args w K' noP :=
  ⟨h.1, h.2.mono fun e w' hE => let ⟨v, hv, h⟩ := hE.val; .inl ⟨v, hv, hk v w' h⟩⟩

end Go.Sh

