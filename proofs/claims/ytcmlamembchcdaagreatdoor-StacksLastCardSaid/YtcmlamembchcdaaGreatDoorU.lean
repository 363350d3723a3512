/- Each shallow form is what the code of its function comes to: the second half. No further condition. -/
import Derived.Test.YtcmlamembchcdaaGreatDoorT
import Derived.Test.YtcmlamembchcdaaGreatDoorProg
import Derived.KernelRfl
import Derived.Test.YtcmlamembchcdaaGreatDoorS
import Derived.Test.YtcmlamembchcdaaGreatDoorA
import Derived.Calls
set_option linter.all false
set_option maxRecDepth 100000
set_option maxHeartbeats 4000000
namespace Go.Sh
open Go.Proofs

noncomputable def C53 : Entry := fun args w K Kp => unArgs [.one (.ptr), .one (.int .i64)] args.toList fun x => F.span_Span_there env x.1 x.2.1 (fun r1 w' => K (.bool r1) w') w
noncomputable def body53 : Code := (Tryz.f53.body).getD .skip
def ann53 : Ann := { loops := [], joins := [] }
theorem tie53 (x : ArgsV [.one (.ptr), .one (.int .i64)]) (K Kp : Value → World → Prop) (w : World) : F.span_Span_there env x.1 x.2.1 (fun r1 w' => K (.bool r1) w') w =
 ev Tryz.prog (tabC []) (ground Tryz.prog) ann53 body53 (finQ Tryz.prog Tryz.f53 K Kp) (initF (mkArgs [.one (.ptr), .one (.int .i64)] x)) w := by kernel_rfl
theorem fits53 : FitsOne Tryz.prog 53 C53 :=
 fits_of_tie (T := []) (A := ann53) (fn := Tryz.f53) (c := body53) fits_nil mixed Tryz.func53 Tryz.call53 (by kernel_rfl) (by kernel_rfl) (by kernel_rfl) tie53

noncomputable def C69 : Entry := fun args w K Kp => unArgs [.one (.ptr), .one (.int .i64)] args.toList fun x => F.span_Span_Slot env x.1 x.2.1 (fun r1 r2 w' => K (.tuple ⟨[.int .u64 r1, .int .i64 r2]⟩) w') w
noncomputable def body69 : Code := (Tryz.f69.body).getD .skip
def ann69 : Ann := { loops := [], joins := [] }
def T0.span_Span_Slot (E : Env) (c_span_Span_there : ∀ (a0 : (Option Addr)) (a1 : Int) (K : Bool → World → Prop) (w : World), Prop) (a0 : (Option Addr)) (a1 : Int) (K : Int → Int → World → Prop) (w : World) : Prop :=
 c_span_Span_there a0 a1 (fun r1 w2 =>
 CND (!r1) (
 K 0 1 w2
 ) (
 NC a0 fun p3 =>
 ∃ x4 : Int, w2.drew.cell? p3 = some (.int .u64 x4) ∧
 NC a0 fun p5 =>
 ∃ x6 : Int, w2.drew.cell? (p5.add 5) = some (.int .i64 x6) ∧
 LET (u64 (x4 + (u64 ((u64 (a1)) * (u64 (x6))))) : Int) fun t7 =>
 K t7 0 w2.drew
 )
 ) w

theorem tieZ69 (c_span_Span_there : ∀ (a0 : (Option Addr)) (a1 : Int) (K : Bool → World → Prop) (w : World), Prop) (x : ArgsV [.one (.ptr), .one (.int .i64)]) (K Kp : Value → World → Prop) (w : World) : T0.span_Span_Slot env c_span_Span_there x.1 x.2.1 (fun r1 r2 w' => K (.tuple ⟨[.int .u64 r1, .int .i64 r2]⟩) w') w =
 ev Tryz.prog (tabC [(53, fun args w K Kp => unArgs [.one (.ptr), .one (.int .i64)] args.toList fun x => c_span_Span_there x.1 x.2.1 (fun r1 w' => K (.bool r1) w') w)]) (ground Tryz.prog) ann69 body69 (finQ Tryz.prog Tryz.f69 K Kp) (initF (mkArgs [.one (.ptr), .one (.int .i64)] x)) w := by kernel_rfl
theorem tie69 (x : ArgsV [.one (.ptr), .one (.int .i64)]) (K Kp : Value → World → Prop) (w : World) : F.span_Span_Slot env x.1 x.2.1 (fun r1 r2 w' => K (.tuple ⟨[.int .u64 r1, .int .i64 r2]⟩) w') w =
 ev Tryz.prog (tabC [(53, C53)]) (ground Tryz.prog) ann69 body69 (finQ Tryz.prog Tryz.f69 K Kp) (initF (mkArgs [.one (.ptr), .one (.int .i64)] x)) w := tieZ69 (F.span_Span_there env) x K Kp w
theorem fits69 : FitsOne Tryz.prog 69 C69 :=
 fits_of_tie (T := [(53, C53)]) (A := ann69) (fn := Tryz.f69) (c := body69) (fits_cons fits53 fits_nil) mixed Tryz.func69 Tryz.call69 (by kernel_rfl) (by kernel_rfl) (by kernel_rfl) tie69

noncomputable def C49 : Entry := fun args w K Kp => unArgs [.one (.ptr), .one (.int .i64)] args.toList fun x => F.stack_Stacks_take env x.1 x.2.1 (fun r1 r2 w' => K (.tuple ⟨[.int .u64 r1, .int .i64 r2]⟩) w') w
noncomputable def body49 : Code := (Tryz.f49.body).getD .skip
def ann49 : Ann := { loops := [(3, [(6, .one (.ptr))])], joins := [(4, [(23, .one (.bool))]), (6, [(41, .one (.bool))]), (13, [(6, .one (.ptr))])] }
def T0.stack_Stacks_take (E : Env) (c_span_Span_Full : ∀ (a0 : (Option Addr)) (K : Bool → World → Prop) (w : World), Prop) (c_span_Span_Info : ∀ (a0 : (Option Addr)) (K : Int → Int → Int → Int → Bool → Int → Int → Int → Bool → Bool → World → Prop) (w : World), Prop) (c_stack_bytes : ∀ (a0 : Int) (K : Int → World → Prop) (w : World), Prop) (c_mheap_Heap_Manual : ∀ (a0 : (Option Addr)) (a1 : Int) (a2 : Int) (K : Int → Int → World → Prop) (w : World), Prop) (c_mheap_Heap_Span : ∀ (a0 : (Option Addr)) (a1 : Int) (K : (Option Addr) → Int → World → Prop) (w : World), Prop) (c_span_Span_Next : ∀ (a0 : (Option Addr)) (K : Int → Int → World → Prop) (w : World), Prop) (c_span_Span_Slot : ∀ (a0 : (Option Addr)) (a1 : Int) (K : Int → Int → World → Prop) (w : World), Prop) (a0 : (Option Addr)) (a1 : Int) (K : Int → Int → World → Prop) (w : World) : Prop :=
 NC a0 fun p1 =>
 ((0 : Int) ≤ a1 ∧ (a1 : Int) < (4 : Nat)) ∧
 ∃ x2 : (Option Nat), w.cell? ((p1.add 257).add (Int.toNat a1 * 1)) = some (.map x2) ∧
 ∃ cl3, rngAt w x2 cl3 ∧
 AL (rngObj x2 cl3) w fun b4 w5 =>
 LOOP ((Option Addr) × Unit) (none, ()) w5 fun s6 _ w7 next8 =>
 JOIN (Bool × Unit) (fun J9 =>
 NEXT b4 w7 (fun w12 =>
 J9 (false, ()) w12
 ) fun k14 v15 w13 =>
 J9 (true, ()) w13
 ) fun s10 _ w11 =>
 JOIN (Bool × Unit) (fun J16 =>
 CND (s10.1) (
 J16 (s10.1, ()) w11
 ) (
 JOIN ((Option Addr) × Unit) (fun J19 =>
 CND (s6.1.isNone) (
 NC a0 fun p22 =>
 ∃ x23 : (Option Addr), w11.drew.cell? p22 = some (.pointer x23) ∧
 c_stack_bytes a1 (fun r24 w25 =>
 w25.cell? p22 = some (.pointer x23) ∧
 c_mheap_Heap_Manual x23 4 (i64 (r24)) (fun r26 r27 w28 =>
 CND ((r27 : Int) != 0) (
 K 0 r27 w28
 ) (
 NC a0 fun p29 =>
 ∃ x30 : (Option Addr), w28.cell? p29 = some (.pointer x30) ∧
 c_mheap_Heap_Span x30 r26 (fun r31 r32 w33 =>
 NC a0 fun p34 =>
 ((0 : Int) ≤ a1 ∧ (a1 : Int) < (4 : Nat)) ∧
 ∃ x35 : (Option Nat), w33.cell? ((p34.add 257).add (Int.toNat a1 * 1)) = some (.map x35) ∧
 MUPD .i64 r26 (.pointer r31) x35 w33 fun w36 =>
 J19 (r31, ()) w36
 ) w28
 )
 ) w25
 ) w11.drew
 ) (
 J19 (s6.1, ()) w11
 )
 ) fun s20 _ w21 =>
 c_span_Span_Next s20.1 (fun r37 r38 w39 =>
 c_span_Span_Slot s20.1 r37 (fun r40 r41 w42 =>
 K r40 0 w42
 ) w39
 ) w21
 )
 ) fun s17 _ w18 =>
 ENT b4 w18 fun k43 v44 S45 =>
 unPtr v44 fun x46 =>
 JOIN (Bool × Unit) (fun J47 =>
 c_span_Span_Full x46 (fun r50 w51 =>
 CND (!r50) (
 CND (s6.1.isNone) (
 J47 (true, ()) w51
 ) (
 c_span_Span_Info x46 (fun r52 r53 r54 r55 r56 r57 r58 r59 r60 r61 w62 =>
 c_span_Span_Info s6.1 (fun r63 r64 r65 r66 r67 r68 r69 r70 r71 r72 w73 =>
 J47 (decide ((r52 : Int) < r63), ()) w73
 ) w62
 ) w51
 )
 ) (
 J47 (false, ()) w51
 )
 ) w18
 ) fun s48 _ w49 =>
 CND (s48.1) (
 next8 (x46, ()) w49
 ) (
 next8 (s6.1, ()) w49
 )

theorem tieZ49 (c_span_Span_Full : ∀ (a0 : (Option Addr)) (K : Bool → World → Prop) (w : World), Prop) (c_span_Span_Info : ∀ (a0 : (Option Addr)) (K : Int → Int → Int → Int → Bool → Int → Int → Int → Bool → Bool → World → Prop) (w : World), Prop) (c_stack_bytes : ∀ (a0 : Int) (K : Int → World → Prop) (w : World), Prop) (c_mheap_Heap_Manual : ∀ (a0 : (Option Addr)) (a1 : Int) (a2 : Int) (K : Int → Int → World → Prop) (w : World), Prop) (c_mheap_Heap_Span : ∀ (a0 : (Option Addr)) (a1 : Int) (K : (Option Addr) → Int → World → Prop) (w : World), Prop) (c_span_Span_Next : ∀ (a0 : (Option Addr)) (K : Int → Int → World → Prop) (w : World), Prop) (c_span_Span_Slot : ∀ (a0 : (Option Addr)) (a1 : Int) (K : Int → Int → World → Prop) (w : World), Prop) (x : ArgsV [.one (.ptr), .one (.int .i64)]) (K Kp : Value → World → Prop) (w : World) : T0.stack_Stacks_take env c_span_Span_Full c_span_Span_Info c_stack_bytes c_mheap_Heap_Manual c_mheap_Heap_Span c_span_Span_Next c_span_Span_Slot x.1 x.2.1 (fun r1 r2 w' => K (.tuple ⟨[.int .u64 r1, .int .i64 r2]⟩) w') w =
 ev Tryz.prog (tabC [(68, fun args w K Kp => unArgs [.one (.ptr)] args.toList fun x => c_span_Span_Full x.1 (fun r1 w' => K (.bool r1) w') w), (26, fun args w K Kp => unArgs [.one (.ptr)] args.toList fun x => c_span_Span_Info x.1 (fun r1 r2 r3 r4 r5 r6 r7 r8 r9 r10 w' => K (.agg ⟨[.int .u64 r1, .int .i64 r2, .int .i64 r3, .int .i64 r4, .bool r5, .int .i64 r6, .int .i64 r7, .int .i64 r8, .bool r9, .bool r10]⟩) w') w), (48, fun args w K Kp => unArgs [.one (.int .i64)] args.toList fun x => c_stack_bytes x.1 (fun r1 w' => K (.int .u64 r1) w') w), (50, fun args w K Kp => unArgs [.one (.ptr), .one (.int .u64), .one (.int .i64)] args.toList fun x => c_mheap_Heap_Manual x.1 x.2.1 x.2.2.1 (fun r1 r2 w' => K (.tuple ⟨[.int .i64 r1, .int .i64 r2]⟩) w') w), (25, fun args w K Kp => unArgs [.one (.ptr), .one (.int .i64)] args.toList fun x => c_mheap_Heap_Span x.1 x.2.1 (fun r1 r2 w' => K (.tuple ⟨[.pointer r1, .int .i64 r2]⟩) w') w), (51, fun args w K Kp => unArgs [.one (.ptr)] args.toList fun x => c_span_Span_Next x.1 (fun r1 r2 w' => K (.tuple ⟨[.int .i64 r1, .int .i64 r2]⟩) w') w), (69, fun args w K Kp => unArgs [.one (.ptr), .one (.int .i64)] args.toList fun x => c_span_Span_Slot x.1 x.2.1 (fun r1 r2 w' => K (.tuple ⟨[.int .u64 r1, .int .i64 r2]⟩) w') w)]) (ground Tryz.prog) ann49 body49 (finQ Tryz.prog Tryz.f49 K Kp) (initF (mkArgs [.one (.ptr), .one (.int .i64)] x)) w := by kernel_rfl
theorem tie49 (x : ArgsV [.one (.ptr), .one (.int .i64)]) (K Kp : Value → World → Prop) (w : World) : F.stack_Stacks_take env x.1 x.2.1 (fun r1 r2 w' => K (.tuple ⟨[.int .u64 r1, .int .i64 r2]⟩) w') w =
 ev Tryz.prog (tabC [(68, C68), (26, C26), (48, C48), (50, C50), (25, C25), (51, C51), (69, C69)]) (ground Tryz.prog) ann49 body49 (finQ Tryz.prog Tryz.f49 K Kp) (initF (mkArgs [.one (.ptr), .one (.int .i64)] x)) w := tieZ49 (F.span_Span_Full env) (F.span_Span_Info env) (F.stack_bytes env) (F.mheap_Heap_Manual env) (F.mheap_Heap_Span env) (F.span_Span_Next env) (F.span_Span_Slot env) x K Kp w
theorem fits49 : FitsOne Tryz.prog 49 C49 :=
 fits_of_tie (T := [(68, C68), (26, C26), (48, C48), (50, C50), (25, C25), (51, C51), (69, C69)]) (A := ann49) (fn := Tryz.f49) (c := body49) (fits_cons fits68 (fits_cons fits26 (fits_cons fits48 (fits_cons fits50 (fits_cons fits25 (fits_cons fits51 (fits_cons fits69 fits_nil))))))) mixed Tryz.func49 Tryz.call49 (by kernel_rfl) (by kernel_rfl) (by kernel_rfl) tie49

noncomputable def C31 : Entry := fun args w K Kp => unArgs [.one (.ptr)] args.toList fun x => F.stack_row_pop env x.1 (fun r1 w' => K (.int .u64 r1) w') w
noncomputable def body31 : Code := (Tryz.f31.body).getD .skip
def ann31 : Ann := { loops := [], joins := [] }
theorem tie31 (x : ArgsV [.one (.ptr)]) (K Kp : Value → World → Prop) (w : World) : F.stack_row_pop env x.1 (fun r1 w' => K (.int .u64 r1) w') w =
 ev Tryz.prog (tabC []) (ground Tryz.prog) ann31 body31 (finQ Tryz.prog Tryz.f31 K Kp) (initF (mkArgs [.one (.ptr)] x)) w := by kernel_rfl
theorem fits31 : FitsOne Tryz.prog 31 C31 :=
 fits_of_tie (T := []) (A := ann31) (fn := Tryz.f31) (c := body31) fits_nil mixed Tryz.func31 Tryz.call31 (by kernel_rfl) (by kernel_rfl) (by kernel_rfl) tie31

noncomputable def C23 : Entry := fun args w K Kp => unArgs [.one (.ptr), .one (.int .i64), .one (.int .i64)] args.toList fun x => F.stack_Stacks_small env x.1 x.2.1 x.2.2.1 (fun r1 r2 w' => K (.tuple ⟨[.int .u64 r1, .int .i64 r2]⟩) w') w
noncomputable def body23 : Code := (Tryz.f23.body).getD .skip
def ann23 : Ann := { loops := [(4, [(26, .one (.int .u64))])], joins := [(9, [])] }
def T0.stack_Stacks_small (E : Env) (c_stack_bytes : ∀ (a0 : Int) (K : Int → World → Prop) (w : World), Prop) (c_stack_Stacks_take : ∀ (a0 : (Option Addr)) (a1 : Int) (K : Int → Int → World → Prop) (w : World), Prop) (c_stack_row_pop : ∀ (a0 : (Option Addr)) (K : Int → World → Prop) (w : World), Prop) (a0 : (Option Addr)) (a1 : Int) (a2 : Int) (K : Int → Int → World → Prop) (w : World) : Prop :=
 NC a0 fun p1 =>
 ((0 : Int) ≤ a1 ∧ (a1 : Int) < (64 : Nat)) ∧
 ((0 : Int) ≤ a2 ∧ (a2 : Int) < (4 : Nat)) ∧
 JOIN (Unit) (fun J2 =>
 ∃ x5 : SlV, w.cell? (((p1.add 1).add (Int.toNat a1 * 4)).add (Int.toNat a2 * 1)) = some (.slice x5.base x5.len x5.cap) ∧
 CND ((((x5.len : Nat) : Int) : Int) == 0) (
 c_stack_bytes a2 (fun r6 w7 =>
 r6 ≠ (0 : Int) ∧
 LOOP (Int × Unit) (0, ()) w7 fun s8 _ w9 next10 =>
 CND (decide ((s8.1 : Int) < (u64 (Int.tdiv 16384 r6)))) (
 c_stack_Stacks_take a0 a2 (fun r11 r12 w13 =>
 CND ((r12 : Int) != 0) (
 J2 (()) w13
 ) (
 ∃ x14 : SlV, w13.cell? (((p1.add 1).add (Int.toNat a1 * 4)).add (Int.toNat a2 * 1)) = some (.slice x14.base x14.len x14.cap) ∧
 AL (.cells ⟨[.int .u64 r11]⟩ E.t_uint64) w13 fun b15 w16 =>
 APP E.t_uint64 1 8 #[.int .u64 0] x14 ⟨(some (Addr.mk b15 0 none)), 1, 1⟩ w16 fun s17 w18 =>
 stCells (((p1.add 1).add (Int.toNat a1 * 4)).add (Int.toNat a2 * 1)) 0 [.slice s17.base s17.len s17.cap] w18 fun w19 =>
 next10 (u64 (s8.1 + 1), ()) w19
 )
 ) w9
 ) (
 J2 (()) w9
 )
 ) w
 ) (
 J2 (()) w
 )
 ) fun s3 _ w4 =>
 ∃ x20 : SlV, w4.cell? (((p1.add 1).add (Int.toNat a1 * 4)).add (Int.toNat a2 * 1)) = some (.slice x20.base x20.len x20.cap) ∧
 CND ((((x20.len : Nat) : Int) : Int) == 0) (
 K 0 13 w4
 ) (
 c_stack_row_pop (some (((p1.add 1).add (Int.toNat a1 * 4)).add (Int.toNat a2 * 1))) (fun r21 w22 =>
 K r21 0 w22
 ) w4
 )

theorem tieZ23 (c_stack_bytes : ∀ (a0 : Int) (K : Int → World → Prop) (w : World), Prop) (c_stack_Stacks_take : ∀ (a0 : (Option Addr)) (a1 : Int) (K : Int → Int → World → Prop) (w : World), Prop) (c_stack_row_pop : ∀ (a0 : (Option Addr)) (K : Int → World → Prop) (w : World), Prop) (x : ArgsV [.one (.ptr), .one (.int .i64), .one (.int .i64)]) (K Kp : Value → World → Prop) (w : World) : T0.stack_Stacks_small env c_stack_bytes c_stack_Stacks_take c_stack_row_pop x.1 x.2.1 x.2.2.1 (fun r1 r2 w' => K (.tuple ⟨[.int .u64 r1, .int .i64 r2]⟩) w') w =
 ev Tryz.prog (tabC [(48, fun args w K Kp => unArgs [.one (.int .i64)] args.toList fun x => c_stack_bytes x.1 (fun r1 w' => K (.int .u64 r1) w') w), (49, fun args w K Kp => unArgs [.one (.ptr), .one (.int .i64)] args.toList fun x => c_stack_Stacks_take x.1 x.2.1 (fun r1 r2 w' => K (.tuple ⟨[.int .u64 r1, .int .i64 r2]⟩) w') w), (31, fun args w K Kp => unArgs [.one (.ptr)] args.toList fun x => c_stack_row_pop x.1 (fun r1 w' => K (.int .u64 r1) w') w)]) (ground Tryz.prog) ann23 body23 (finQ Tryz.prog Tryz.f23 K Kp) (initF (mkArgs [.one (.ptr), .one (.int .i64), .one (.int .i64)] x)) w := by kernel_rfl
theorem tie23 (x : ArgsV [.one (.ptr), .one (.int .i64), .one (.int .i64)]) (K Kp : Value → World → Prop) (w : World) : F.stack_Stacks_small env x.1 x.2.1 x.2.2.1 (fun r1 r2 w' => K (.tuple ⟨[.int .u64 r1, .int .i64 r2]⟩) w') w =
 ev Tryz.prog (tabC [(48, C48), (49, C49), (31, C31)]) (ground Tryz.prog) ann23 body23 (finQ Tryz.prog Tryz.f23 K Kp) (initF (mkArgs [.one (.ptr), .one (.int .i64), .one (.int .i64)] x)) w := tieZ23 (F.stack_bytes env) (F.stack_Stacks_take env) (F.stack_row_pop env) x K Kp w
theorem fits23 : FitsOne Tryz.prog 23 C23 :=
 fits_of_tie (T := [(48, C48), (49, C49), (31, C31)]) (A := ann23) (fn := Tryz.f23) (c := body23) (fits_cons fits48 (fits_cons fits49 (fits_cons fits31 fits_nil))) mixed Tryz.func23 Tryz.call23 (by kernel_rfl) (by kernel_rfl) (by kernel_rfl) tie23

noncomputable def C24 : Entry := fun args w K Kp => unArgs [.one (.ptr), .one (.int .u64)] args.toList fun x => F.stack_Stacks_large env x.1 x.2.1 (fun r1 r2 w' => K (.tuple ⟨[.int .u64 r1, .int .i64 r2]⟩) w') w
noncomputable def body24 : Code := (Tryz.f24.body).getD .skip
def ann24 : Ann := { loops := [], joins := [] }
def T0.stack_Stacks_large (E : Env) (c_mheap_Heap_Manual : ∀ (a0 : (Option Addr)) (a1 : Int) (a2 : Int) (K : Int → Int → World → Prop) (w : World), Prop) (c_mheap_Heap_Span : ∀ (a0 : (Option Addr)) (a1 : Int) (K : (Option Addr) → Int → World → Prop) (w : World), Prop) (c_span_Span_Next : ∀ (a0 : (Option Addr)) (K : Int → Int → World → Prop) (w : World), Prop) (c_span_Span_Info : ∀ (a0 : (Option Addr)) (K : Int → Int → Int → Int → Bool → Int → Int → Int → Bool → Bool → World → Prop) (w : World), Prop) (a0 : (Option Addr)) (a1 : Int) (K : Int → Int → World → Prop) (w : World) : Prop :=
 NC a0 fun p1 =>
 ∃ x2 : (Option Addr), w.cell? p1 = some (.pointer x2) ∧
 8192 ≠ (0 : Int) ∧
 c_mheap_Heap_Manual x2 (u64 (Int.tdiv a1 8192)) (i64 (a1)) (fun r3 r4 w5 =>
 CND ((r4 : Int) != 0) (
 K 0 r4 w5
 ) (
 NC a0 fun p6 =>
 ∃ x7 : (Option Addr), w5.cell? p6 = some (.pointer x7) ∧
 c_mheap_Heap_Span x7 r3 (fun r8 r9 w10 =>
 c_span_Span_Next r8 (fun r11 r12 w13 =>
 c_span_Span_Info r8 (fun r14 r15 r16 r17 r18 r19 r20 r21 r22 r23 w24 =>
 K r14 0 w24
 ) w13
 ) w10
 ) w5
 )
 ) w

theorem tieZ24 (c_mheap_Heap_Manual : ∀ (a0 : (Option Addr)) (a1 : Int) (a2 : Int) (K : Int → Int → World → Prop) (w : World), Prop) (c_mheap_Heap_Span : ∀ (a0 : (Option Addr)) (a1 : Int) (K : (Option Addr) → Int → World → Prop) (w : World), Prop) (c_span_Span_Next : ∀ (a0 : (Option Addr)) (K : Int → Int → World → Prop) (w : World), Prop) (c_span_Span_Info : ∀ (a0 : (Option Addr)) (K : Int → Int → Int → Int → Bool → Int → Int → Int → Bool → Bool → World → Prop) (w : World), Prop) (x : ArgsV [.one (.ptr), .one (.int .u64)]) (K Kp : Value → World → Prop) (w : World) : T0.stack_Stacks_large env c_mheap_Heap_Manual c_mheap_Heap_Span c_span_Span_Next c_span_Span_Info x.1 x.2.1 (fun r1 r2 w' => K (.tuple ⟨[.int .u64 r1, .int .i64 r2]⟩) w') w =
 ev Tryz.prog (tabC [(50, fun args w K Kp => unArgs [.one (.ptr), .one (.int .u64), .one (.int .i64)] args.toList fun x => c_mheap_Heap_Manual x.1 x.2.1 x.2.2.1 (fun r1 r2 w' => K (.tuple ⟨[.int .i64 r1, .int .i64 r2]⟩) w') w), (25, fun args w K Kp => unArgs [.one (.ptr), .one (.int .i64)] args.toList fun x => c_mheap_Heap_Span x.1 x.2.1 (fun r1 r2 w' => K (.tuple ⟨[.pointer r1, .int .i64 r2]⟩) w') w), (51, fun args w K Kp => unArgs [.one (.ptr)] args.toList fun x => c_span_Span_Next x.1 (fun r1 r2 w' => K (.tuple ⟨[.int .i64 r1, .int .i64 r2]⟩) w') w), (26, fun args w K Kp => unArgs [.one (.ptr)] args.toList fun x => c_span_Span_Info x.1 (fun r1 r2 r3 r4 r5 r6 r7 r8 r9 r10 w' => K (.agg ⟨[.int .u64 r1, .int .i64 r2, .int .i64 r3, .int .i64 r4, .bool r5, .int .i64 r6, .int .i64 r7, .int .i64 r8, .bool r9, .bool r10]⟩) w') w)]) (ground Tryz.prog) ann24 body24 (finQ Tryz.prog Tryz.f24 K Kp) (initF (mkArgs [.one (.ptr), .one (.int .u64)] x)) w := by kernel_rfl
theorem tie24 (x : ArgsV [.one (.ptr), .one (.int .u64)]) (K Kp : Value → World → Prop) (w : World) : F.stack_Stacks_large env x.1 x.2.1 (fun r1 r2 w' => K (.tuple ⟨[.int .u64 r1, .int .i64 r2]⟩) w') w =
 ev Tryz.prog (tabC [(50, C50), (25, C25), (51, C51), (26, C26)]) (ground Tryz.prog) ann24 body24 (finQ Tryz.prog Tryz.f24 K Kp) (initF (mkArgs [.one (.ptr), .one (.int .u64)] x)) w := tieZ24 (F.mheap_Heap_Manual env) (F.mheap_Heap_Span env) (F.span_Span_Next env) (F.span_Span_Info env) x K Kp w
theorem fits24 : FitsOne Tryz.prog 24 C24 :=
 fits_of_tie (T := [(50, C50), (25, C25), (51, C51), (26, C26)]) (A := ann24) (fn := Tryz.f24) (c := body24) (fits_cons fits50 (fits_cons fits25 (fits_cons fits51 (fits_cons fits26 fits_nil)))) mixed Tryz.func24 Tryz.call24 (by kernel_rfl) (by kernel_rfl) (by kernel_rfl) tie24

noncomputable def C9 : Entry := fun args w K Kp => unArgs [.one (.ptr), .one (.int .i64), .one (.int .u64)] args.toList fun x => F.stack_Stacks_Alloc env x.1 x.2.1 x.2.2.1 (fun r1 r2 w' => K (.tuple ⟨[.int .u64 r1, .int .i64 r2]⟩) w') w
noncomputable def body9 : Code := (Tryz.f9.body).getD .skip
def ann9 : Ann := { loops := [], joins := [(2, [(28, .one (.bool))]), (9, [(8, .one (.int .u64)), (9, .one (.int .i64))])] }
def T0.stack_Stacks_Alloc (E : Env) (c_stack_is : ∀ (a0 : Int) (K : Bool → World → Prop) (w : World), Prop) (c_stack_order : ∀ (a0 : Int) (K : Int → World → Prop) (w : World), Prop) (c_stack_Stacks_small : ∀ (a0 : (Option Addr)) (a1 : Int) (a2 : Int) (K : Int → Int → World → Prop) (w : World), Prop) (c_stack_Stacks_large : ∀ (a0 : (Option Addr)) (a1 : Int) (K : Int → Int → World → Prop) (w : World), Prop) (a0 : (Option Addr)) (a1 : Int) (a2 : Int) (K : Int → Int → World → Prop) (w : World) : Prop :=
 JOIN (Bool × Unit) (fun J1 =>
 c_stack_is a1 (fun r4 w5 =>
 CND (!r4) (
 J1 (true, ()) w5
 ) (
 CND (decide ((a2 : Int) < 2048)) (
 J1 (true, ()) w5
 ) (
 CND (decide ((a2 : Int) > 67108864)) (
 J1 (true, ()) w5
 ) (
 J1 (((bitK .u64 0 a2 (u64 (a2 - 1))) : Int) != 0, ()) w5
 )
 )
 )
 ) w
 ) fun s2 _ w3 =>
 CND (s2.1) (
 K 0 1 w3
 ) (
 JOIN (Int × Int × Unit) (fun J6 =>
 c_stack_order a2 (fun r9 w10 =>
 CND (decide ((r9 : Int) < 4)) (
 c_stack_Stacks_small a0 a1 r9 (fun r11 r12 w13 =>
 J6 (r11, r12, ()) w13
 ) w10
 ) (
 c_stack_Stacks_large a0 a2 (fun r14 r15 w16 =>
 J6 (r14, r15, ()) w16
 ) w10
 )
 ) w3
 ) fun s7 _ w8 =>
 CND ((s7.2.1 : Int) == 0) (
 NC a0 fun p17 =>
 ∃ x18 : (Option Nat), w8.cell? (p17.add 261) = some (.map x18) ∧
 MUPD .u64 s7.1 (.int .u64 a2) x18 w8 fun w19 =>
 K s7.1 s7.2.1 w19
 ) (
 K s7.1 s7.2.1 w8
 )
 )

theorem tieZ9 (c_stack_is : ∀ (a0 : Int) (K : Bool → World → Prop) (w : World), Prop) (c_stack_order : ∀ (a0 : Int) (K : Int → World → Prop) (w : World), Prop) (c_stack_Stacks_small : ∀ (a0 : (Option Addr)) (a1 : Int) (a2 : Int) (K : Int → Int → World → Prop) (w : World), Prop) (c_stack_Stacks_large : ∀ (a0 : (Option Addr)) (a1 : Int) (K : Int → Int → World → Prop) (w : World), Prop) (x : ArgsV [.one (.ptr), .one (.int .i64), .one (.int .u64)]) (K Kp : Value → World → Prop) (w : World) : T0.stack_Stacks_Alloc env c_stack_is c_stack_order c_stack_Stacks_small c_stack_Stacks_large x.1 x.2.1 x.2.2.1 (fun r1 r2 w' => K (.tuple ⟨[.int .u64 r1, .int .i64 r2]⟩) w') w =
 ev Tryz.prog (tabC [(21, fun args w K Kp => unArgs [.one (.int .i64)] args.toList fun x => c_stack_is x.1 (fun r1 w' => K (.bool r1) w') w), (22, fun args w K Kp => unArgs [.one (.int .u64)] args.toList fun x => c_stack_order x.1 (fun r1 w' => K (.int .i64 r1) w') w), (23, fun args w K Kp => unArgs [.one (.ptr), .one (.int .i64), .one (.int .i64)] args.toList fun x => c_stack_Stacks_small x.1 x.2.1 x.2.2.1 (fun r1 r2 w' => K (.tuple ⟨[.int .u64 r1, .int .i64 r2]⟩) w') w), (24, fun args w K Kp => unArgs [.one (.ptr), .one (.int .u64)] args.toList fun x => c_stack_Stacks_large x.1 x.2.1 (fun r1 r2 w' => K (.tuple ⟨[.int .u64 r1, .int .i64 r2]⟩) w') w)]) (ground Tryz.prog) ann9 body9 (finQ Tryz.prog Tryz.f9 K Kp) (initF (mkArgs [.one (.ptr), .one (.int .i64), .one (.int .u64)] x)) w := by kernel_rfl
theorem tie9 (x : ArgsV [.one (.ptr), .one (.int .i64), .one (.int .u64)]) (K Kp : Value → World → Prop) (w : World) : F.stack_Stacks_Alloc env x.1 x.2.1 x.2.2.1 (fun r1 r2 w' => K (.tuple ⟨[.int .u64 r1, .int .i64 r2]⟩) w') w =
 ev Tryz.prog (tabC [(21, C21), (22, C22), (23, C23), (24, C24)]) (ground Tryz.prog) ann9 body9 (finQ Tryz.prog Tryz.f9 K Kp) (initF (mkArgs [.one (.ptr), .one (.int .i64), .one (.int .u64)] x)) w := tieZ9 (F.stack_is env) (F.stack_order env) (F.stack_Stacks_small env) (F.stack_Stacks_large env) x K Kp w
theorem fits9 : FitsOne Tryz.prog 9 C9 :=
 fits_of_tie (T := [(21, C21), (22, C22), (23, C23), (24, C24)]) (A := ann9) (fn := Tryz.f9) (c := body9) (fits_cons fits21 (fits_cons fits22 (fits_cons fits23 (fits_cons fits24 fits_nil)))) mixed Tryz.func9 Tryz.call9 (by kernel_rfl) (by kernel_rfl) (by kernel_rfl) tie9

noncomputable def C92 : Entry := fun args w K Kp => unArgs [.one (.int .u32)] args.toList fun x => F.math_bits_Len32 env x.1 (fun r1 w' => K (.int .i64 r1) w') w
noncomputable def body92 : Code := (Tryz.f92.body).getD .skip
def ann92 : Ann := { loops := [], joins := [(4, [(0, .one (.int .u32)), (2, .one (.int .i64))]), (7, [(0, .one (.int .u32)), (2, .one (.int .i64))])] }
theorem tie92 (x : ArgsV [.one (.int .u32)]) (K Kp : Value → World → Prop) (w : World) : F.math_bits_Len32 env x.1 (fun r1 w' => K (.int .i64 r1) w') w =
 ev Tryz.prog (tabC []) (ground Tryz.prog) ann92 body92 (finQ Tryz.prog Tryz.f92 K Kp) (initF (mkArgs [.one (.int .u32)] x)) w := by kernel_rfl
theorem fits92 : FitsOne Tryz.prog 92 C92 :=
 fits_of_tie (T := []) (A := ann92) (fn := Tryz.f92) (c := body92) fits_nil mixed Tryz.func92 Tryz.call92 (by kernel_rfl) (by kernel_rfl) (by kernel_rfl) tie92

noncomputable def C93 : Entry := fun args w K Kp => unArgs [.one (.int .u64)] args.toList fun x => F.math_bits_Len64 env x.1 (fun r1 w' => K (.int .i64 r1) w') w
noncomputable def body93 : Code := (Tryz.f93.body).getD .skip
def ann93 : Ann := { loops := [], joins := [(4, [(0, .one (.int .u64)), (2, .one (.int .i64))]), (7, [(0, .one (.int .u64)), (2, .one (.int .i64))]), (10, [(0, .one (.int .u64)), (2, .one (.int .i64))])] }
theorem tie93 (x : ArgsV [.one (.int .u64)]) (K Kp : Value → World → Prop) (w : World) : F.math_bits_Len64 env x.1 (fun r1 w' => K (.int .i64 r1) w') w =
 ev Tryz.prog (tabC []) (ground Tryz.prog) ann93 body93 (finQ Tryz.prog Tryz.f93 K Kp) (initF (mkArgs [.one (.int .u64)] x)) w := by kernel_rfl
theorem fits93 : FitsOne Tryz.prog 93 C93 :=
 fits_of_tie (T := []) (A := ann93) (fn := Tryz.f93) (c := body93) fits_nil mixed Tryz.func93 Tryz.call93 (by kernel_rfl) (by kernel_rfl) (by kernel_rfl) tie93

noncomputable def C65 : Entry := fun args w K Kp => unArgs [.one (.int .u64)] args.toList fun x => F.math_bits_Len env x.1 (fun r1 w' => K (.int .i64 r1) w') w
noncomputable def body65 : Code := (Tryz.f65.body).getD .skip
def ann65 : Ann := { loops := [], joins := [] }
def T0.math_bits_Len (E : Env) (c_math_bits_Len64 : ∀ (a0 : Int) (K : Int → World → Prop) (w : World), Prop) (a0 : Int) (K : Int → World → Prop) (w : World) : Prop :=
 c_math_bits_Len64 a0 (fun r1 w2 =>
 K r1 w2
 ) w

theorem tieZ65 (c_math_bits_Len64 : ∀ (a0 : Int) (K : Int → World → Prop) (w : World), Prop) (x : ArgsV [.one (.int .u64)]) (K Kp : Value → World → Prop) (w : World) : T0.math_bits_Len env c_math_bits_Len64 x.1 (fun r1 w' => K (.int .i64 r1) w') w =
 ev Tryz.prog (tabC [(92, C92), (93, fun args w K Kp => unArgs [.one (.int .u64)] args.toList fun x => c_math_bits_Len64 x.1 (fun r1 w' => K (.int .i64 r1) w') w)]) (ground Tryz.prog) ann65 body65 (finQ Tryz.prog Tryz.f65 K Kp) (initF (mkArgs [.one (.int .u64)] x)) w := by kernel_rfl
theorem tie65 (x : ArgsV [.one (.int .u64)]) (K Kp : Value → World → Prop) (w : World) : F.math_bits_Len env x.1 (fun r1 w' => K (.int .i64 r1) w') w =
 ev Tryz.prog (tabC [(92, C92), (93, C93)]) (ground Tryz.prog) ann65 body65 (finQ Tryz.prog Tryz.f65 K Kp) (initF (mkArgs [.one (.int .u64)] x)) w := tieZ65 (F.math_bits_Len64 env) x K Kp w
theorem fits65 : FitsOne Tryz.prog 65 C65 :=
 fits_of_tie (T := [(92, C92), (93, C93)]) (A := ann65) (fn := Tryz.f65) (c := body65) (fits_cons fits92 (fits_cons fits93 fits_nil)) mixed Tryz.func65 Tryz.call65 (by kernel_rfl) (by kernel_rfl) (by kernel_rfl) tie65

noncomputable def C84 : Entry := fun args w K Kp => unArgs [.one (.sl), .one (.int .i64), .one (.int .i64), .one (.any)] args.toList fun x => F.slices_insertionSortCmpFunc_int_ env x.1 x.2.1 x.2.2.1 x.2.2.2.1 (fun  w' => K (.tuple ⟨[]⟩) w') w
noncomputable def body84 : Code := (Tryz.f84.body).getD .skip
def ann84 : Ann := { loops := [(1, [(8, .one (.int .i64))]), (4, [(9, .one (.int .i64))])], joins := [] }
theorem tie84 (x : ArgsV [.one (.sl), .one (.int .i64), .one (.int .i64), .one (.any)]) (K Kp : Value → World → Prop) (w : World) : F.slices_insertionSortCmpFunc_int_ env x.1 x.2.1 x.2.2.1 x.2.2.2.1 (fun  w' => K (.tuple ⟨[]⟩) w') w =
 ev Tryz.prog (tabC []) (ground Tryz.prog) ann84 body84 (finQ Tryz.prog Tryz.f84 K Kp) (initF (mkArgs [.one (.sl), .one (.int .i64), .one (.int .i64), .one (.any)] x)) w := by kernel_rfl
theorem fits84 : FitsOne Tryz.prog 84 C84 :=
 fits_of_tie (T := []) (A := ann84) (fn := Tryz.f84) (c := body84) fits_nil mixed Tryz.func84 Tryz.call84 (by kernel_rfl) (by kernel_rfl) (by kernel_rfl) tie84

noncomputable def C105 : Entry := fun args w K Kp => unArgs [.one (.sl), .one (.int .i64), .one (.int .i64), .one (.int .i64), .one (.any)] args.toList fun x => F.slices_siftDownCmpFunc_int_ env x.1 x.2.1 x.2.2.1 x.2.2.2.1 x.2.2.2.2.1 (fun  w' => K (.tuple ⟨[]⟩) w') w
noncomputable def body105 : Code := (Tryz.f105.body).getD .skip
def ann105 : Ann := { loops := [(1, [(10, .one (.int .i64))])], joins := [(4, [(40, .one (.bool))]), (5, [(11, .one (.int .i64))])] }
theorem tie105 (x : ArgsV [.one (.sl), .one (.int .i64), .one (.int .i64), .one (.int .i64), .one (.any)]) (K Kp : Value → World → Prop) (w : World) : F.slices_siftDownCmpFunc_int_ env x.1 x.2.1 x.2.2.1 x.2.2.2.1 x.2.2.2.2.1 (fun  w' => K (.tuple ⟨[]⟩) w') w =
 ev Tryz.prog (tabC []) (ground Tryz.prog) ann105 body105 (finQ Tryz.prog Tryz.f105 K Kp) (initF (mkArgs [.one (.sl), .one (.int .i64), .one (.int .i64), .one (.int .i64), .one (.any)] x)) w := by kernel_rfl
theorem fits105 : FitsOne Tryz.prog 105 C105 :=
 fits_of_tie (T := []) (A := ann105) (fn := Tryz.f105) (c := body105) fits_nil mixed Tryz.func105 Tryz.call105 (by kernel_rfl) (by kernel_rfl) (by kernel_rfl) tie105

noncomputable def C85 : Entry := fun args w K Kp => unArgs [.one (.sl), .one (.int .i64), .one (.int .i64), .one (.any)] args.toList fun x => F.slices_heapSortCmpFunc_int_ env x.1 x.2.1 x.2.2.1 x.2.2.2.1 (fun  w' => K (.tuple ⟨[]⟩) w') w
noncomputable def body85 : Code := (Tryz.f85.body).getD .skip
def ann85 : Ann := { loops := [(4, [(11, .one (.int .i64))]), (8, [(12, .one (.int .i64))])], joins := [] }
def T0.slices_heapSortCmpFunc_int_ (E : Env) (c_slices_siftDownCmpFunc_int_ : ∀ (a0 : SlV) (a1 : Int) (a2 : Int) (a3 : Int) (a4 : Value) (K : World → Prop) (w : World), Prop) (a0 : SlV) (a1 : Int) (a2 : Int) (a3 : Value) (K : World → Prop) (w : World) : Prop :=
 2 ≠ (0 : Int) ∧
 LET (i64 (Int.tdiv (i64 ((i64 (a2 - a1)) - 1)) 2) : Int) fun i_1 =>
 LOOP (Int × Unit) (i_1, ()) w fun s2 _ w3 next4 =>
 CND (decide ((s2.1 : Int) ≥ 0)) (
 c_slices_siftDownCmpFunc_int_ a0 s2.1 (i64 (a2 - a1)) a1 a3 (fun  w5 =>
 next4 (i64 (s2.1 - 1), ()) w5
 ) w3
 ) (
 LET (i64 ((i64 (a2 - a1)) - 1) : Int) fun i_6 =>
 LOOP (Int × Unit) (i_6, ()) w3 fun s7 _ w8 next9 =>
 CND (decide ((s7.1 : Int) ≥ 0)) (
 NC a0.base fun p10 =>
 ((0 : Int) ≤ (i64 (a1 + s7.1)) ∧ ((i64 (a1 + s7.1)) : Int) < (a0.len : Nat)) ∧
 ∃ x11 : Int, w8.drew.cell? (p10.add (Int.toNat (i64 (a1 + s7.1)) * 1)) = some (.int .i64 x11) ∧
 NC a0.base fun p12 =>
 ((0 : Int) ≤ a1 ∧ (a1 : Int) < (a0.len : Nat)) ∧
 ∃ x13 : Int, w8.drew.cell? (p12.add (Int.toNat a1 * 1)) = some (.int .i64 x13) ∧
 NC a0.base fun p14 =>
 ((0 : Int) ≤ a1 ∧ (a1 : Int) < (a0.len : Nat)) ∧
 stCells (p14.add (Int.toNat a1 * 1)) 0 [.int .i64 x11] w8.drew fun w15 =>
 NC a0.base fun p16 =>
 ((0 : Int) ≤ (i64 (a1 + s7.1)) ∧ ((i64 (a1 + s7.1)) : Int) < (a0.len : Nat)) ∧
 stCells (p16.add (Int.toNat (i64 (a1 + s7.1)) * 1)) 0 [.int .i64 x13] w15 fun w17 =>
 c_slices_siftDownCmpFunc_int_ a0 0 s7.1 a1 a3 (fun  w18 =>
 next9 (i64 (s7.1 - 1), ()) w18
 ) w17
 ) (
 K  w8
 )
 )

theorem tieZ85 (c_slices_siftDownCmpFunc_int_ : ∀ (a0 : SlV) (a1 : Int) (a2 : Int) (a3 : Int) (a4 : Value) (K : World → Prop) (w : World), Prop) (x : ArgsV [.one (.sl), .one (.int .i64), .one (.int .i64), .one (.any)]) (K Kp : Value → World → Prop) (w : World) : T0.slices_heapSortCmpFunc_int_ env c_slices_siftDownCmpFunc_int_ x.1 x.2.1 x.2.2.1 x.2.2.2.1 (fun  w' => K (.tuple ⟨[]⟩) w') w =
 ev Tryz.prog (tabC [(105, fun args w K Kp => unArgs [.one (.sl), .one (.int .i64), .one (.int .i64), .one (.int .i64), .one (.any)] args.toList fun x => c_slices_siftDownCmpFunc_int_ x.1 x.2.1 x.2.2.1 x.2.2.2.1 x.2.2.2.2.1 (fun  w' => K (.tuple ⟨[]⟩) w') w)]) (ground Tryz.prog) ann85 body85 (finQ Tryz.prog Tryz.f85 K Kp) (initF (mkArgs [.one (.sl), .one (.int .i64), .one (.int .i64), .one (.any)] x)) w := by kernel_rfl
theorem tie85 (x : ArgsV [.one (.sl), .one (.int .i64), .one (.int .i64), .one (.any)]) (K Kp : Value → World → Prop) (w : World) : F.slices_heapSortCmpFunc_int_ env x.1 x.2.1 x.2.2.1 x.2.2.2.1 (fun  w' => K (.tuple ⟨[]⟩) w') w =
 ev Tryz.prog (tabC [(105, C105)]) (ground Tryz.prog) ann85 body85 (finQ Tryz.prog Tryz.f85 K Kp) (initF (mkArgs [.one (.sl), .one (.int .i64), .one (.int .i64), .one (.any)] x)) w := tieZ85 (F.slices_siftDownCmpFunc_int_ env) x K Kp w
theorem fits85 : FitsOne Tryz.prog 85 C85 :=
 fits_of_tie (T := [(105, C105)]) (A := ann85) (fn := Tryz.f85) (c := body85) (fits_cons fits105 fits_nil) mixed Tryz.func85 Tryz.call85 (by kernel_rfl) (by kernel_rfl) (by kernel_rfl) tie85

noncomputable def C106 : Entry := fun args w K Kp => unArgs [.one (.int .i64)] args.toList fun x => F.slices_nextPowerOfTwo env x.1 (fun r1 w' => K (.int .u64 r1) w') w
noncomputable def body106 : Code := (Tryz.f106.body).getD .skip
def ann106 : Ann := { loops := [], joins := [] }
def T0.slices_nextPowerOfTwo (E : Env) (c_math_bits_Len : ∀ (a0 : Int) (K : Int → World → Prop) (w : World), Prop) (a0 : Int) (K : Int → World → Prop) (w : World) : Prop :=
 c_math_bits_Len (u64 (a0)) (fun r1 w2 =>
 (0 : Int) ≤ r1 ∧
 LET (u64 (1 * 2 ^ (min (Int.toNat r1) (IntKind.bits .u64))) : Int) fun t3 =>
 K t3 w2
 ) w

theorem tieZ106 (c_math_bits_Len : ∀ (a0 : Int) (K : Int → World → Prop) (w : World), Prop) (x : ArgsV [.one (.int .i64)]) (K Kp : Value → World → Prop) (w : World) : T0.slices_nextPowerOfTwo env c_math_bits_Len x.1 (fun r1 w' => K (.int .u64 r1) w') w =
 ev Tryz.prog (tabC [(65, fun args w K Kp => unArgs [.one (.int .u64)] args.toList fun x => c_math_bits_Len x.1 (fun r1 w' => K (.int .i64 r1) w') w)]) (ground Tryz.prog) ann106 body106 (finQ Tryz.prog Tryz.f106 K Kp) (initF (mkArgs [.one (.int .i64)] x)) w := by kernel_rfl
theorem tie106 (x : ArgsV [.one (.int .i64)]) (K Kp : Value → World → Prop) (w : World) : F.slices_nextPowerOfTwo env x.1 (fun r1 w' => K (.int .u64 r1) w') w =
 ev Tryz.prog (tabC [(65, C65)]) (ground Tryz.prog) ann106 body106 (finQ Tryz.prog Tryz.f106 K Kp) (initF (mkArgs [.one (.int .i64)] x)) w := tieZ106 (F.math_bits_Len env) x K Kp w
theorem fits106 : FitsOne Tryz.prog 106 C106 :=
 fits_of_tie (T := [(65, C65)]) (A := ann106) (fn := Tryz.f106) (c := body106) (fits_cons fits65 fits_nil) mixed Tryz.func106 Tryz.call106 (by kernel_rfl) (by kernel_rfl) (by kernel_rfl) tie106

noncomputable def C107 : Entry := fun args w K Kp => unArgs [.one (.ptr)] args.toList fun x => F.slices_xorshift_Next env x.1 (fun r1 w' => K (.int .u64 r1) w') w
noncomputable def body107 : Code := (Tryz.f107.body).getD .skip
def ann107 : Ann := { loops := [], joins := [] }
theorem tie107 (x : ArgsV [.one (.ptr)]) (K Kp : Value → World → Prop) (w : World) : F.slices_xorshift_Next env x.1 (fun r1 w' => K (.int .u64 r1) w') w =
 ev Tryz.prog (tabC []) (ground Tryz.prog) ann107 body107 (finQ Tryz.prog Tryz.f107 K Kp) (initF (mkArgs [.one (.ptr)] x)) w := by kernel_rfl
theorem fits107 : FitsOne Tryz.prog 107 C107 :=
 fits_of_tie (T := []) (A := ann107) (fn := Tryz.f107) (c := body107) fits_nil mixed Tryz.func107 Tryz.call107 (by kernel_rfl) (by kernel_rfl) (by kernel_rfl) tie107

noncomputable def C86 : Entry := fun args w K Kp => unArgs [.one (.sl), .one (.int .i64), .one (.int .i64), .one (.any)] args.toList fun x => F.slices_breakPatternsCmpFunc_int_ env x.1 x.2.1 x.2.2.1 x.2.2.2.1 (fun  w' => K (.tuple ⟨[]⟩) w') w
noncomputable def body86 : Code := (Tryz.f86.body).getD .skip
def ann86 : Ann := { loops := [(5, [(11, .one (.int .i64))])], joins := [(10, [(12, .one (.int .i64))])] }
def T0.slices_breakPatternsCmpFunc_int_ (E : Env) (c_slices_nextPowerOfTwo : ∀ (a0 : Int) (K : Int → World → Prop) (w : World), Prop) (c_slices_xorshift_Next : ∀ (a0 : (Option Addr)) (K : Int → World → Prop) (w : World), Prop) (a0 : SlV) (a1 : Int) (a2 : Int) (a3 : Value) (K : World → Prop) (w : World) : Prop :=
 CND (decide (((i64 (a2 - a1)) : Int) ≥ 8)) (
 AL (.cells #[.int .u64 0] E.t_slices_xorshift) w fun b1 w2 =>
 stCells (Addr.mk b1 0 none) 0 [.int .u64 (u64 (i64 (a2 - a1)))] w2 fun w3 =>
 c_slices_nextPowerOfTwo (i64 (a2 - a1)) (fun r4 w5 =>
 4 ≠ (0 : Int) ∧
 LET (i64 ((i64 (a1 + (i64 ((i64 (Int.tdiv (i64 (a2 - a1)) 4)) * 2)))) - 1) : Int) fun idx_6 =>
 LOOP (Int × Unit) (idx_6, ()) w5 fun s7 _ w8 next9 =>
 4 ≠ (0 : Int) ∧
 CND (decide ((s7.1 : Int) ≤ (i64 ((i64 (a1 + (i64 ((i64 (Int.tdiv (i64 (a2 - a1)) 4)) * 2)))) + 1)))) (
 c_slices_xorshift_Next (some (Addr.mk b1 0 none)) (fun r10 w11 =>
 LET (i64 (bitK .u64 0 r10 (u64 (r4 - 1))) : Int) fun other_12 =>
 JOIN (Int × Unit) (fun J13 =>
 CND (decide ((other_12 : Int) ≥ (i64 (a2 - a1)))) (
 LET (i64 (other_12 - (i64 (a2 - a1))) : Int) fun other_16 =>
 J13 (other_16, ()) w11
 ) (
 J13 (other_12, ()) w11
 )
 ) fun s14 _ w15 =>
 NC a0.base fun p17 =>
 ((0 : Int) ≤ (i64 (a1 + s14.1)) ∧ ((i64 (a1 + s14.1)) : Int) < (a0.len : Nat)) ∧
 ∃ x18 : Int, w15.drew.cell? (p17.add (Int.toNat (i64 (a1 + s14.1)) * 1)) = some (.int .i64 x18) ∧
 NC a0.base fun p19 =>
 ((0 : Int) ≤ s7.1 ∧ (s7.1 : Int) < (a0.len : Nat)) ∧
 ∃ x20 : Int, w15.drew.cell? (p19.add (Int.toNat s7.1 * 1)) = some (.int .i64 x20) ∧
 NC a0.base fun p21 =>
 ((0 : Int) ≤ s7.1 ∧ (s7.1 : Int) < (a0.len : Nat)) ∧
 stCells (p21.add (Int.toNat s7.1 * 1)) 0 [.int .i64 x18] w15.drew fun w22 =>
 NC a0.base fun p23 =>
 ((0 : Int) ≤ (i64 (a1 + s14.1)) ∧ ((i64 (a1 + s14.1)) : Int) < (a0.len : Nat)) ∧
 stCells (p23.add (Int.toNat (i64 (a1 + s14.1)) * 1)) 0 [.int .i64 x20] w22 fun w24 =>
 next9 (i64 (s7.1 + 1), ()) w24
 ) w8
 ) (
 K  w8
 )
 ) w3
 ) (
 K  w
 )

theorem tieZ86 (c_slices_nextPowerOfTwo : ∀ (a0 : Int) (K : Int → World → Prop) (w : World), Prop) (c_slices_xorshift_Next : ∀ (a0 : (Option Addr)) (K : Int → World → Prop) (w : World), Prop) (x : ArgsV [.one (.sl), .one (.int .i64), .one (.int .i64), .one (.any)]) (K Kp : Value → World → Prop) (w : World) : T0.slices_breakPatternsCmpFunc_int_ env c_slices_nextPowerOfTwo c_slices_xorshift_Next x.1 x.2.1 x.2.2.1 x.2.2.2.1 (fun  w' => K (.tuple ⟨[]⟩) w') w =
 ev Tryz.prog (tabC [(106, fun args w K Kp => unArgs [.one (.int .i64)] args.toList fun x => c_slices_nextPowerOfTwo x.1 (fun r1 w' => K (.int .u64 r1) w') w), (107, fun args w K Kp => unArgs [.one (.ptr)] args.toList fun x => c_slices_xorshift_Next x.1 (fun r1 w' => K (.int .u64 r1) w') w)]) (ground Tryz.prog) ann86 body86 (finQ Tryz.prog Tryz.f86 K Kp) (initF (mkArgs [.one (.sl), .one (.int .i64), .one (.int .i64), .one (.any)] x)) w := by kernel_rfl
theorem tie86 (x : ArgsV [.one (.sl), .one (.int .i64), .one (.int .i64), .one (.any)]) (K Kp : Value → World → Prop) (w : World) : F.slices_breakPatternsCmpFunc_int_ env x.1 x.2.1 x.2.2.1 x.2.2.2.1 (fun  w' => K (.tuple ⟨[]⟩) w') w =
 ev Tryz.prog (tabC [(106, C106), (107, C107)]) (ground Tryz.prog) ann86 body86 (finQ Tryz.prog Tryz.f86 K Kp) (initF (mkArgs [.one (.sl), .one (.int .i64), .one (.int .i64), .one (.any)] x)) w := tieZ86 (F.slices_nextPowerOfTwo env) (F.slices_xorshift_Next env) x K Kp w
theorem fits86 : FitsOne Tryz.prog 86 C86 :=
 fits_of_tie (T := [(106, C106), (107, C107)]) (A := ann86) (fn := Tryz.f86) (c := body86) (fits_cons fits106 (fits_cons fits107 fits_nil)) mixed Tryz.func86 Tryz.call86 (by kernel_rfl) (by kernel_rfl) (by kernel_rfl) tie86

noncomputable def C125 : Entry := fun args w K Kp => unArgs [.one (.sl), .one (.int .i64), .one (.int .i64), .one (.ptr), .one (.any)] args.toList fun x => F.slices_order2CmpFunc_int_ env x.1 x.2.1 x.2.2.1 x.2.2.2.1 x.2.2.2.2.1 (fun r1 r2 w' => K (.tuple ⟨[.int .i64 r1, .int .i64 r2]⟩) w') w
noncomputable def body125 : Code := (Tryz.f125.body).getD .skip
def ann125 : Ann := { loops := [], joins := [] }
theorem tie125 (x : ArgsV [.one (.sl), .one (.int .i64), .one (.int .i64), .one (.ptr), .one (.any)]) (K Kp : Value → World → Prop) (w : World) : F.slices_order2CmpFunc_int_ env x.1 x.2.1 x.2.2.1 x.2.2.2.1 x.2.2.2.2.1 (fun r1 r2 w' => K (.tuple ⟨[.int .i64 r1, .int .i64 r2]⟩) w') w =
 ev Tryz.prog (tabC []) (ground Tryz.prog) ann125 body125 (finQ Tryz.prog Tryz.f125 K Kp) (initF (mkArgs [.one (.sl), .one (.int .i64), .one (.int .i64), .one (.ptr), .one (.any)] x)) w := by kernel_rfl
theorem fits125 : FitsOne Tryz.prog 125 C125 :=
 fits_of_tie (T := []) (A := ann125) (fn := Tryz.f125) (c := body125) fits_nil mixed Tryz.func125 Tryz.call125 (by kernel_rfl) (by kernel_rfl) (by kernel_rfl) tie125

noncomputable def C109 : Entry := fun args w K Kp => unArgs [.one (.sl), .one (.int .i64), .one (.int .i64), .one (.int .i64), .one (.ptr), .one (.any)] args.toList fun x => F.slices_medianCmpFunc_int_ env x.1 x.2.1 x.2.2.1 x.2.2.2.1 x.2.2.2.2.1 x.2.2.2.2.2.1 (fun r1 w' => K (.int .i64 r1) w') w
noncomputable def body109 : Code := (Tryz.f109.body).getD .skip
def ann109 : Ann := { loops := [], joins := [] }
def T0.slices_medianCmpFunc_int_ (E : Env) (c_slices_order2CmpFunc_int_ : ∀ (a0 : SlV) (a1 : Int) (a2 : Int) (a3 : (Option Addr)) (a4 : Value) (K : Int → Int → World → Prop) (w : World), Prop) (a0 : SlV) (a1 : Int) (a2 : Int) (a3 : Int) (a4 : (Option Addr)) (a5 : Value) (K : Int → World → Prop) (w : World) : Prop :=
 c_slices_order2CmpFunc_int_ a0 a1 a2 a4 a5 (fun r1 r2 w3 =>
 c_slices_order2CmpFunc_int_ a0 r2 a3 a4 a5 (fun r4 r5 w6 =>
 c_slices_order2CmpFunc_int_ a0 r1 r4 a4 a5 (fun r7 r8 w9 =>
 K r8 w9
 ) w6
 ) w3
 ) w

theorem tieZ109 (c_slices_order2CmpFunc_int_ : ∀ (a0 : SlV) (a1 : Int) (a2 : Int) (a3 : (Option Addr)) (a4 : Value) (K : Int → Int → World → Prop) (w : World), Prop) (x : ArgsV [.one (.sl), .one (.int .i64), .one (.int .i64), .one (.int .i64), .one (.ptr), .one (.any)]) (K Kp : Value → World → Prop) (w : World) : T0.slices_medianCmpFunc_int_ env c_slices_order2CmpFunc_int_ x.1 x.2.1 x.2.2.1 x.2.2.2.1 x.2.2.2.2.1 x.2.2.2.2.2.1 (fun r1 w' => K (.int .i64 r1) w') w =
 ev Tryz.prog (tabC [(125, fun args w K Kp => unArgs [.one (.sl), .one (.int .i64), .one (.int .i64), .one (.ptr), .one (.any)] args.toList fun x => c_slices_order2CmpFunc_int_ x.1 x.2.1 x.2.2.1 x.2.2.2.1 x.2.2.2.2.1 (fun r1 r2 w' => K (.tuple ⟨[.int .i64 r1, .int .i64 r2]⟩) w') w)]) (ground Tryz.prog) ann109 body109 (finQ Tryz.prog Tryz.f109 K Kp) (initF (mkArgs [.one (.sl), .one (.int .i64), .one (.int .i64), .one (.int .i64), .one (.ptr), .one (.any)] x)) w := by kernel_rfl
theorem tie109 (x : ArgsV [.one (.sl), .one (.int .i64), .one (.int .i64), .one (.int .i64), .one (.ptr), .one (.any)]) (K Kp : Value → World → Prop) (w : World) : F.slices_medianCmpFunc_int_ env x.1 x.2.1 x.2.2.1 x.2.2.2.1 x.2.2.2.2.1 x.2.2.2.2.2.1 (fun r1 w' => K (.int .i64 r1) w') w =
 ev Tryz.prog (tabC [(125, C125)]) (ground Tryz.prog) ann109 body109 (finQ Tryz.prog Tryz.f109 K Kp) (initF (mkArgs [.one (.sl), .one (.int .i64), .one (.int .i64), .one (.int .i64), .one (.ptr), .one (.any)] x)) w := tieZ109 (F.slices_order2CmpFunc_int_ env) x K Kp w
theorem fits109 : FitsOne Tryz.prog 109 C109 :=
 fits_of_tie (T := [(125, C125)]) (A := ann109) (fn := Tryz.f109) (c := body109) (fits_cons fits125 fits_nil) mixed Tryz.func109 Tryz.call109 (by kernel_rfl) (by kernel_rfl) (by kernel_rfl) tie109

noncomputable def C108 : Entry := fun args w K Kp => unArgs [.one (.sl), .one (.int .i64), .one (.ptr), .one (.any)] args.toList fun x => F.slices_medianAdjacentCmpFunc_int_ env x.1 x.2.1 x.2.2.1 x.2.2.2.1 (fun r1 w' => K (.int .i64 r1) w') w
noncomputable def body108 : Code := (Tryz.f108.body).getD .skip
def ann108 : Ann := { loops := [], joins := [] }
def T0.slices_medianAdjacentCmpFunc_int_ (E : Env) (c_slices_medianCmpFunc_int_ : ∀ (a0 : SlV) (a1 : Int) (a2 : Int) (a3 : Int) (a4 : (Option Addr)) (a5 : Value) (K : Int → World → Prop) (w : World), Prop) (a0 : SlV) (a1 : Int) (a2 : (Option Addr)) (a3 : Value) (K : Int → World → Prop) (w : World) : Prop :=
 c_slices_medianCmpFunc_int_ a0 (i64 (a1 - 1)) a1 (i64 (a1 + 1)) a2 a3 (fun r1 w2 =>
 K r1 w2
 ) w

theorem tieZ108 (c_slices_medianCmpFunc_int_ : ∀ (a0 : SlV) (a1 : Int) (a2 : Int) (a3 : Int) (a4 : (Option Addr)) (a5 : Value) (K : Int → World → Prop) (w : World), Prop) (x : ArgsV [.one (.sl), .one (.int .i64), .one (.ptr), .one (.any)]) (K Kp : Value → World → Prop) (w : World) : T0.slices_medianAdjacentCmpFunc_int_ env c_slices_medianCmpFunc_int_ x.1 x.2.1 x.2.2.1 x.2.2.2.1 (fun r1 w' => K (.int .i64 r1) w') w =
 ev Tryz.prog (tabC [(109, fun args w K Kp => unArgs [.one (.sl), .one (.int .i64), .one (.int .i64), .one (.int .i64), .one (.ptr), .one (.any)] args.toList fun x => c_slices_medianCmpFunc_int_ x.1 x.2.1 x.2.2.1 x.2.2.2.1 x.2.2.2.2.1 x.2.2.2.2.2.1 (fun r1 w' => K (.int .i64 r1) w') w)]) (ground Tryz.prog) ann108 body108 (finQ Tryz.prog Tryz.f108 K Kp) (initF (mkArgs [.one (.sl), .one (.int .i64), .one (.ptr), .one (.any)] x)) w := by kernel_rfl
theorem tie108 (x : ArgsV [.one (.sl), .one (.int .i64), .one (.ptr), .one (.any)]) (K Kp : Value → World → Prop) (w : World) : F.slices_medianAdjacentCmpFunc_int_ env x.1 x.2.1 x.2.2.1 x.2.2.2.1 (fun r1 w' => K (.int .i64 r1) w') w =
 ev Tryz.prog (tabC [(109, C109)]) (ground Tryz.prog) ann108 body108 (finQ Tryz.prog Tryz.f108 K Kp) (initF (mkArgs [.one (.sl), .one (.int .i64), .one (.ptr), .one (.any)] x)) w := tieZ108 (F.slices_medianCmpFunc_int_ env) x K Kp w
theorem fits108 : FitsOne Tryz.prog 108 C108 :=
 fits_of_tie (T := [(109, C109)]) (A := ann108) (fn := Tryz.f108) (c := body108) (fits_cons fits109 fits_nil) mixed Tryz.func108 Tryz.call108 (by kernel_rfl) (by kernel_rfl) (by kernel_rfl) tie108

noncomputable def C87 : Entry := fun args w K Kp => unArgs [.one (.sl), .one (.int .i64), .one (.int .i64), .one (.any)] args.toList fun x => F.slices_choosePivotCmpFunc_int_ env x.1 x.2.1 x.2.2.1 x.2.2.2.1 (fun r1 r2 w' => K (.tuple ⟨[.int .i64 r1, .int .i64 r2]⟩) w') w
noncomputable def body87 : Code := (Tryz.f87.body).getD .skip
def ann87 : Ann := { loops := [], joins := [(11, [(12, .one (.int .i64)), (13, .one (.int .i64)), (14, .one (.int .i64))]), (12, [(13, .one (.int .i64))])] }
def T0.slices_choosePivotCmpFunc_int_ (E : Env) (c_slices_medianAdjacentCmpFunc_int_ : ∀ (a0 : SlV) (a1 : Int) (a2 : (Option Addr)) (a3 : Value) (K : Int → World → Prop) (w : World), Prop) (c_slices_medianCmpFunc_int_ : ∀ (a0 : SlV) (a1 : Int) (a2 : Int) (a3 : Int) (a4 : (Option Addr)) (a5 : Value) (K : Int → World → Prop) (w : World), Prop) (a0 : SlV) (a1 : Int) (a2 : Int) (a3 : Value) (K : Int → Int → World → Prop) (w : World) : Prop :=
 AL (.cells #[.int .i64 0] E.t_int) w fun b1 w2 =>
 4 ≠ (0 : Int) ∧
 LET (i64 (a1 + (i64 ((i64 (Int.tdiv (i64 (a2 - a1)) 4)) * 1))) : Int) fun i_3 =>
 4 ≠ (0 : Int) ∧
 LET (i64 (a1 + (i64 ((i64 (Int.tdiv (i64 (a2 - a1)) 4)) * 2))) : Int) fun j_4 =>
 4 ≠ (0 : Int) ∧
 LET (i64 (a1 + (i64 ((i64 (Int.tdiv (i64 (a2 - a1)) 4)) * 3))) : Int) fun k_5 =>
 JOIN (Int × Unit) (fun J6 =>
 CND (decide (((i64 (a2 - a1)) : Int) ≥ 8)) (
 JOIN (Int × Int × Int × Unit) (fun J9 =>
 CND (decide (((i64 (a2 - a1)) : Int) ≥ 50)) (
 c_slices_medianAdjacentCmpFunc_int_ a0 i_3 (some (Addr.mk b1 0 none)) a3 (fun r12 w13 =>
 c_slices_medianAdjacentCmpFunc_int_ a0 j_4 (some (Addr.mk b1 0 none)) a3 (fun r14 w15 =>
 c_slices_medianAdjacentCmpFunc_int_ a0 k_5 (some (Addr.mk b1 0 none)) a3 (fun r16 w17 =>
 J9 (r12, r14, r16, ()) w17
 ) w15
 ) w13
 ) w2
 ) (
 J9 (i_3, j_4, k_5, ()) w2
 )
 ) fun s10 _ w11 =>
 c_slices_medianCmpFunc_int_ a0 s10.1 s10.2.1 s10.2.2.1 (some (Addr.mk b1 0 none)) a3 (fun r18 w19 =>
 J6 (r18, ()) w19
 ) w11
 ) (
 J6 (j_4, ()) w2
 )
 ) fun s7 _ w8 =>
 ∃ x20 : Int, w8.cell? (Addr.mk b1 0 none) = some (.int .i64 x20) ∧
 CND ((x20 : Int) == 0) (
 K s7.1 1 w8
 ) (
 CND ((x20 : Int) == 12) (
 K s7.1 2 w8
 ) (
 K s7.1 0 w8
 )
 )

theorem tieZ87 (c_slices_medianAdjacentCmpFunc_int_ : ∀ (a0 : SlV) (a1 : Int) (a2 : (Option Addr)) (a3 : Value) (K : Int → World → Prop) (w : World), Prop) (c_slices_medianCmpFunc_int_ : ∀ (a0 : SlV) (a1 : Int) (a2 : Int) (a3 : Int) (a4 : (Option Addr)) (a5 : Value) (K : Int → World → Prop) (w : World), Prop) (x : ArgsV [.one (.sl), .one (.int .i64), .one (.int .i64), .one (.any)]) (K Kp : Value → World → Prop) (w : World) : T0.slices_choosePivotCmpFunc_int_ env c_slices_medianAdjacentCmpFunc_int_ c_slices_medianCmpFunc_int_ x.1 x.2.1 x.2.2.1 x.2.2.2.1 (fun r1 r2 w' => K (.tuple ⟨[.int .i64 r1, .int .i64 r2]⟩) w') w =
 ev Tryz.prog (tabC [(108, fun args w K Kp => unArgs [.one (.sl), .one (.int .i64), .one (.ptr), .one (.any)] args.toList fun x => c_slices_medianAdjacentCmpFunc_int_ x.1 x.2.1 x.2.2.1 x.2.2.2.1 (fun r1 w' => K (.int .i64 r1) w') w), (109, fun args w K Kp => unArgs [.one (.sl), .one (.int .i64), .one (.int .i64), .one (.int .i64), .one (.ptr), .one (.any)] args.toList fun x => c_slices_medianCmpFunc_int_ x.1 x.2.1 x.2.2.1 x.2.2.2.1 x.2.2.2.2.1 x.2.2.2.2.2.1 (fun r1 w' => K (.int .i64 r1) w') w)]) (ground Tryz.prog) ann87 body87 (finQ Tryz.prog Tryz.f87 K Kp) (initF (mkArgs [.one (.sl), .one (.int .i64), .one (.int .i64), .one (.any)] x)) w := by kernel_rfl
theorem tie87 (x : ArgsV [.one (.sl), .one (.int .i64), .one (.int .i64), .one (.any)]) (K Kp : Value → World → Prop) (w : World) : F.slices_choosePivotCmpFunc_int_ env x.1 x.2.1 x.2.2.1 x.2.2.2.1 (fun r1 r2 w' => K (.tuple ⟨[.int .i64 r1, .int .i64 r2]⟩) w') w =
 ev Tryz.prog (tabC [(108, C108), (109, C109)]) (ground Tryz.prog) ann87 body87 (finQ Tryz.prog Tryz.f87 K Kp) (initF (mkArgs [.one (.sl), .one (.int .i64), .one (.int .i64), .one (.any)] x)) w := tieZ87 (F.slices_medianAdjacentCmpFunc_int_ env) (F.slices_medianCmpFunc_int_ env) x K Kp w
theorem fits87 : FitsOne Tryz.prog 87 C87 :=
 fits_of_tie (T := [(108, C108), (109, C109)]) (A := ann87) (fn := Tryz.f87) (c := body87) (fits_cons fits108 (fits_cons fits109 fits_nil)) mixed Tryz.func87 Tryz.call87 (by kernel_rfl) (by kernel_rfl) (by kernel_rfl) tie87

noncomputable def C88 : Entry := fun args w K Kp => unArgs [.one (.sl), .one (.int .i64), .one (.int .i64), .one (.any)] args.toList fun x => F.slices_reverseRangeCmpFunc_int_ env x.1 x.2.1 x.2.2.1 x.2.2.2.1 (fun  w' => K (.tuple ⟨[]⟩) w') w
noncomputable def body88 : Code := (Tryz.f88.body).getD .skip
def ann88 : Ann := { loops := [(2, [(8, .one (.int .i64)), (9, .one (.int .i64))])], joins := [] }
theorem tie88 (x : ArgsV [.one (.sl), .one (.int .i64), .one (.int .i64), .one (.any)]) (K Kp : Value → World → Prop) (w : World) : F.slices_reverseRangeCmpFunc_int_ env x.1 x.2.1 x.2.2.1 x.2.2.2.1 (fun  w' => K (.tuple ⟨[]⟩) w') w =
 ev Tryz.prog (tabC []) (ground Tryz.prog) ann88 body88 (finQ Tryz.prog Tryz.f88 K Kp) (initF (mkArgs [.one (.sl), .one (.int .i64), .one (.int .i64), .one (.any)] x)) w := by kernel_rfl
theorem fits88 : FitsOne Tryz.prog 88 C88 :=
 fits_of_tie (T := []) (A := ann88) (fn := Tryz.f88) (c := body88) fits_nil mixed Tryz.func88 Tryz.call88 (by kernel_rfl) (by kernel_rfl) (by kernel_rfl) tie88

noncomputable def C89 : Entry := fun args w K Kp => unArgs [.one (.sl), .one (.int .i64), .one (.int .i64), .one (.any)] args.toList fun x => F.slices_partialInsertionSortCmpFunc_int_ env x.1 x.2.1 x.2.2.1 x.2.2.2.1 (fun r1 w' => K (.bool r1) w') w
noncomputable def body89 : Code := (Tryz.f89.body).getD .skip
def ann89 : Ann := { loops := [(3, [(9, .one (.int .i64)), (10, .one (.int .i64))]), (5, [(9, .one (.int .i64))]), (14, [(11, .one (.int .i64))]), (20, [(12, .one (.int .i64))])], joins := [(7, [(9, .one (.int .i64))]), (18, [])] }
theorem tie89 (x : ArgsV [.one (.sl), .one (.int .i64), .one (.int .i64), .one (.any)]) (K Kp : Value → World → Prop) (w : World) : F.slices_partialInsertionSortCmpFunc_int_ env x.1 x.2.1 x.2.2.1 x.2.2.2.1 (fun r1 w' => K (.bool r1) w') w =
 ev Tryz.prog (tabC []) (ground Tryz.prog) ann89 body89 (finQ Tryz.prog Tryz.f89 K Kp) (initF (mkArgs [.one (.sl), .one (.int .i64), .one (.int .i64), .one (.any)] x)) w := by kernel_rfl
theorem fits89 : FitsOne Tryz.prog 89 C89 :=
 fits_of_tie (T := []) (A := ann89) (fn := Tryz.f89) (c := body89) fits_nil mixed Tryz.func89 Tryz.call89 (by kernel_rfl) (by kernel_rfl) (by kernel_rfl) tie89

noncomputable def C90 : Entry := fun args w K Kp => unArgs [.one (.sl), .one (.int .i64), .one (.int .i64), .one (.int .i64), .one (.any)] args.toList fun x => F.slices_partitionEqualCmpFunc_int_ env x.1 x.2.1 x.2.2.1 x.2.2.2.1 x.2.2.2.2.1 (fun r1 w' => K (.int .i64 r1) w') w
noncomputable def body90 : Code := (Tryz.f90.body).getD .skip
def ann90 : Ann := { loops := [(3, [(11, .one (.int .i64)), (12, .one (.int .i64))]), (5, [(12, .one (.int .i64))])], joins := [(5, [(11, .one (.int .i64))]), (7, [(12, .one (.int .i64))])] }
theorem tie90 (x : ArgsV [.one (.sl), .one (.int .i64), .one (.int .i64), .one (.int .i64), .one (.any)]) (K Kp : Value → World → Prop) (w : World) : F.slices_partitionEqualCmpFunc_int_ env x.1 x.2.1 x.2.2.1 x.2.2.2.1 x.2.2.2.2.1 (fun r1 w' => K (.int .i64 r1) w') w =
 ev Tryz.prog (tabC []) (ground Tryz.prog) ann90 body90 (finQ Tryz.prog Tryz.f90 K Kp) (initF (mkArgs [.one (.sl), .one (.int .i64), .one (.int .i64), .one (.int .i64), .one (.any)] x)) w := by kernel_rfl
theorem fits90 : FitsOne Tryz.prog 90 C90 :=
 fits_of_tie (T := []) (A := ann90) (fn := Tryz.f90) (c := body90) fits_nil mixed Tryz.func90 Tryz.call90 (by kernel_rfl) (by kernel_rfl) (by kernel_rfl) tie90

noncomputable def C91 : Entry := fun args w K Kp => unArgs [.one (.sl), .one (.int .i64), .one (.int .i64), .one (.int .i64), .one (.any)] args.toList fun x => F.slices_partitionCmpFunc_int_ env x.1 x.2.1 x.2.2.1 x.2.2.2.1 x.2.2.2.2.1 (fun r1 r2 w' => K (.tuple ⟨[.int .i64 r1, .bool r2]⟩) w') w
noncomputable def body91 : Code := (Tryz.f91.body).getD .skip
def ann91 : Ann := { loops := [(3, [(12, .one (.int .i64))]), (5, [(13, .one (.int .i64))]), (13, [(12, .one (.int .i64)), (13, .one (.int .i64))]), (15, [(13, .one (.int .i64))])], joins := [(5, [(12, .one (.int .i64))]), (7, [(13, .one (.int .i64))]), (15, [(12, .one (.int .i64))]), (17, [(13, .one (.int .i64))])] }
theorem tie91 (x : ArgsV [.one (.sl), .one (.int .i64), .one (.int .i64), .one (.int .i64), .one (.any)]) (K Kp : Value → World → Prop) (w : World) : F.slices_partitionCmpFunc_int_ env x.1 x.2.1 x.2.2.1 x.2.2.2.1 x.2.2.2.2.1 (fun r1 r2 w' => K (.tuple ⟨[.int .i64 r1, .bool r2]⟩) w') w =
 ev Tryz.prog (tabC []) (ground Tryz.prog) ann91 body91 (finQ Tryz.prog Tryz.f91 K Kp) (initF (mkArgs [.one (.sl), .one (.int .i64), .one (.int .i64), .one (.int .i64), .one (.any)] x)) w := by kernel_rfl
theorem fits91 : FitsOne Tryz.prog 91 C91 :=
 fits_of_tie (T := []) (A := ann91) (fn := Tryz.f91) (c := body91) fits_nil mixed Tryz.func91 Tryz.call91 (by kernel_rfl) (by kernel_rfl) (by kernel_rfl) tie91

noncomputable def Cn64 (n : Nat) : Entry := fun args w K Kp => unArgs [.one (.sl), .one (.int .i64), .one (.int .i64), .one (.int .i64), .one (.any)] args.toList fun x => F.slices_pdqsortCmpFunc_int_ env n x.1 x.2.1 x.2.2.1 x.2.2.2.1 x.2.2.2.2.1 (fun  w' => K (.tuple ⟨[]⟩) w') w
noncomputable def C64 : Entry := fun args w K Kp => ∃ n, Cn64 n args w K Kp
noncomputable def body64 : Code := (Tryz.f64.body).getD .skip
def ann64 : Ann := { loops := [(2, [(1, .one (.int .i64)), (2, .one (.int .i64)), (3, .one (.int .i64)), (10, .one (.bool)), (11, .one (.bool))])], joins := [(10, [(3, .one (.int .i64))]), (15, [(13, .one (.int .i64)), (14, .one (.int .i64))]), (16, [(75, .one (.bool))]), (17, []), (18, [(97, .one (.bool))])] }
theorem tie64 (n : Nat) (x : ArgsV [.one (.sl), .one (.int .i64), .one (.int .i64), .one (.int .i64), .one (.any)]) (K Kp : Value → World → Prop) (w : World) : F.slices_pdqsortCmpFunc_int_ env (n + 1) x.1 x.2.1 x.2.2.1 x.2.2.2.1 x.2.2.2.2.1 (fun  w' => K (.tuple ⟨[]⟩) w') w =
 ev Tryz.prog (tabC [(84, C84), (85, C85), (86, C86), (87, C87), (88, C88), (89, C89), (90, C90), (91, C91), (64, Cn64 n)]) (ground Tryz.prog) ann64 body64 (finQ Tryz.prog Tryz.f64 K Kp) (initF (mkArgs [.one (.sl), .one (.int .i64), .one (.int .i64), .one (.int .i64), .one (.any)] x)) w := by kernel_rfl
theorem fitsN64 (n : Nat) : FitsOne Tryz.prog 64 (Cn64 n) := by
 induction n with
 | zero => intro args w K Kp h; obtain ⟨x, _, h⟩ := unArgs_elim h; exact h.elim
 | succ n ih => exact fits_of_tie (T := [(84, C84), (85, C85), (86, C86), (87, C87), (88, C88), (89, C89), (90, C90), (91, C91), (64, Cn64 n)]) (A := ann64) (fn := Tryz.f64) (c := body64) (fits_cons fits84 (fits_cons fits85 (fits_cons fits86 (fits_cons fits87 (fits_cons fits88 (fits_cons fits89 (fits_cons fits90 (fits_cons fits91 (fits_cons ih fits_nil))))))))) mixed Tryz.func64 Tryz.call64 (by kernel_rfl) (by kernel_rfl) (by kernel_rfl) (tie64 n)
theorem fits64 : FitsOne Tryz.prog 64 C64 := fits_some fitsN64

noncomputable def C38 : Entry := fun args w K Kp => unArgs [.one (.sl), .one (.any)] args.toList fun x => F.slices_SortFunc___int_int_ env x.1 x.2.1 (fun  w' => K (.tuple ⟨[]⟩) w') w
noncomputable def body38 : Code := (Tryz.f38.body).getD .skip
def ann38 : Ann := { loops := [], joins := [] }
def T0.slices_SortFunc___int_int_ (E : Env) (c_math_bits_Len : ∀ (a0 : Int) (K : Int → World → Prop) (w : World), Prop) (a0 : SlV) (a1 : Value) (K : World → Prop) (w : World) : Prop :=
 c_math_bits_Len (u64 (((a0.len : Nat) : Int))) (fun r1 w2 =>
 ∃ n_, F.slices_pdqsortCmpFunc_int_ E n_ a0 0 ((a0.len : Nat) : Int) r1 a1 (fun  w3 =>
 K  w3
 ) w2
 ) w

theorem tieZ38 (c_math_bits_Len : ∀ (a0 : Int) (K : Int → World → Prop) (w : World), Prop) (x : ArgsV [.one (.sl), .one (.any)]) (K Kp : Value → World → Prop) (w : World) : T0.slices_SortFunc___int_int_ env c_math_bits_Len x.1 x.2.1 (fun  w' => K (.tuple ⟨[]⟩) w') w =
 ev Tryz.prog (tabC [(65, fun args w K Kp => unArgs [.one (.int .u64)] args.toList fun x => c_math_bits_Len x.1 (fun r1 w' => K (.int .i64 r1) w') w), (64, C64)]) (ground Tryz.prog) ann38 body38 (finQ Tryz.prog Tryz.f38 K Kp) (initF (mkArgs [.one (.sl), .one (.any)] x)) w := by kernel_rfl
theorem tie38 (x : ArgsV [.one (.sl), .one (.any)]) (K Kp : Value → World → Prop) (w : World) : F.slices_SortFunc___int_int_ env x.1 x.2.1 (fun  w' => K (.tuple ⟨[]⟩) w') w =
 ev Tryz.prog (tabC [(65, C65), (64, C64)]) (ground Tryz.prog) ann38 body38 (finQ Tryz.prog Tryz.f38 K Kp) (initF (mkArgs [.one (.sl), .one (.any)] x)) w := tieZ38 (F.math_bits_Len env) x K Kp w
theorem fits38 : FitsOne Tryz.prog 38 C38 :=
 fits_of_tie (T := [(65, C65), (64, C64)]) (A := ann38) (fn := Tryz.f38) (c := body38) (fits_cons fits65 (fits_cons fits64 fits_nil)) mixed Tryz.func38 Tryz.call38 (by kernel_rfl) (by kernel_rfl) (by kernel_rfl) tie38

noncomputable def C18 : Entry := fun args w K Kp => unArgs [.one (.ptr)] args.toList fun x => F.mheap_Heap_Spans env x.1 (fun r1 w' => K (.slice r1.base r1.len r1.cap) w') w
noncomputable def body18 : Code := (Tryz.f18.body).getD .skip
def ann18 : Ann := { loops := [(3, [(3, .one (.sl))])], joins := [(4, [(11, .one (.bool))])] }
def T0.mheap_Heap_Spans (E : Env) (c_slices_SortFunc___int_int_ : ∀ (a0 : SlV) (a1 : Value) (K : World → Prop) (w : World), Prop) (a0 : (Option Addr)) (K : SlV → World → Prop) (w : World) : Prop :=
 AL (.cells #[.pointer a0] E.t__mheap_Heap) w fun b1 w2 =>
 ∃ x3 : (Option Addr), w2.cell? (Addr.mk b1 0 none) = some (.pointer x3) ∧
 NC x3 fun p4 =>
 ∃ x5 : (Option Nat), w2.cell? (p4.add 4) = some (.map x5) ∧
 ∃ cl6, rngAt w2 x5 cl6 ∧
 AL (rngObj x5 cl6) w2 fun b7 w8 =>
 LOOP (SlV × Unit) (⟨none, 0, 0⟩, ()) w8 fun s9 _ w10 next11 =>
 JOIN (Bool × Unit) (fun J12 =>
 NEXT b7 w10 (fun w15 =>
 J12 (false, ()) w15
 ) fun k17 v18 w16 =>
 J12 (true, ()) w16
 ) fun s13 _ w14 =>
 JOIN (Bool × Unit) (fun J19 =>
 CND (s13.1) (
 J19 (s13.1, ()) w14
 ) (
 c_slices_SortFunc___int_int_ s9.1 (.func (.func E.f_mheap_Heap_Spans_1) #[] #[.pointer (some (Addr.mk b1 0 none))]) (fun  w22 =>
 K s9.1 w22
 ) w14
 )
 ) fun s20 _ w21 =>
 ENT b7 w21 fun k23 v24 S25 =>
 unInt .i64 k23 fun x26 =>
 AL (.cells ⟨[.int .i64 x26]⟩ E.t_int) w21 fun b27 w28 =>
 APP E.t_int 1 8 #[.int .i64 0] s9.1 ⟨(some (Addr.mk b27 0 none)), 1, 1⟩ w28 fun s29 w30 =>
 next11 (s29, ()) w30

theorem tieZ18 (c_slices_SortFunc___int_int_ : ∀ (a0 : SlV) (a1 : Value) (K : World → Prop) (w : World), Prop) (x : ArgsV [.one (.ptr)]) (K Kp : Value → World → Prop) (w : World) : T0.mheap_Heap_Spans env c_slices_SortFunc___int_int_ x.1 (fun r1 w' => K (.slice r1.base r1.len r1.cap) w') w =
 ev Tryz.prog (tabC [(38, fun args w K Kp => unArgs [.one (.sl), .one (.any)] args.toList fun x => c_slices_SortFunc___int_int_ x.1 x.2.1 (fun  w' => K (.tuple ⟨[]⟩) w') w)]) (ground Tryz.prog) ann18 body18 (finQ Tryz.prog Tryz.f18 K Kp) (initF (mkArgs [.one (.ptr)] x)) w := by kernel_rfl
theorem tie18 (x : ArgsV [.one (.ptr)]) (K Kp : Value → World → Prop) (w : World) : F.mheap_Heap_Spans env x.1 (fun r1 w' => K (.slice r1.base r1.len r1.cap) w') w =
 ev Tryz.prog (tabC [(38, C38)]) (ground Tryz.prog) ann18 body18 (finQ Tryz.prog Tryz.f18 K Kp) (initF (mkArgs [.one (.ptr)] x)) w := tieZ18 (F.slices_SortFunc___int_int_ env) x K Kp w
theorem fits18 : FitsOne Tryz.prog 18 C18 :=
 fits_of_tie (T := [(38, C38)]) (A := ann18) (fn := Tryz.f18) (c := body18) (fits_cons fits38 fits_nil) mixed Tryz.func18 Tryz.call18 (by kernel_rfl) (by kernel_rfl) (by kernel_rfl) tie18

noncomputable def C10 : Entry := fun args w K Kp => unArgs [.one (.ptr)] args.toList fun x => F.stack_Stacks_Inuse env x.1 (fun r1 w' => K (.int .u64 r1) w') w
noncomputable def body10 : Code := (Tryz.f10.body).getD .skip
def ann10 : Ann := { loops := [(3, [(3, .one (.int .u64)), (15, .one (.int .i64))])], joins := [] }
def T0.stack_Stacks_Inuse (E : Env) (c_mheap_Heap_Spans : ∀ (a0 : (Option Addr)) (K : SlV → World → Prop) (w : World), Prop) (c_mheap_Heap_Span : ∀ (a0 : (Option Addr)) (a1 : Int) (K : (Option Addr) → Int → World → Prop) (w : World), Prop) (c_span_Span_Info : ∀ (a0 : (Option Addr)) (K : Int → Int → Int → Int → Bool → Int → Int → Int → Bool → Bool → World → Prop) (w : World), Prop) (a0 : (Option Addr)) (K : Int → World → Prop) (w : World) : Prop :=
 NC a0 fun p1 =>
 ∃ x2 : (Option Addr), w.cell? p1 = some (.pointer x2) ∧
 c_mheap_Heap_Spans x2 (fun r3 w4 =>
 LOOP (Int × Int × Unit) (0, 0, ()) w4 fun s5 _ w6 next7 =>
 CND (decide ((s5.2.1 : Int) < ((r3.len : Nat) : Int))) (
 NC r3.base fun p8 =>
 ((0 : Int) ≤ s5.2.1 ∧ (s5.2.1 : Int) < (r3.len : Nat)) ∧
 ∃ x9 : Int, w6.cell? (p8.add (Int.toNat s5.2.1 * 1)) = some (.int .i64 x9) ∧
 NC a0 fun p10 =>
 ∃ x11 : (Option Addr), w6.cell? p10 = some (.pointer x11) ∧
 c_mheap_Heap_Span x11 x9 (fun r12 r13 w14 =>
 c_span_Span_Info r12 (fun r15 r16 r17 r18 r19 r20 r21 r22 r23 r24 w25 =>
 AL (.cells #[.int .u64 0, .int .i64 0, .int .i64 0, .int .i64 0, .bool false, .int .i64 0, .int .i64 0, .int .i64 0, .bool false, .bool false] E.t_api_Info) w25 fun b26 w27 =>
 stCells (Addr.mk b26 0 none) 0 [.int .u64 r15, .int .i64 r16, .int .i64 r17, .int .i64 r18, .bool r19, .int .i64 r20, .int .i64 r21, .int .i64 r22, .bool r23, .bool r24] w27 fun w28 =>
 ∃ x29 : Int, w28.cell? ((Addr.mk b26 0 none).add 2) = some (.int .i64 x29) ∧
 CND ((x29 : Int) == 2) (
 ∃ x30 : Int, w28.cell? ((Addr.mk b26 0 none).add 1) = some (.int .i64 x30) ∧
 LET (u64 (s5.1 + (u64 ((u64 (x30)) * 8192))) : Int) fun n_31 =>
 next7 (n_31, i64 (s5.2.1 + 1), ()) w28
 ) (
 next7 (s5.1, i64 (s5.2.1 + 1), ()) w28
 )
 ) w14
 ) w6
 ) (
 K s5.1 w6
 )
 ) w

theorem tieZ10 (c_mheap_Heap_Spans : ∀ (a0 : (Option Addr)) (K : SlV → World → Prop) (w : World), Prop) (c_mheap_Heap_Span : ∀ (a0 : (Option Addr)) (a1 : Int) (K : (Option Addr) → Int → World → Prop) (w : World), Prop) (c_span_Span_Info : ∀ (a0 : (Option Addr)) (K : Int → Int → Int → Int → Bool → Int → Int → Int → Bool → Bool → World → Prop) (w : World), Prop) (x : ArgsV [.one (.ptr)]) (K Kp : Value → World → Prop) (w : World) : T0.stack_Stacks_Inuse env c_mheap_Heap_Spans c_mheap_Heap_Span c_span_Span_Info x.1 (fun r1 w' => K (.int .u64 r1) w') w =
 ev Tryz.prog (tabC [(18, fun args w K Kp => unArgs [.one (.ptr)] args.toList fun x => c_mheap_Heap_Spans x.1 (fun r1 w' => K (.slice r1.base r1.len r1.cap) w') w), (25, fun args w K Kp => unArgs [.one (.ptr), .one (.int .i64)] args.toList fun x => c_mheap_Heap_Span x.1 x.2.1 (fun r1 r2 w' => K (.tuple ⟨[.pointer r1, .int .i64 r2]⟩) w') w), (26, fun args w K Kp => unArgs [.one (.ptr)] args.toList fun x => c_span_Span_Info x.1 (fun r1 r2 r3 r4 r5 r6 r7 r8 r9 r10 w' => K (.agg ⟨[.int .u64 r1, .int .i64 r2, .int .i64 r3, .int .i64 r4, .bool r5, .int .i64 r6, .int .i64 r7, .int .i64 r8, .bool r9, .bool r10]⟩) w') w)]) (ground Tryz.prog) ann10 body10 (finQ Tryz.prog Tryz.f10 K Kp) (initF (mkArgs [.one (.ptr)] x)) w := by kernel_rfl
theorem tie10 (x : ArgsV [.one (.ptr)]) (K Kp : Value → World → Prop) (w : World) : F.stack_Stacks_Inuse env x.1 (fun r1 w' => K (.int .u64 r1) w') w =
 ev Tryz.prog (tabC [(18, C18), (25, C25), (26, C26)]) (ground Tryz.prog) ann10 body10 (finQ Tryz.prog Tryz.f10 K Kp) (initF (mkArgs [.one (.ptr)] x)) w := tieZ10 (F.mheap_Heap_Spans env) (F.mheap_Heap_Span env) (F.span_Span_Info env) x K Kp w
theorem fits10 : FitsOne Tryz.prog 10 C10 :=
 fits_of_tie (T := [(18, C18), (25, C25), (26, C26)]) (A := ann10) (fn := Tryz.f10) (c := body10) (fits_cons fits18 (fits_cons fits25 (fits_cons fits26 fits_nil))) mixed Tryz.func10 Tryz.call10 (by kernel_rfl) (by kernel_rfl) (by kernel_rfl) tie10

noncomputable def C75 : Entry := fun args w K Kp => unArgs [.one (.ptr), .one (.int .u64)] args.toList fun x => F.arena_Map_whole env x.1 x.2.1 (fun r1 w' => K (.int .i64 r1) w') w
noncomputable def body75 : Code := (Tryz.f75.body).getD .skip
def ann75 : Ann := { loops := [(2, [(12, .one (.int .i64))])], joins := [(5, [(25, .one (.bool))])] }
theorem tie75 (x : ArgsV [.one (.ptr), .one (.int .u64)]) (K Kp : Value → World → Prop) (w : World) : F.arena_Map_whole env x.1 x.2.1 (fun r1 w' => K (.int .i64 r1) w') w =
 ev Tryz.prog (tabC []) (ground Tryz.prog) ann75 body75 (finQ Tryz.prog Tryz.f75 K Kp) (initF (mkArgs [.one (.ptr), .one (.int .u64)] x)) w := by kernel_rfl
theorem fits75 : FitsOne Tryz.prog 75 C75 :=
 fits_of_tie (T := []) (A := ann75) (fn := Tryz.f75) (c := body75) fits_nil mixed Tryz.func75 Tryz.call75 (by kernel_rfl) (by kernel_rfl) (by kernel_rfl) tie75

noncomputable def C52 : Entry := fun args w K Kp => unArgs [.one (.ptr), .one (.int .u64)] args.toList fun x => F.arena_Map_At env x.1 x.2.1 (fun r1 w' => K (.int .i64 r1) w') w
noncomputable def body52 : Code := (Tryz.f52.body).getD .skip
def ann52 : Ann := { loops := [], joins := [] }
def T0.arena_Map_At (E : Env) (c_arena_Map_whole : ∀ (a0 : (Option Addr)) (a1 : Int) (K : Int → World → Prop) (w : World), Prop) (a0 : (Option Addr)) (a1 : Int) (K : Int → World → Prop) (w : World) : Prop :=
 8192 ≠ (0 : Int) ∧
 NC a0 fun p1 =>
 ∃ x2 : (Option Nat), w.cell? (p1.add 3) = some (.map x2) ∧
 512 ≠ (0 : Int) ∧
 LKP .u64 (u64 (Int.tdiv (u64 (Int.tdiv a1 8192)) 512)) x2 w (.pointer none) fun v3 ok4 es5 =>
 ∃ x6 : (Option Addr), v3 = .pointer x6 ∧
 CND (!x6.isNone) (
 512 ≠ (0 : Int) ∧
 NC x6 fun p7 =>
 ((0 : Int) ≤ (Int.tmod (u64 (Int.tdiv a1 8192)) 512) ∧ ((Int.tmod (u64 (Int.tdiv a1 8192)) 512) : Int) < (512 : Nat)) ∧
 ∃ x8 : Int, w.cell? (p7.add (Int.toNat (Int.tmod (u64 (Int.tdiv a1 8192)) 512) * 1)) = some (.int .i64 x8) ∧
 K x8 w
 ) (
 512 ≠ (0 : Int) ∧
 c_arena_Map_whole a0 (u64 (Int.tdiv (u64 (Int.tdiv a1 8192)) 512)) (fun r9 w10 =>
 K r9 w10
 ) w
 )

theorem tieZ52 (c_arena_Map_whole : ∀ (a0 : (Option Addr)) (a1 : Int) (K : Int → World → Prop) (w : World), Prop) (x : ArgsV [.one (.ptr), .one (.int .u64)]) (K Kp : Value → World → Prop) (w : World) : T0.arena_Map_At env c_arena_Map_whole x.1 x.2.1 (fun r1 w' => K (.int .i64 r1) w') w =
 ev Tryz.prog (tabC [(75, fun args w K Kp => unArgs [.one (.ptr), .one (.int .u64)] args.toList fun x => c_arena_Map_whole x.1 x.2.1 (fun r1 w' => K (.int .i64 r1) w') w)]) (ground Tryz.prog) ann52 body52 (finQ Tryz.prog Tryz.f52 K Kp) (initF (mkArgs [.one (.ptr), .one (.int .u64)] x)) w := by kernel_rfl
theorem tie52 (x : ArgsV [.one (.ptr), .one (.int .u64)]) (K Kp : Value → World → Prop) (w : World) : F.arena_Map_At env x.1 x.2.1 (fun r1 w' => K (.int .i64 r1) w') w =
 ev Tryz.prog (tabC [(75, C75)]) (ground Tryz.prog) ann52 body52 (finQ Tryz.prog Tryz.f52 K Kp) (initF (mkArgs [.one (.ptr), .one (.int .u64)] x)) w := tieZ52 (F.arena_Map_whole env) x K Kp w
theorem fits52 : FitsOne Tryz.prog 52 C52 :=
 fits_of_tie (T := [(75, C75)]) (A := ann52) (fn := Tryz.f52) (c := body52) (fits_cons fits75 fits_nil) mixed Tryz.func52 Tryz.call52 (by kernel_rfl) (by kernel_rfl) (by kernel_rfl) tie52

noncomputable def C27 : Entry := fun args w K Kp => unArgs [.one (.ptr), .one (.int .u64)] args.toList fun x => F.mheap_Heap_Of env x.1 x.2.1 (fun r1 w' => K (.int .i64 r1) w') w
noncomputable def body27 : Code := (Tryz.f27.body).getD .skip
def ann27 : Ann := { loops := [], joins := [] }
def T0.mheap_Heap_Of (E : Env) (c_arena_Map_At : ∀ (a0 : (Option Addr)) (a1 : Int) (K : Int → World → Prop) (w : World), Prop) (a0 : (Option Addr)) (a1 : Int) (K : Int → World → Prop) (w : World) : Prop :=
 NC a0 fun p1 =>
 ∃ x2 : (Option Addr), w.cell? (p1.add 2) = some (.pointer x2) ∧
 c_arena_Map_At x2 a1 (fun r3 w4 =>
 K r3 w4
 ) w

theorem tieZ27 (c_arena_Map_At : ∀ (a0 : (Option Addr)) (a1 : Int) (K : Int → World → Prop) (w : World), Prop) (x : ArgsV [.one (.ptr), .one (.int .u64)]) (K Kp : Value → World → Prop) (w : World) : T0.mheap_Heap_Of env c_arena_Map_At x.1 x.2.1 (fun r1 w' => K (.int .i64 r1) w') w =
 ev Tryz.prog (tabC [(52, fun args w K Kp => unArgs [.one (.ptr), .one (.int .u64)] args.toList fun x => c_arena_Map_At x.1 x.2.1 (fun r1 w' => K (.int .i64 r1) w') w)]) (ground Tryz.prog) ann27 body27 (finQ Tryz.prog Tryz.f27 K Kp) (initF (mkArgs [.one (.ptr), .one (.int .u64)] x)) w := by kernel_rfl
theorem tie27 (x : ArgsV [.one (.ptr), .one (.int .u64)]) (K Kp : Value → World → Prop) (w : World) : F.mheap_Heap_Of env x.1 x.2.1 (fun r1 w' => K (.int .i64 r1) w') w =
 ev Tryz.prog (tabC [(52, C52)]) (ground Tryz.prog) ann27 body27 (finQ Tryz.prog Tryz.f27 K Kp) (initF (mkArgs [.one (.ptr), .one (.int .u64)] x)) w := tieZ27 (F.arena_Map_At env) x K Kp w
theorem fits27 : FitsOne Tryz.prog 27 C27 :=
 fits_of_tie (T := [(52, C52)]) (A := ann27) (fn := Tryz.f27) (c := body27) (fits_cons fits52 fits_nil) mixed Tryz.func27 Tryz.call27 (by kernel_rfl) (by kernel_rfl) (by kernel_rfl) tie27

noncomputable def C54 : Entry := fun args w K Kp => unArgs [.one (.sl), .one (.int .i64)] args.toList fun x => F._span_row_get env x.1 x.2.1 (fun r1 w' => K (.bool r1) w') w
noncomputable def body54 : Code := (Tryz.f54.body).getD .skip
def ann54 : Ann := { loops := [], joins := [] }
theorem tie54 (x : ArgsV [.one (.sl), .one (.int .i64)]) (K Kp : Value → World → Prop) (w : World) : F._span_row_get env x.1 x.2.1 (fun r1 w' => K (.bool r1) w') w =
 ev Tryz.prog (tabC []) (ground Tryz.prog) ann54 body54 (finQ Tryz.prog Tryz.f54 K Kp) (initF (mkArgs [.one (.sl), .one (.int .i64)] x)) w := by kernel_rfl
theorem fits54 : FitsOne Tryz.prog 54 C54 :=
 fits_of_tie (T := []) (A := ann54) (fn := Tryz.f54) (c := body54) fits_nil mixed Tryz.func54 Tryz.call54 (by kernel_rfl) (by kernel_rfl) (by kernel_rfl) tie54

noncomputable def C55 : Entry := fun args w K Kp => unArgs [.one (.sl), .one (.int .i64)] args.toList fun x => F._span_row_clear env x.1 x.2.1 (fun  w' => K (.tuple ⟨[]⟩) w') w
noncomputable def body55 : Code := (Tryz.f55.body).getD .skip
def ann55 : Ann := { loops := [], joins := [] }
theorem tie55 (x : ArgsV [.one (.sl), .one (.int .i64)]) (K Kp : Value → World → Prop) (w : World) : F._span_row_clear env x.1 x.2.1 (fun  w' => K (.tuple ⟨[]⟩) w') w =
 ev Tryz.prog (tabC []) (ground Tryz.prog) ann55 body55 (finQ Tryz.prog Tryz.f55 K Kp) (initF (mkArgs [.one (.sl), .one (.int .i64)] x)) w := by kernel_rfl
theorem fits55 : FitsOne Tryz.prog 55 C55 :=
 fits_of_tie (T := []) (A := ann55) (fn := Tryz.f55) (c := body55) fits_nil mixed Tryz.func55 Tryz.call55 (by kernel_rfl) (by kernel_rfl) (by kernel_rfl) tie55

noncomputable def C28 : Entry := fun args w K Kp => unArgs [.one (.ptr), .one (.int .i64)] args.toList fun x => F.span_Span_Give env x.1 x.2.1 (fun r1 w' => K (.int .i64 r1) w') w
noncomputable def body28 : Code := (Tryz.f28.body).getD .skip
def ann28 : Ann := { loops := [], joins := [] }
def T0.span_Span_Give (E : Env) (c_span_Span_there : ∀ (a0 : (Option Addr)) (a1 : Int) (K : Bool → World → Prop) (w : World), Prop) (c__span_row_get : ∀ (a0 : SlV) (a1 : Int) (K : Bool → World → Prop) (w : World), Prop) (c__span_row_clear : ∀ (a0 : SlV) (a1 : Int) (K : World → Prop) (w : World), Prop) (a0 : (Option Addr)) (a1 : Int) (K : Int → World → Prop) (w : World) : Prop :=
 NC a0 fun p1 =>
 ∃ x2 : Int, w.cell? (p1.add 2) = some (.int .i64 x2) ∧
 CND ((x2 : Int) != 2) (
 K 33 w
 ) (
 c_span_Span_there a0 a1 (fun r3 w4 =>
 CND (!r3) (
 K 1 w4
 ) (
 NC a0 fun p5 =>
 ∃ x6 : SlV, w4.cell? (p5.add 11) = some (.slice x6.base x6.len x6.cap) ∧
 c__span_row_get x6 a1 (fun r7 w8 =>
 CND (!r7) (
 K 31 w8
 ) (
 NC a0 fun p9 =>
 ∃ x10 : SlV, w8.cell? (p9.add 11) = some (.slice x10.base x10.len x10.cap) ∧
 c__span_row_clear x10 a1 (fun  w11 =>
 NC a0 fun p12 =>
 ∃ x13 : Int, w11.cell? (p12.add 7) = some (.int .i64 x13) ∧
 NC a0 fun p14 =>
 stCells (p14.add 7) 0 [.int .i64 (i64 (x13 - 1))] w11 fun w15 =>
 NC a0 fun p16 =>
 ∃ x17 : Int, w15.cell? (p16.add 13) = some (.int .i64 x17) ∧
 NC a0 fun p18 =>
 stCells (p18.add 13) 0 [.int .i64 (minI x17 a1)] w15 fun w19 =>
 K 0 w19
 ) w8
 )
 ) w4
 )
 ) w
 )

theorem tieZ28 (c_span_Span_there : ∀ (a0 : (Option Addr)) (a1 : Int) (K : Bool → World → Prop) (w : World), Prop) (c__span_row_get : ∀ (a0 : SlV) (a1 : Int) (K : Bool → World → Prop) (w : World), Prop) (c__span_row_clear : ∀ (a0 : SlV) (a1 : Int) (K : World → Prop) (w : World), Prop) (x : ArgsV [.one (.ptr), .one (.int .i64)]) (K Kp : Value → World → Prop) (w : World) : T0.span_Span_Give env c_span_Span_there c__span_row_get c__span_row_clear x.1 x.2.1 (fun r1 w' => K (.int .i64 r1) w') w =
 ev Tryz.prog (tabC [(53, fun args w K Kp => unArgs [.one (.ptr), .one (.int .i64)] args.toList fun x => c_span_Span_there x.1 x.2.1 (fun r1 w' => K (.bool r1) w') w), (54, fun args w K Kp => unArgs [.one (.sl), .one (.int .i64)] args.toList fun x => c__span_row_get x.1 x.2.1 (fun r1 w' => K (.bool r1) w') w), (55, fun args w K Kp => unArgs [.one (.sl), .one (.int .i64)] args.toList fun x => c__span_row_clear x.1 x.2.1 (fun  w' => K (.tuple ⟨[]⟩) w') w)]) (ground Tryz.prog) ann28 body28 (finQ Tryz.prog Tryz.f28 K Kp) (initF (mkArgs [.one (.ptr), .one (.int .i64)] x)) w := by kernel_rfl
theorem tie28 (x : ArgsV [.one (.ptr), .one (.int .i64)]) (K Kp : Value → World → Prop) (w : World) : F.span_Span_Give env x.1 x.2.1 (fun r1 w' => K (.int .i64 r1) w') w =
 ev Tryz.prog (tabC [(53, C53), (54, C54), (55, C55)]) (ground Tryz.prog) ann28 body28 (finQ Tryz.prog Tryz.f28 K Kp) (initF (mkArgs [.one (.ptr), .one (.int .i64)] x)) w := tieZ28 (F.span_Span_there env) (F._span_row_get env) (F._span_row_clear env) x K Kp w
theorem fits28 : FitsOne Tryz.prog 28 C28 :=
 fits_of_tie (T := [(53, C53), (54, C54), (55, C55)]) (A := ann28) (fn := Tryz.f28) (c := body28) (fits_cons fits53 (fits_cons fits54 (fits_cons fits55 fits_nil))) mixed Tryz.func28 Tryz.call28 (by kernel_rfl) (by kernel_rfl) (by kernel_rfl) tie28

noncomputable def C56 : Entry := fun args w K Kp => unArgs [.one (.ptr)] args.toList fun x => F.span_Span_Die env x.1 (fun r1 w' => K (.int .i64 r1) w') w
noncomputable def body56 : Code := (Tryz.f56.body).getD .skip
def ann56 : Ann := { loops := [], joins := [(2, [(16, .one (.bool))])] }
theorem tie56 (x : ArgsV [.one (.ptr)]) (K Kp : Value → World → Prop) (w : World) : F.span_Span_Die env x.1 (fun r1 w' => K (.int .i64 r1) w') w =
 ev Tryz.prog (tabC []) (ground Tryz.prog) ann56 body56 (finQ Tryz.prog Tryz.f56 K Kp) (initF (mkArgs [.one (.ptr)] x)) w := by kernel_rfl
theorem fits56 : FitsOne Tryz.prog 56 C56 :=
 fits_of_tie (T := []) (A := ann56) (fn := Tryz.f56) (c := body56) fits_nil mixed Tryz.func56 Tryz.call56 (by kernel_rfl) (by kernel_rfl) (by kernel_rfl) tie56

noncomputable def C81 : Entry := fun args w K Kp => unArgs [.one (.ptr), .one (.int .i64)] args.toList fun x => F.fix_Fix_Live env x.1 x.2.1 (fun r1 w' => K (.bool r1) w') w
noncomputable def body81 : Code := (Tryz.f81.body).getD .skip
def ann81 : Ann := { loops := [], joins := [] }
theorem tie81 (x : ArgsV [.one (.ptr), .one (.int .i64)]) (K Kp : Value → World → Prop) (w : World) : F.fix_Fix_Live env x.1 x.2.1 (fun r1 w' => K (.bool r1) w') w =
 ev Tryz.prog (tabC []) (ground Tryz.prog) ann81 body81 (finQ Tryz.prog Tryz.f81 K Kp) (initF (mkArgs [.one (.ptr), .one (.int .i64)] x)) w := by kernel_rfl
theorem fits81 : FitsOne Tryz.prog 81 C81 :=
 fits_of_tie (T := []) (A := ann81) (fn := Tryz.f81) (c := body81) fits_nil mixed Tryz.func81 Tryz.call81 (by kernel_rfl) (by kernel_rfl) (by kernel_rfl) tie81

noncomputable def C59 : Entry := fun args w K Kp => unArgs [.one (.ptr), .one (.int .i64)] args.toList fun x => F.fix_Fix_Give env x.1 x.2.1 (fun r1 w' => K (.int .i64 r1) w') w
noncomputable def body59 : Code := (Tryz.f59.body).getD .skip
def ann59 : Ann := { loops := [], joins := [] }
def T0.fix_Fix_Give (E : Env) (c_fix_Fix_Live : ∀ (a0 : (Option Addr)) (a1 : Int) (K : Bool → World → Prop) (w : World), Prop) (a0 : (Option Addr)) (a1 : Int) (K : Int → World → Prop) (w : World) : Prop :=
 c_fix_Fix_Live a0 a1 (fun r1 w2 =>
 CND (!r1) (
 K 31 w2
 ) (
 NC a0 fun p3 =>
 ∃ x4 : SlV, w2.cell? (p3.add 1) = some (.slice x4.base x4.len x4.cap) ∧
 NC x4.base fun p5 =>
 ((0 : Int) ≤ (i64 (a1 - 1)) ∧ ((i64 (a1 - 1)) : Int) < (x4.len : Nat)) ∧
 ∃ x6 : (Option Addr), w2.cell? (p5.add (Int.toNat (i64 (a1 - 1)) * 1)) = some (.pointer x6) ∧
 NC a0 fun p7 =>
 ∃ x8 : (Option Addr), w2.cell? (p7.add 2) = some (.pointer x8) ∧
 NC x6 fun p9 =>
 stCells (p9.add 1) 0 [.bool false] w2 fun w10 =>
 NC x6 fun p11 =>
 stCells (p11.add 2) 0 [.pointer x8] w10 fun w12 =>
 NC a0 fun p13 =>
 stCells (p13.add 2) 0 [.pointer x6] w12 fun w14 =>
 NC a0 fun p15 =>
 ∃ x16 : Int, w14.cell? (p15.add 3) = some (.int .i64 x16) ∧
 NC a0 fun p17 =>
 stCells (p17.add 3) 0 [.int .i64 (i64 (x16 - 1))] w14 fun w18 =>
 K 0 w18
 )
 ) w

theorem tieZ59 (c_fix_Fix_Live : ∀ (a0 : (Option Addr)) (a1 : Int) (K : Bool → World → Prop) (w : World), Prop) (x : ArgsV [.one (.ptr), .one (.int .i64)]) (K Kp : Value → World → Prop) (w : World) : T0.fix_Fix_Give env c_fix_Fix_Live x.1 x.2.1 (fun r1 w' => K (.int .i64 r1) w') w =
 ev Tryz.prog (tabC [(81, fun args w K Kp => unArgs [.one (.ptr), .one (.int .i64)] args.toList fun x => c_fix_Fix_Live x.1 x.2.1 (fun r1 w' => K (.bool r1) w') w)]) (ground Tryz.prog) ann59 body59 (finQ Tryz.prog Tryz.f59 K Kp) (initF (mkArgs [.one (.ptr), .one (.int .i64)] x)) w := by kernel_rfl
theorem tie59 (x : ArgsV [.one (.ptr), .one (.int .i64)]) (K Kp : Value → World → Prop) (w : World) : F.fix_Fix_Give env x.1 x.2.1 (fun r1 w' => K (.int .i64 r1) w') w =
 ev Tryz.prog (tabC [(81, C81)]) (ground Tryz.prog) ann59 body59 (finQ Tryz.prog Tryz.f59 K Kp) (initF (mkArgs [.one (.ptr), .one (.int .i64)] x)) w := tieZ59 (F.fix_Fix_Live env) x K Kp w
theorem fits59 : FitsOne Tryz.prog 59 C59 :=
 fits_of_tie (T := [(81, C81)]) (A := ann59) (fn := Tryz.f59) (c := body59) (fits_cons fits81 fits_nil) mixed Tryz.func59 Tryz.call59 (by kernel_rfl) (by kernel_rfl) (by kernel_rfl) tie59

noncomputable def C29 : Entry := fun args w K Kp => unArgs [.one (.ptr), .one (.int .i64)] args.toList fun x => F.mheap_Heap_Free env x.1 x.2.1 (fun r1 w' => K (.int .i64 r1) w') w
noncomputable def body29 : Code := (Tryz.f29.body).getD .skip
def ann29 : Ann := { loops := [], joins := [] }
def T0.mheap_Heap_Free (E : Env) (c_span_Span_Die : ∀ (a0 : (Option Addr)) (K : Int → World → Prop) (w : World), Prop) (c_span_Span_Info : ∀ (a0 : (Option Addr)) (K : Int → Int → Int → Int → Bool → Int → Int → Int → Bool → Bool → World → Prop) (w : World), Prop) (c_arena_Map_Set : ∀ (a0 : (Option Addr)) (a1 : Int) (a2 : Int) (a3 : Int) (K : Int → World → Prop) (w : World), Prop) (c_radix_Tree_Give : ∀ (a0 : (Option Addr)) (a1 : Int) (a2 : Int) (K : Int → World → Prop) (w : World), Prop) (c_fix_Fix_Give : ∀ (a0 : (Option Addr)) (a1 : Int) (K : Int → World → Prop) (w : World), Prop) (a0 : (Option Addr)) (a1 : Int) (K : Int → World → Prop) (w : World) : Prop :=
 NC a0 fun p1 =>
 ∃ x2 : (Option Nat), w.cell? (p1.add 4) = some (.map x2) ∧
 LKP .i64 a1 x2 w (.pointer none) fun v3 ok4 es5 =>
 ∃ x6 : (Option Addr), v3 = .pointer x6 ∧
 CND (!ok4) (
 K 35 w
 ) (
 c_span_Span_Die x6 (fun r7 w8 =>
 CND ((r7 : Int) != 0) (
 K r7 w8
 ) (
 c_span_Span_Info x6 (fun r9 r10 r11 r12 r13 r14 r15 r16 r17 r18 w19 =>
 AL (.cells #[.int .u64 0, .int .i64 0, .int .i64 0, .int .i64 0, .bool false, .int .i64 0, .int .i64 0, .int .i64 0, .bool false, .bool false] E.t_api_Info) w19 fun b20 w21 =>
 stCells (Addr.mk b20 0 none) 0 [.int .u64 r9, .int .i64 r10, .int .i64 r11, .int .i64 r12, .bool r13, .int .i64 r14, .int .i64 r15, .int .i64 r16, .bool r17, .bool r18] w21 fun w22 =>
 ∃ x23 : Int, w22.drew.cell? (Addr.mk b20 0 none) = some (.int .u64 x23) ∧
 8192 ≠ (0 : Int) ∧
 ∃ x24 : Int, w22.drew.cell? ((Addr.mk b20 0 none).add 1) = some (.int .i64 x24) ∧
 NC a0 fun p25 =>
 ∃ x26 : (Option Addr), w22.drew.cell? (p25.add 2) = some (.pointer x26) ∧
 c_arena_Map_Set x26 (u64 (Int.tdiv x23 8192)) (u64 (x24)) 0 (fun r27 w28 =>
 NC a0 fun p29 =>
 ∃ x30 : (Option Addr), w28.cell? (p29.add 1) = some (.pointer x30) ∧
 c_radix_Tree_Give x30 (u64 (Int.tdiv x23 8192)) (u64 (x24)) (fun r31 w32 =>
 NC a0 fun p33 =>
 ∃ x34 : (Option Addr), w32.cell? (p33.add 3) = some (.pointer x34) ∧
 c_fix_Fix_Give x34 a1 (fun r35 w36 =>
 NC a0 fun p37 =>
 ∃ x38 : Int, w36.cell? (p37.add 70) = some (.int .u64 x38) ∧
 NC a0 fun p39 =>
 stCells (p39.add 70) 0 [.int .u64 (u64 (x38 - (u64 (x24))))] w36 fun w40 =>
 NC a0 fun p41 =>
 ∃ x42 : (Option Nat), w40.cell? (p41.add 4) = some (.map x42) ∧
 MDEL .i64 a1 x42 w40 fun w43 =>
 K 0 w43
 ) w32
 ) w28
 ) w22.drew
 ) w8
 )
 ) w
 )

theorem tieZ29 (c_span_Span_Die : ∀ (a0 : (Option Addr)) (K : Int → World → Prop) (w : World), Prop) (c_span_Span_Info : ∀ (a0 : (Option Addr)) (K : Int → Int → Int → Int → Bool → Int → Int → Int → Bool → Bool → World → Prop) (w : World), Prop) (c_arena_Map_Set : ∀ (a0 : (Option Addr)) (a1 : Int) (a2 : Int) (a3 : Int) (K : Int → World → Prop) (w : World), Prop) (c_radix_Tree_Give : ∀ (a0 : (Option Addr)) (a1 : Int) (a2 : Int) (K : Int → World → Prop) (w : World), Prop) (c_fix_Fix_Give : ∀ (a0 : (Option Addr)) (a1 : Int) (K : Int → World → Prop) (w : World), Prop) (x : ArgsV [.one (.ptr), .one (.int .i64)]) (K Kp : Value → World → Prop) (w : World) : T0.mheap_Heap_Free env c_span_Span_Die c_span_Span_Info c_arena_Map_Set c_radix_Tree_Give c_fix_Fix_Give x.1 x.2.1 (fun r1 w' => K (.int .i64 r1) w') w =
 ev Tryz.prog (tabC [(56, fun args w K Kp => unArgs [.one (.ptr)] args.toList fun x => c_span_Span_Die x.1 (fun r1 w' => K (.int .i64 r1) w') w), (26, fun args w K Kp => unArgs [.one (.ptr)] args.toList fun x => c_span_Span_Info x.1 (fun r1 r2 r3 r4 r5 r6 r7 r8 r9 r10 w' => K (.agg ⟨[.int .u64 r1, .int .i64 r2, .int .i64 r3, .int .i64 r4, .bool r5, .int .i64 r6, .int .i64 r7, .int .i64 r8, .bool r9, .bool r10]⟩) w') w), (57, fun args w K Kp => unArgs [.one (.ptr), .one (.int .u64), .one (.int .u64), .one (.int .i64)] args.toList fun x => c_arena_Map_Set x.1 x.2.1 x.2.2.1 x.2.2.2.1 (fun r1 w' => K (.int .i64 r1) w') w), (58, fun args w K Kp => unArgs [.one (.ptr), .one (.int .u64), .one (.int .u64)] args.toList fun x => c_radix_Tree_Give x.1 x.2.1 x.2.2.1 (fun r1 w' => K (.int .i64 r1) w') w), (59, fun args w K Kp => unArgs [.one (.ptr), .one (.int .i64)] args.toList fun x => c_fix_Fix_Give x.1 x.2.1 (fun r1 w' => K (.int .i64 r1) w') w)]) (ground Tryz.prog) ann29 body29 (finQ Tryz.prog Tryz.f29 K Kp) (initF (mkArgs [.one (.ptr), .one (.int .i64)] x)) w := by kernel_rfl
theorem tie29 (x : ArgsV [.one (.ptr), .one (.int .i64)]) (K Kp : Value → World → Prop) (w : World) : F.mheap_Heap_Free env x.1 x.2.1 (fun r1 w' => K (.int .i64 r1) w') w =
 ev Tryz.prog (tabC [(56, C56), (26, C26), (57, C57), (58, C58), (59, C59)]) (ground Tryz.prog) ann29 body29 (finQ Tryz.prog Tryz.f29 K Kp) (initF (mkArgs [.one (.ptr), .one (.int .i64)] x)) w := tieZ29 (F.span_Span_Die env) (F.span_Span_Info env) (F.arena_Map_Set env) (F.radix_Tree_Give env) (F.fix_Fix_Give env) x K Kp w
theorem fits29 : FitsOne Tryz.prog 29 C29 :=
 fits_of_tie (T := [(56, C56), (26, C26), (57, C57), (58, C58), (59, C59)]) (A := ann29) (fn := Tryz.f29) (c := body29) (fits_cons fits56 (fits_cons fits26 (fits_cons fits57 (fits_cons fits58 (fits_cons fits59 fits_nil))))) mixed Tryz.func29 Tryz.call29 (by kernel_rfl) (by kernel_rfl) (by kernel_rfl) tie29

noncomputable def C82 : Entry := fun args w K Kp => unArgs [.one (.int .u32), .one (.int .u32)] args.toList fun x => F.num_Quot env x.1 x.2.1 (fun r1 w' => K (.int .u32 r1) w') w
noncomputable def body82 : Code := (Tryz.f82.body).getD .skip
def ann82 : Ann := { loops := [], joins := [] }
theorem tie82 (x : ArgsV [.one (.int .u32), .one (.int .u32)]) (K Kp : Value → World → Prop) (w : World) : F.num_Quot env x.1 x.2.1 (fun r1 w' => K (.int .u32 r1) w') w =
 ev Tryz.prog (tabC []) (ground Tryz.prog) ann82 body82 (finQ Tryz.prog Tryz.f82 K Kp) (initF (mkArgs [.one (.int .u32), .one (.int .u32)] x)) w := by kernel_rfl
theorem fits82 : FitsOne Tryz.prog 82 C82 :=
 fits_of_tie (T := []) (A := ann82) (fn := Tryz.f82) (c := body82) fits_nil mixed Tryz.func82 Tryz.call82 (by kernel_rfl) (by kernel_rfl) (by kernel_rfl) tie82

noncomputable def C60 : Entry := fun args w K Kp => unArgs [.one (.ptr), .one (.int .u64)] args.toList fun x => F.span_Span_Index env x.1 x.2.1 (fun r1 r2 w' => K (.tuple ⟨[.int .i64 r1, .int .i64 r2]⟩) w') w
noncomputable def body60 : Code := (Tryz.f60.body).getD .skip
def ann60 : Ann := { loops := [], joins := [(2, [(36, .one (.bool))])] }
def T0.span_Span_Index (E : Env) (c_num_Quot : ∀ (a0 : Int) (a1 : Int) (K : Int → World → Prop) (w : World), Prop) (a0 : (Option Addr)) (a1 : Int) (K : Int → Int → World → Prop) (w : World) : Prop :=
 JOIN (Bool × Unit) (fun J1 =>
 NC a0 fun p4 =>
 ∃ x5 : Int, w.drew.cell? p4 = some (.int .u64 x5) ∧
 CND (decide ((a1 : Int) < x5)) (
 J1 (true, ()) w.drew
 ) (
 NC a0 fun p6 =>
 ∃ x7 : Int, w.drew.cell? p6 = some (.int .u64 x7) ∧
 NC a0 fun p8 =>
 ∃ x9 : Int, w.drew.cell? (p8.add 6) = some (.int .i64 x9) ∧
 NC a0 fun p10 =>
 ∃ x11 : Int, w.drew.cell? (p10.add 5) = some (.int .i64 x11) ∧
 J1 (decide (((u64 (a1 - x7)) : Int) ≥ (u64 ((u64 (x9)) * (u64 (x11))))), ()) w.drew
 )
 ) fun s2 _ w3 =>
 CND (s2.1) (
 K 0 10 w3
 ) (
 NC a0 fun p12 =>
 ∃ x13 : Int, w3.cell? p12 = some (.int .u64 x13) ∧
 NC a0 fun p14 =>
 ∃ x15 : Int, w3.cell? (p14.add 10) = some (.int .u32 x15) ∧
 CND (decide ((x15 : Int) > 0)) (
 NC a0 fun p16 =>
 ∃ x17 : Int, w3.cell? (p16.add 10) = some (.int .u32 x17) ∧
 c_num_Quot (IntKind.wrap .u32 (u64 (a1 - x13))) x17 (fun r18 w19 =>
 K (i64 (r18)) 0 w19
 ) w3
 ) (
 NC a0 fun p20 =>
 ∃ x21 : Int, w3.cell? (p20.add 5) = some (.int .i64 x21) ∧
 (u64 (x21)) ≠ (0 : Int) ∧
 LET (i64 (u64 (Int.tdiv (u64 (a1 - x13)) (u64 (x21)))) : Int) fun t22 =>
 K t22 0 w3
 )
 )

theorem tieZ60 (c_num_Quot : ∀ (a0 : Int) (a1 : Int) (K : Int → World → Prop) (w : World), Prop) (x : ArgsV [.one (.ptr), .one (.int .u64)]) (K Kp : Value → World → Prop) (w : World) : T0.span_Span_Index env c_num_Quot x.1 x.2.1 (fun r1 r2 w' => K (.tuple ⟨[.int .i64 r1, .int .i64 r2]⟩) w') w =
 ev Tryz.prog (tabC [(82, fun args w K Kp => unArgs [.one (.int .u32), .one (.int .u32)] args.toList fun x => c_num_Quot x.1 x.2.1 (fun r1 w' => K (.int .u32 r1) w') w)]) (ground Tryz.prog) ann60 body60 (finQ Tryz.prog Tryz.f60 K Kp) (initF (mkArgs [.one (.ptr), .one (.int .u64)] x)) w := by kernel_rfl
theorem tie60 (x : ArgsV [.one (.ptr), .one (.int .u64)]) (K Kp : Value → World → Prop) (w : World) : F.span_Span_Index env x.1 x.2.1 (fun r1 r2 w' => K (.tuple ⟨[.int .i64 r1, .int .i64 r2]⟩) w') w =
 ev Tryz.prog (tabC [(82, C82)]) (ground Tryz.prog) ann60 body60 (finQ Tryz.prog Tryz.f60 K Kp) (initF (mkArgs [.one (.ptr), .one (.int .u64)] x)) w := tieZ60 (F.num_Quot env) x K Kp w
theorem fits60 : FitsOne Tryz.prog 60 C60 :=
 fits_of_tie (T := [(82, C82)]) (A := ann60) (fn := Tryz.f60) (c := body60) (fits_cons fits82 fits_nil) mixed Tryz.func60 Tryz.call60 (by kernel_rfl) (by kernel_rfl) (by kernel_rfl) tie60

noncomputable def C30 : Entry := fun args w K Kp => unArgs [.one (.ptr), .one (.int .i64), .one (.int .u64)] args.toList fun x => F.stack_Stacks_give env x.1 x.2.1 x.2.2.1 (fun  w' => K (.tuple ⟨[]⟩) w') w
noncomputable def body30 : Code := (Tryz.f30.body).getD .skip
def ann30 : Ann := { loops := [], joins := [] }
def T0.stack_Stacks_give (E : Env) (c_mheap_Heap_Of : ∀ (a0 : (Option Addr)) (a1 : Int) (K : Int → World → Prop) (w : World), Prop) (c_span_Span_Index : ∀ (a0 : (Option Addr)) (a1 : Int) (K : Int → Int → World → Prop) (w : World), Prop) (c_span_Span_Give : ∀ (a0 : (Option Addr)) (a1 : Int) (K : Int → World → Prop) (w : World), Prop) (c_span_Span_Info : ∀ (a0 : (Option Addr)) (K : Int → Int → Int → Int → Bool → Int → Int → Int → Bool → Bool → World → Prop) (w : World), Prop) (c_mheap_Heap_Free : ∀ (a0 : (Option Addr)) (a1 : Int) (K : Int → World → Prop) (w : World), Prop) (a0 : (Option Addr)) (a1 : Int) (a2 : Int) (K : World → Prop) (w : World) : Prop :=
 NC a0 fun p1 =>
 ∃ x2 : (Option Addr), w.cell? p1 = some (.pointer x2) ∧
 c_mheap_Heap_Of x2 a2 (fun r3 w4 =>
 NC a0 fun p5 =>
 ((0 : Int) ≤ a1 ∧ (a1 : Int) < (4 : Nat)) ∧
 ∃ x6 : (Option Nat), w4.cell? ((p5.add 257).add (Int.toNat a1 * 1)) = some (.map x6) ∧
 LKP .i64 r3 x6 w4 (.pointer none) fun v7 ok8 es9 =>
 ∃ x10 : (Option Addr), v7 = .pointer x10 ∧
 CND (x10.isNone) (
 K  w4
 ) (
 c_span_Span_Index x10 a2 (fun r11 r12 w13 =>
 c_span_Span_Give x10 r11 (fun r14 w15 =>
 c_span_Span_Info x10 (fun r16 r17 r18 r19 r20 r21 r22 r23 r24 r25 w26 =>
 CND ((r23 : Int) == 0) (
 NC a0 fun p27 =>
 ((0 : Int) ≤ a1 ∧ (a1 : Int) < (4 : Nat)) ∧
 ∃ x28 : (Option Nat), w26.cell? ((p27.add 257).add (Int.toNat a1 * 1)) = some (.map x28) ∧
 MDEL .i64 r3 x28 w26 fun w29 =>
 NC a0 fun p30 =>
 ∃ x31 : (Option Addr), w29.cell? p30 = some (.pointer x31) ∧
 c_mheap_Heap_Free x31 r3 (fun r32 w33 =>
 K  w33
 ) w29
 ) (
 K  w26
 )
 ) w15
 ) w13
 ) w4
 )
 ) w

theorem tieZ30 (c_mheap_Heap_Of : ∀ (a0 : (Option Addr)) (a1 : Int) (K : Int → World → Prop) (w : World), Prop) (c_span_Span_Index : ∀ (a0 : (Option Addr)) (a1 : Int) (K : Int → Int → World → Prop) (w : World), Prop) (c_span_Span_Give : ∀ (a0 : (Option Addr)) (a1 : Int) (K : Int → World → Prop) (w : World), Prop) (c_span_Span_Info : ∀ (a0 : (Option Addr)) (K : Int → Int → Int → Int → Bool → Int → Int → Int → Bool → Bool → World → Prop) (w : World), Prop) (c_mheap_Heap_Free : ∀ (a0 : (Option Addr)) (a1 : Int) (K : Int → World → Prop) (w : World), Prop) (x : ArgsV [.one (.ptr), .one (.int .i64), .one (.int .u64)]) (K Kp : Value → World → Prop) (w : World) : T0.stack_Stacks_give env c_mheap_Heap_Of c_span_Span_Index c_span_Span_Give c_span_Span_Info c_mheap_Heap_Free x.1 x.2.1 x.2.2.1 (fun  w' => K (.tuple ⟨[]⟩) w') w =
 ev Tryz.prog (tabC [(27, fun args w K Kp => unArgs [.one (.ptr), .one (.int .u64)] args.toList fun x => c_mheap_Heap_Of x.1 x.2.1 (fun r1 w' => K (.int .i64 r1) w') w), (60, fun args w K Kp => unArgs [.one (.ptr), .one (.int .u64)] args.toList fun x => c_span_Span_Index x.1 x.2.1 (fun r1 r2 w' => K (.tuple ⟨[.int .i64 r1, .int .i64 r2]⟩) w') w), (28, fun args w K Kp => unArgs [.one (.ptr), .one (.int .i64)] args.toList fun x => c_span_Span_Give x.1 x.2.1 (fun r1 w' => K (.int .i64 r1) w') w), (26, fun args w K Kp => unArgs [.one (.ptr)] args.toList fun x => c_span_Span_Info x.1 (fun r1 r2 r3 r4 r5 r6 r7 r8 r9 r10 w' => K (.agg ⟨[.int .u64 r1, .int .i64 r2, .int .i64 r3, .int .i64 r4, .bool r5, .int .i64 r6, .int .i64 r7, .int .i64 r8, .bool r9, .bool r10]⟩) w') w), (29, fun args w K Kp => unArgs [.one (.ptr), .one (.int .i64)] args.toList fun x => c_mheap_Heap_Free x.1 x.2.1 (fun r1 w' => K (.int .i64 r1) w') w)]) (ground Tryz.prog) ann30 body30 (finQ Tryz.prog Tryz.f30 K Kp) (initF (mkArgs [.one (.ptr), .one (.int .i64), .one (.int .u64)] x)) w := by kernel_rfl
theorem tie30 (x : ArgsV [.one (.ptr), .one (.int .i64), .one (.int .u64)]) (K Kp : Value → World → Prop) (w : World) : F.stack_Stacks_give env x.1 x.2.1 x.2.2.1 (fun  w' => K (.tuple ⟨[]⟩) w') w =
 ev Tryz.prog (tabC [(27, C27), (60, C60), (28, C28), (26, C26), (29, C29)]) (ground Tryz.prog) ann30 body30 (finQ Tryz.prog Tryz.f30 K Kp) (initF (mkArgs [.one (.ptr), .one (.int .i64), .one (.int .u64)] x)) w := tieZ30 (F.mheap_Heap_Of env) (F.span_Span_Index env) (F.span_Span_Give env) (F.span_Span_Info env) (F.mheap_Heap_Free env) x K Kp w
theorem fits30 : FitsOne Tryz.prog 30 C30 :=
 fits_of_tie (T := [(27, C27), (60, C60), (28, C28), (26, C26), (29, C29)]) (A := ann30) (fn := Tryz.f30) (c := body30) (fits_cons fits27 (fits_cons fits60 (fits_cons fits28 (fits_cons fits26 (fits_cons fits29 fits_nil))))) mixed Tryz.func30 Tryz.call30 (by kernel_rfl) (by kernel_rfl) (by kernel_rfl) tie30

noncomputable def C12 : Entry := fun args w K Kp => unArgs [.one (.ptr), .one (.int .i64), .one (.int .u64)] args.toList fun x => F.stack_Stacks_Free env x.1 x.2.1 x.2.2.1 (fun r1 r2 w' => K (.tuple ⟨[.int .u64 r1, .int .i64 r2]⟩) w') w
noncomputable def body12 : Code := (Tryz.f12.body).getD .skip
def ann12 : Ann := { loops := [(17, [])], joins := [(13, []), (19, [])] }
def T0.stack_Stacks_Free (E : Env) (c_stack_is : ∀ (a0 : Int) (K : Bool → World → Prop) (w : World), Prop) (c_stack_order : ∀ (a0 : Int) (K : Int → World → Prop) (w : World), Prop) (c_mheap_Heap_Of : ∀ (a0 : (Option Addr)) (a1 : Int) (K : Int → World → Prop) (w : World), Prop) (c_mheap_Heap_Span : ∀ (a0 : (Option Addr)) (a1 : Int) (K : (Option Addr) → Int → World → Prop) (w : World), Prop) (c_span_Span_Give : ∀ (a0 : (Option Addr)) (a1 : Int) (K : Int → World → Prop) (w : World), Prop) (c_mheap_Heap_Free : ∀ (a0 : (Option Addr)) (a1 : Int) (K : Int → World → Prop) (w : World), Prop) (c_stack_row_pop : ∀ (a0 : (Option Addr)) (K : Int → World → Prop) (w : World), Prop) (c_stack_Stacks_give : ∀ (a0 : (Option Addr)) (a1 : Int) (a2 : Int) (K : World → Prop) (w : World), Prop) (a0 : (Option Addr)) (a1 : Int) (a2 : Int) (K : Int → Int → World → Prop) (w : World) : Prop :=
 c_stack_is a1 (fun r1 w2 =>
 CND (!r1) (
 K 0 1 w2
 ) (
 NC a0 fun p3 =>
 ∃ x4 : (Option Nat), w2.cell? (p3.add 261) = some (.map x4) ∧
 LKP .u64 a2 x4 w2 (.int .u64 0) fun v5 ok6 es7 =>
 ∃ x8 : Int, v5 = .int .u64 x8 ∧
 CND (!ok6) (
 K 0 10 w2
 ) (
 NC a0 fun p9 =>
 ∃ x10 : (Option Nat), w2.cell? (p9.add 261) = some (.map x10) ∧
 MDEL .u64 a2 x10 w2 fun w11 =>
 c_stack_order x8 (fun r12 w13 =>
 CND (decide ((r12 : Int) ≥ 4)) (
 NC a0 fun p14 =>
 ∃ x15 : (Option Addr), w13.cell? p14 = some (.pointer x15) ∧
 c_mheap_Heap_Of x15 a2 (fun r16 w17 =>
 JOIN (Unit) (fun J18 =>
 NC a0 fun p21 =>
 ∃ x22 : (Option Addr), w17.cell? p21 = some (.pointer x22) ∧
 c_mheap_Heap_Span x22 r16 (fun r23 r24 w25 =>
 CND ((r24 : Int) == 0) (
 c_span_Span_Give r23 0 (fun r26 w27 =>
 J18 (()) w27
 ) w25
 ) (
 J18 (()) w25
 )
 ) w17
 ) fun s19 _ w20 =>
 NC a0 fun p28 =>
 ∃ x29 : (Option Addr), w20.cell? p28 = some (.pointer x29) ∧
 c_mheap_Heap_Free x29 r16 (fun r30 w31 =>
 K x8 0 w31
 ) w20
 ) w13
 ) (
 NC a0 fun p32 =>
 ((0 : Int) ≤ a1 ∧ (a1 : Int) < (64 : Nat)) ∧
 ((0 : Int) ≤ r12 ∧ (r12 : Int) < (4 : Nat)) ∧
 JOIN (Unit) (fun J33 =>
 ∃ x36 : SlV, w13.cell? (((p32.add 1).add (Int.toNat a1 * 4)).add (Int.toNat r12 * 1)) = some (.slice x36.base x36.len x36.cap) ∧
 CND (decide (((u64 ((u64 (((x36.len : Nat) : Int))) * x8)) : Int) ≥ 32768)) (
 LOOP (Unit) (()) w13 fun s37 _ w38 next39 =>
 ∃ x40 : SlV, w38.cell? (((p32.add 1).add (Int.toNat a1 * 4)).add (Int.toNat r12 * 1)) = some (.slice x40.base x40.len x40.cap) ∧
 CND (decide (((u64 ((u64 (((x40.len : Nat) : Int))) * x8)) : Int) > 16384)) (
 c_stack_row_pop (some (((p32.add 1).add (Int.toNat a1 * 4)).add (Int.toNat r12 * 1))) (fun r41 w42 =>
 c_stack_Stacks_give a0 r12 r41 (fun  w43 =>
 next39 (()) w43
 ) w42
 ) w38
 ) (
 J33 (()) w38
 )
 ) (
 J33 (()) w13
 )
 ) fun s34 _ w35 =>
 ∃ x44 : SlV, w35.cell? (((p32.add 1).add (Int.toNat a1 * 4)).add (Int.toNat r12 * 1)) = some (.slice x44.base x44.len x44.cap) ∧
 AL (.cells ⟨[.int .u64 a2]⟩ E.t_uint64) w35 fun b45 w46 =>
 APP E.t_uint64 1 8 #[.int .u64 0] x44 ⟨(some (Addr.mk b45 0 none)), 1, 1⟩ w46 fun s47 w48 =>
 stCells (((p32.add 1).add (Int.toNat a1 * 4)).add (Int.toNat r12 * 1)) 0 [.slice s47.base s47.len s47.cap] w48 fun w49 =>
 K x8 0 w49
 )
 ) w11
 )
 )
 ) w

theorem tieZ12 (c_stack_is : ∀ (a0 : Int) (K : Bool → World → Prop) (w : World), Prop) (c_stack_order : ∀ (a0 : Int) (K : Int → World → Prop) (w : World), Prop) (c_mheap_Heap_Of : ∀ (a0 : (Option Addr)) (a1 : Int) (K : Int → World → Prop) (w : World), Prop) (c_mheap_Heap_Span : ∀ (a0 : (Option Addr)) (a1 : Int) (K : (Option Addr) → Int → World → Prop) (w : World), Prop) (c_span_Span_Give : ∀ (a0 : (Option Addr)) (a1 : Int) (K : Int → World → Prop) (w : World), Prop) (c_mheap_Heap_Free : ∀ (a0 : (Option Addr)) (a1 : Int) (K : Int → World → Prop) (w : World), Prop) (c_stack_row_pop : ∀ (a0 : (Option Addr)) (K : Int → World → Prop) (w : World), Prop) (c_stack_Stacks_give : ∀ (a0 : (Option Addr)) (a1 : Int) (a2 : Int) (K : World → Prop) (w : World), Prop) (x : ArgsV [.one (.ptr), .one (.int .i64), .one (.int .u64)]) (K Kp : Value → World → Prop) (w : World) : T0.stack_Stacks_Free env c_stack_is c_stack_order c_mheap_Heap_Of c_mheap_Heap_Span c_span_Span_Give c_mheap_Heap_Free c_stack_row_pop c_stack_Stacks_give x.1 x.2.1 x.2.2.1 (fun r1 r2 w' => K (.tuple ⟨[.int .u64 r1, .int .i64 r2]⟩) w') w =
 ev Tryz.prog (tabC [(21, fun args w K Kp => unArgs [.one (.int .i64)] args.toList fun x => c_stack_is x.1 (fun r1 w' => K (.bool r1) w') w), (22, fun args w K Kp => unArgs [.one (.int .u64)] args.toList fun x => c_stack_order x.1 (fun r1 w' => K (.int .i64 r1) w') w), (27, fun args w K Kp => unArgs [.one (.ptr), .one (.int .u64)] args.toList fun x => c_mheap_Heap_Of x.1 x.2.1 (fun r1 w' => K (.int .i64 r1) w') w), (25, fun args w K Kp => unArgs [.one (.ptr), .one (.int .i64)] args.toList fun x => c_mheap_Heap_Span x.1 x.2.1 (fun r1 r2 w' => K (.tuple ⟨[.pointer r1, .int .i64 r2]⟩) w') w), (28, fun args w K Kp => unArgs [.one (.ptr), .one (.int .i64)] args.toList fun x => c_span_Span_Give x.1 x.2.1 (fun r1 w' => K (.int .i64 r1) w') w), (29, fun args w K Kp => unArgs [.one (.ptr), .one (.int .i64)] args.toList fun x => c_mheap_Heap_Free x.1 x.2.1 (fun r1 w' => K (.int .i64 r1) w') w), (31, fun args w K Kp => unArgs [.one (.ptr)] args.toList fun x => c_stack_row_pop x.1 (fun r1 w' => K (.int .u64 r1) w') w), (30, fun args w K Kp => unArgs [.one (.ptr), .one (.int .i64), .one (.int .u64)] args.toList fun x => c_stack_Stacks_give x.1 x.2.1 x.2.2.1 (fun  w' => K (.tuple ⟨[]⟩) w') w)]) (ground Tryz.prog) ann12 body12 (finQ Tryz.prog Tryz.f12 K Kp) (initF (mkArgs [.one (.ptr), .one (.int .i64), .one (.int .u64)] x)) w := by kernel_rfl
theorem tie12 (x : ArgsV [.one (.ptr), .one (.int .i64), .one (.int .u64)]) (K Kp : Value → World → Prop) (w : World) : F.stack_Stacks_Free env x.1 x.2.1 x.2.2.1 (fun r1 r2 w' => K (.tuple ⟨[.int .u64 r1, .int .i64 r2]⟩) w') w =
 ev Tryz.prog (tabC [(21, C21), (22, C22), (27, C27), (25, C25), (28, C28), (29, C29), (31, C31), (30, C30)]) (ground Tryz.prog) ann12 body12 (finQ Tryz.prog Tryz.f12 K Kp) (initF (mkArgs [.one (.ptr), .one (.int .i64), .one (.int .u64)] x)) w := tieZ12 (F.stack_is env) (F.stack_order env) (F.mheap_Heap_Of env) (F.mheap_Heap_Span env) (F.span_Span_Give env) (F.mheap_Heap_Free env) (F.stack_row_pop env) (F.stack_Stacks_give env) x K Kp w
theorem fits12 : FitsOne Tryz.prog 12 C12 :=
 fits_of_tie (T := [(21, C21), (22, C22), (27, C27), (25, C25), (28, C28), (29, C29), (31, C31), (30, C30)]) (A := ann12) (fn := Tryz.f12) (c := body12) (fits_cons fits21 (fits_cons fits22 (fits_cons fits27 (fits_cons fits25 (fits_cons fits28 (fits_cons fits29 (fits_cons fits31 (fits_cons fits30 fits_nil)))))))) mixed Tryz.func12 Tryz.call12 (by kernel_rfl) (by kernel_rfl) (by kernel_rfl) tie12

noncomputable def C13 : Entry := fun args w K Kp => unArgs [.one (.ptr), .one (.int .i64)] args.toList fun x => F.stack_Stacks_Cached env x.1 x.2.1 (fun r1 w' => K (.slice r1.base r1.len r1.cap) w') w
noncomputable def body13 : Code := (Tryz.f13.body).getD .skip
def ann13 : Ann := { loops := [(4, [(5, .one (.sl)), (16, .one (.int .i64))])], joins := [] }
def T0.stack_Stacks_Cached (E : Env) (c_stack_is : ∀ (a0 : Int) (K : Bool → World → Prop) (w : World), Prop) (a0 : (Option Addr)) (a1 : Int) (K : SlV → World → Prop) (w : World) : Prop :=
 c_stack_is a1 (fun r1 w2 =>
 CND (r1) (
 NC a0 fun p3 =>
 ((0 : Int) ≤ a1 ∧ (a1 : Int) < (64 : Nat)) ∧
 ∃ c4 : SlV, w2.cell? (((p3.add 1).add (Int.toNat a1 * 4)).add 0) = some (.slice c4.base c4.len c4.cap) ∧
 ∃ c5 : SlV, w2.cell? (((p3.add 1).add (Int.toNat a1 * 4)).add 1) = some (.slice c5.base c5.len c5.cap) ∧
 ∃ c6 : SlV, w2.cell? (((p3.add 1).add (Int.toNat a1 * 4)).add 2) = some (.slice c6.base c6.len c6.cap) ∧
 ∃ c7 : SlV, w2.cell? (((p3.add 1).add (Int.toNat a1 * 4)).add 3) = some (.slice c7.base c7.len c7.cap) ∧
 LOOP (SlV × Int × Unit) (⟨none, 0, 0⟩, 0, ()) w2 fun s8 _ w9 next10 =>
 CND (decide ((s8.2.1 : Int) < 4)) (
 ((0 : Int) ≤ s8.2.1 ∧ (s8.2.1 : Int) < (4 : Nat)) ∧
 LET (List.getD [c4, c5, c6, c7] (Int.toNat s8.2.1) ⟨none, 0, 0⟩ : SlV) fun s11 =>
 APP E.t_uint64 1 8 #[.int .u64 0] s8.1 s11 w9 fun s12 w13 =>
 next10 (s12, i64 (s8.2.1 + 1), ()) w13
 ) (
 K s8.1 w9
 )
 ) (
 K ⟨none, 0, 0⟩ w2
 )
 ) w

theorem tieZ13 (c_stack_is : ∀ (a0 : Int) (K : Bool → World → Prop) (w : World), Prop) (x : ArgsV [.one (.ptr), .one (.int .i64)]) (K Kp : Value → World → Prop) (w : World) : T0.stack_Stacks_Cached env c_stack_is x.1 x.2.1 (fun r1 w' => K (.slice r1.base r1.len r1.cap) w') w =
 ev Tryz.prog (tabC [(21, fun args w K Kp => unArgs [.one (.int .i64)] args.toList fun x => c_stack_is x.1 (fun r1 w' => K (.bool r1) w') w)]) (ground Tryz.prog) ann13 body13 (finQ Tryz.prog Tryz.f13 K Kp) (initF (mkArgs [.one (.ptr), .one (.int .i64)] x)) w := by kernel_rfl
theorem tie13 (x : ArgsV [.one (.ptr), .one (.int .i64)]) (K Kp : Value → World → Prop) (w : World) : F.stack_Stacks_Cached env x.1 x.2.1 (fun r1 w' => K (.slice r1.base r1.len r1.cap) w') w =
 ev Tryz.prog (tabC [(21, C21)]) (ground Tryz.prog) ann13 body13 (finQ Tryz.prog Tryz.f13 K Kp) (initF (mkArgs [.one (.ptr), .one (.int .i64)] x)) w := tieZ13 (F.stack_is env) x K Kp w
theorem fits13 : FitsOne Tryz.prog 13 C13 :=
 fits_of_tie (T := [(21, C21)]) (A := ann13) (fn := Tryz.f13) (c := body13) (fits_cons fits21 fits_nil) mixed Tryz.func13 Tryz.call13 (by kernel_rfl) (by kernel_rfl) (by kernel_rfl) tie13

noncomputable def C11 : Entry := fun args w K Kp => unArgs [] args.toList fun x => F.mallowlaw21_awake env  (fun r1 w' => K (.bool r1) w') w
noncomputable def body11 : Code := (Tryz.f11.body).getD .skip
def ann11 : Ann := { loops := [], joins := [] }
def T0.mallowlaw21_awake (E : Env) (c_mallowlaw21_fresh : ∀ (a0_0 : SlV) (a0_1 : SlV) (a0_2 : SlV) (K : (Option Addr) → World → Prop) (w : World), Prop) (c_stack_New : ∀ (a0 : (Option Addr)) (K : (Option Addr) → World → Prop) (w : World), Prop) (c_stack_Stacks_Alloc : ∀ (a0 : (Option Addr)) (a1 : Int) (a2 : Int) (K : Int → Int → World → Prop) (w : World), Prop) (c_stack_Stacks_Free : ∀ (a0 : (Option Addr)) (a1 : Int) (a2 : Int) (K : Int → Int → World → Prop) (w : World), Prop) (c_stack_Stacks_Cached : ∀ (a0 : (Option Addr)) (a1 : Int) (K : SlV → World → Prop) (w : World), Prop) (c_stack_Stacks_Inuse : ∀ (a0 : (Option Addr)) (K : Int → World → Prop) (w : World), Prop) (K : Bool → World → Prop) (w : World) : Prop :=
 c_mallowlaw21_fresh ⟨none, 0, 0⟩ ⟨none, 0, 0⟩ ⟨none, 0, 0⟩ (fun r1 w2 =>
 CND (r1.isNone) (
 K false w2
 ) (
 c_stack_New r1 (fun r3 w4 =>
 CND (r3.isNone) (
 K false w4
 ) (
 c_stack_Stacks_Alloc r3 0 2048 (fun r5 r6 w7 =>
 c_stack_Stacks_Alloc r3 0 32768 (fun r8 r9 w10 =>
 c_stack_Stacks_Free r3 0 5 (fun r11 r12 w13 =>
 CND ((r5 : Int) == 4208640) (
 CND ((r6 : Int) == 0) (
 CND ((r8 : Int) == 4227072) (
 CND ((r9 : Int) == 0) (
 CND ((r12 : Int) == 10) (
 c_stack_Stacks_Cached r3 0 (fun r14 w15 =>
 CND ((((r14.len : Nat) : Int) : Int) == 7) (
 c_stack_Stacks_Inuse r3 (fun r16 w17 =>
 K ((r16 : Int) == 65536) w17
 ) w15
 ) (
 K false w15
 )
 ) w13
 ) (
 K false w13
 )
 ) (
 K false w13
 )
 ) (
 K false w13
 )
 ) (
 K false w13
 )
 ) (
 K false w13
 )
 ) w10
 ) w7
 ) w4
 )
 ) w2
 )
 ) w

theorem tieZ11 (c_mallowlaw21_fresh : ∀ (a0_0 : SlV) (a0_1 : SlV) (a0_2 : SlV) (K : (Option Addr) → World → Prop) (w : World), Prop) (c_stack_New : ∀ (a0 : (Option Addr)) (K : (Option Addr) → World → Prop) (w : World), Prop) (c_stack_Stacks_Alloc : ∀ (a0 : (Option Addr)) (a1 : Int) (a2 : Int) (K : Int → Int → World → Prop) (w : World), Prop) (c_stack_Stacks_Free : ∀ (a0 : (Option Addr)) (a1 : Int) (a2 : Int) (K : Int → Int → World → Prop) (w : World), Prop) (c_stack_Stacks_Cached : ∀ (a0 : (Option Addr)) (a1 : Int) (K : SlV → World → Prop) (w : World), Prop) (c_stack_Stacks_Inuse : ∀ (a0 : (Option Addr)) (K : Int → World → Prop) (w : World), Prop) (x : ArgsV []) (K Kp : Value → World → Prop) (w : World) : T0.mallowlaw21_awake env c_mallowlaw21_fresh c_stack_New c_stack_Stacks_Alloc c_stack_Stacks_Free c_stack_Stacks_Cached c_stack_Stacks_Inuse  (fun r1 w' => K (.bool r1) w') w =
 ev Tryz.prog (tabC [(7, fun args w K Kp => unArgs [.agg [.sl, .sl, .sl]] args.toList fun x => c_mallowlaw21_fresh x.1.1 x.1.2.1 x.1.2.2.1 (fun r1 w' => K (.pointer r1) w') w), (8, fun args w K Kp => unArgs [.one (.ptr)] args.toList fun x => c_stack_New x.1 (fun r1 w' => K (.pointer r1) w') w), (9, fun args w K Kp => unArgs [.one (.ptr), .one (.int .i64), .one (.int .u64)] args.toList fun x => c_stack_Stacks_Alloc x.1 x.2.1 x.2.2.1 (fun r1 r2 w' => K (.tuple ⟨[.int .u64 r1, .int .i64 r2]⟩) w') w), (12, fun args w K Kp => unArgs [.one (.ptr), .one (.int .i64), .one (.int .u64)] args.toList fun x => c_stack_Stacks_Free x.1 x.2.1 x.2.2.1 (fun r1 r2 w' => K (.tuple ⟨[.int .u64 r1, .int .i64 r2]⟩) w') w), (13, fun args w K Kp => unArgs [.one (.ptr), .one (.int .i64)] args.toList fun x => c_stack_Stacks_Cached x.1 x.2.1 (fun r1 w' => K (.slice r1.base r1.len r1.cap) w') w), (10, fun args w K Kp => unArgs [.one (.ptr)] args.toList fun x => c_stack_Stacks_Inuse x.1 (fun r1 w' => K (.int .u64 r1) w') w)]) (ground Tryz.prog) ann11 body11 (finQ Tryz.prog Tryz.f11 K Kp) (initF (mkArgs [] x)) w := by kernel_rfl
theorem tie11 (x : ArgsV []) (K Kp : Value → World → Prop) (w : World) : F.mallowlaw21_awake env  (fun r1 w' => K (.bool r1) w') w =
 ev Tryz.prog (tabC [(7, C7), (8, C8), (9, C9), (12, C12), (13, C13), (10, C10)]) (ground Tryz.prog) ann11 body11 (finQ Tryz.prog Tryz.f11 K Kp) (initF (mkArgs [] x)) w := tieZ11 (F.mallowlaw21_fresh env) (F.stack_New env) (F.stack_Stacks_Alloc env) (F.stack_Stacks_Free env) (F.stack_Stacks_Cached env) (F.stack_Stacks_Inuse env) x K Kp w
theorem fits11 : FitsOne Tryz.prog 11 C11 :=
 fits_of_tie (T := [(7, C7), (8, C8), (9, C9), (12, C12), (13, C13), (10, C10)]) (A := ann11) (fn := Tryz.f11) (c := body11) (fits_cons fits7 (fits_cons fits8 (fits_cons fits9 (fits_cons fits12 (fits_cons fits13 (fits_cons fits10 fits_nil)))))) mixed Tryz.func11 Tryz.call11 (by kernel_rfl) (by kernel_rfl) (by kernel_rfl) tie11

noncomputable def C4 : Entry := fun args w K Kp => unArgs [.one (.int .i64), .one (.int .i64)] args.toList fun x => F.mallowlaw21_StacksLast env x.1 x.2.1 (fun r1 w' => K (.bool r1) w') w
noncomputable def body4 : Code := (Tryz.f4.body).getD .skip
def ann4 : Ann := { loops := [(12, [(8, .one (.sl)), (9, .one (.int .i64))]), (22, [(14, .one (.int .i64))]), (28, [(17, .one (.int .i64))])], joins := [(2, [(35, .one (.bool))]), (26, [(99, .one (.bool))]), (32, [(121, .one (.bool))])] }
def T0.mallowlaw21_StacksLast (E : Env) (c_mallowlaw21_fresh : ∀ (a0_0 : SlV) (a0_1 : SlV) (a0_2 : SlV) (K : (Option Addr) → World → Prop) (w : World), Prop) (c_stack_New : ∀ (a0 : (Option Addr)) (K : (Option Addr) → World → Prop) (w : World), Prop) (c_stack_Stacks_Alloc : ∀ (a0 : (Option Addr)) (a1 : Int) (a2 : Int) (K : Int → Int → World → Prop) (w : World), Prop) (c_stack_Stacks_Free : ∀ (a0 : (Option Addr)) (a1 : Int) (a2 : Int) (K : Int → Int → World → Prop) (w : World), Prop) (c_mallowlaw21_awake : ∀ (K : Bool → World → Prop) (w : World), Prop) (a0 : Int) (a1 : Int) (K : Bool → World → Prop) (w : World) : Prop :=
 JOIN (Bool × Unit) (fun J1 =>
 CND (decide ((a0 : Int) < 0)) (
 J1 (true, ()) w
 ) (
 CND (decide ((a0 : Int) > 3)) (
 J1 (true, ()) w
 ) (
 CND (decide ((a1 : Int) < 1)) (
 J1 (true, ()) w
 ) (
 (0 : Int) ≤ a0 ∧
 J1 (decide ((a1 : Int) > (Int.fdiv 8 (2 ^ (min (Int.toNat a0) (IntKind.bits .i64))))), ()) w
 )
 )
 )
 ) fun s2 _ w3 =>
 CND (s2.1) (
 K true w3
 ) (
 c_mallowlaw21_fresh ⟨none, 0, 0⟩ ⟨none, 0, 0⟩ ⟨none, 0, 0⟩ (fun r4 w5 =>
 CND (r4.isNone) (
 K false w5
 ) (
 c_stack_New r4 (fun r6 w7 =>
 CND (r6.isNone) (
 K false w7
 ) (
 (0 : Int) ≤ a0 ∧
 LET (u64 (2048 * 2 ^ (min (Int.toNat a0) (IntKind.bits .u64))) : Int) fun bytes_8 =>
 LOOP (SlV × Int × Unit) (⟨none, 0, 0⟩, 0, ()) w7 fun s9 _ w10 next11 =>
 CND (decide ((s9.2.1 : Int) < a1)) (
 c_stack_Stacks_Alloc r6 7 bytes_8 (fun r12 r13 w14 =>
 CND ((r13 : Int) != 0) (
 K false w14
 ) (
 AL (.cells ⟨[.int .u64 r12]⟩ E.t_uint64) w14 fun b15 w16 =>
 APP E.t_uint64 1 8 #[.int .u64 0] s9.1 ⟨(some (Addr.mk b15 0 none)), 1, 1⟩ w16 fun s17 w18 =>
 next11 (s17, i64 (s9.2.1 + 1), ()) w18
 )
 ) w10
 ) (
 c_stack_Stacks_Alloc r6 8 bytes_8 (fun r19 r20 w21 =>
 CND ((r20 : Int) != 0) (
 K false w21
 ) (
 LOOP (Int × Unit) (0, ()) w21 fun s22 _ w23 next24 =>
 CND (decide ((s22.1 : Int) < a1)) (
 NC s9.1.base fun p25 =>
 ((0 : Int) ≤ s22.1 ∧ (s22.1 : Int) < (s9.1.len : Nat)) ∧
 ∃ x26 : Int, w23.cell? (p25.add (Int.toNat s22.1 * 1)) = some (.int .u64 x26) ∧
 c_stack_Stacks_Free r6 7 x26 (fun r27 r28 w29 =>
 JOIN (Bool × Unit) (fun J30 =>
 CND ((r27 : Int) != bytes_8) (
 J30 (true, ()) w29
 ) (
 CND ((r28 : Int) != 0) (
 J30 (true, ()) w29
 ) (
 NC s9.1.base fun p33 =>
 ((0 : Int) ≤ s22.1 ∧ (s22.1 : Int) < (s9.1.len : Nat)) ∧
 ∃ x34 : Int, w29.cell? (p33.add (Int.toNat s22.1 * 1)) = some (.int .u64 x34) ∧
 J30 ((x34 : Int) == r19, ()) w29
 )
 )
 ) fun s31 _ w32 =>
 CND (s31.1) (
 K false w32
 ) (
 next24 (i64 (s22.1 + 1), ()) w32
 )
 ) w23
 ) (
 LOOP (Int × Unit) (i64 (a1 - 1), ()) w23 fun s35 _ w36 next37 =>
 CND (decide ((s35.1 : Int) ≥ 0)) (
 c_stack_Stacks_Alloc r6 7 bytes_8 (fun r38 r39 w40 =>
 JOIN (Bool × Unit) (fun J41 =>
 NC s9.1.base fun p44 =>
 ((0 : Int) ≤ s35.1 ∧ (s35.1 : Int) < (s9.1.len : Nat)) ∧
 ∃ x45 : Int, w40.cell? (p44.add (Int.toNat s35.1 * 1)) = some (.int .u64 x45) ∧
 CND ((r38 : Int) != x45) (
 J41 (true, ()) w40
 ) (
 J41 ((r39 : Int) != 0, ()) w40
 )
 ) fun s42 _ w43 =>
 CND (s42.1) (
 K false w43
 ) (
 next37 (i64 (s35.1 - 1), ()) w43
 )
 ) w36
 ) (
 c_mallowlaw21_awake  (fun r46 w47 =>
 K r46 w47
 ) w36
 )
 )
 )
 ) w10
 )
 )
 ) w5
 )
 ) w3
 )

theorem tieZ4 (c_mallowlaw21_fresh : ∀ (a0_0 : SlV) (a0_1 : SlV) (a0_2 : SlV) (K : (Option Addr) → World → Prop) (w : World), Prop) (c_stack_New : ∀ (a0 : (Option Addr)) (K : (Option Addr) → World → Prop) (w : World), Prop) (c_stack_Stacks_Alloc : ∀ (a0 : (Option Addr)) (a1 : Int) (a2 : Int) (K : Int → Int → World → Prop) (w : World), Prop) (c_stack_Stacks_Free : ∀ (a0 : (Option Addr)) (a1 : Int) (a2 : Int) (K : Int → Int → World → Prop) (w : World), Prop) (c_mallowlaw21_awake : ∀ (K : Bool → World → Prop) (w : World), Prop) (x : ArgsV [.one (.int .i64), .one (.int .i64)]) (K Kp : Value → World → Prop) (w : World) : T0.mallowlaw21_StacksLast env c_mallowlaw21_fresh c_stack_New c_stack_Stacks_Alloc c_stack_Stacks_Free c_mallowlaw21_awake x.1 x.2.1 (fun r1 w' => K (.bool r1) w') w =
 ev Tryz.prog (tabC [(7, fun args w K Kp => unArgs [.agg [.sl, .sl, .sl]] args.toList fun x => c_mallowlaw21_fresh x.1.1 x.1.2.1 x.1.2.2.1 (fun r1 w' => K (.pointer r1) w') w), (8, fun args w K Kp => unArgs [.one (.ptr)] args.toList fun x => c_stack_New x.1 (fun r1 w' => K (.pointer r1) w') w), (9, fun args w K Kp => unArgs [.one (.ptr), .one (.int .i64), .one (.int .u64)] args.toList fun x => c_stack_Stacks_Alloc x.1 x.2.1 x.2.2.1 (fun r1 r2 w' => K (.tuple ⟨[.int .u64 r1, .int .i64 r2]⟩) w') w), (12, fun args w K Kp => unArgs [.one (.ptr), .one (.int .i64), .one (.int .u64)] args.toList fun x => c_stack_Stacks_Free x.1 x.2.1 x.2.2.1 (fun r1 r2 w' => K (.tuple ⟨[.int .u64 r1, .int .i64 r2]⟩) w') w), (11, fun args w K Kp => unArgs [] args.toList fun x => c_mallowlaw21_awake  (fun r1 w' => K (.bool r1) w') w)]) (ground Tryz.prog) ann4 body4 (finQ Tryz.prog Tryz.f4 K Kp) (initF (mkArgs [.one (.int .i64), .one (.int .i64)] x)) w := by kernel_rfl
theorem tie4 (x : ArgsV [.one (.int .i64), .one (.int .i64)]) (K Kp : Value → World → Prop) (w : World) : F.mallowlaw21_StacksLast env x.1 x.2.1 (fun r1 w' => K (.bool r1) w') w =
 ev Tryz.prog (tabC [(7, C7), (8, C8), (9, C9), (12, C12), (11, C11)]) (ground Tryz.prog) ann4 body4 (finQ Tryz.prog Tryz.f4 K Kp) (initF (mkArgs [.one (.int .i64), .one (.int .i64)] x)) w := tieZ4 (F.mallowlaw21_fresh env) (F.stack_New env) (F.stack_Stacks_Alloc env) (F.stack_Stacks_Free env) (F.mallowlaw21_awake env) x K Kp w
theorem fits4 : FitsOne Tryz.prog 4 C4 :=
 fits_of_tie (T := [(7, C7), (8, C8), (9, C9), (12, C12), (11, C11)]) (A := ann4) (fn := Tryz.f4) (c := body4) (fits_cons fits7 (fits_cons fits8 (fits_cons fits9 (fits_cons fits12 (fits_cons fits11 fits_nil))))) mixed Tryz.func4 Tryz.call4 (by kernel_rfl) (by kernel_rfl) (by kernel_rfl) tie4

noncomputable def C66 : Entry := fun args w K Kp => unArgs [.one (.int .u64)] args.toList fun x => F.cmp_isNaN_uint64_ env x.1 (fun r1 w' => K (.bool r1) w') w
noncomputable def body66 : Code := (Tryz.f66.body).getD .skip
def ann66 : Ann := { loops := [], joins := [] }
theorem tie66 (x : ArgsV [.one (.int .u64)]) (K Kp : Value → World → Prop) (w : World) : F.cmp_isNaN_uint64_ env x.1 (fun r1 w' => K (.bool r1) w') w =
 ev Tryz.prog (tabC []) (ground Tryz.prog) ann66 body66 (finQ Tryz.prog Tryz.f66 K Kp) (initF (mkArgs [.one (.int .u64)] x)) w := by kernel_rfl
theorem fits66 : FitsOne Tryz.prog 66 C66 :=
 fits_of_tie (T := []) (A := ann66) (fn := Tryz.f66) (c := body66) fits_nil mixed Tryz.func66 Tryz.call66 (by kernel_rfl) (by kernel_rfl) (by kernel_rfl) tie66

noncomputable def C40 : Entry := fun args w K Kp => unArgs [.one (.int .u64), .one (.int .u64)] args.toList fun x => F.cmp_Compare_uint64_ env x.1 x.2.1 (fun r1 w' => K (.int .i64 r1) w') w
noncomputable def body40 : Code := (Tryz.f40.body).getD .skip
def ann40 : Ann := { loops := [], joins := [] }
def T0.cmp_Compare_uint64_ (E : Env) (c_cmp_isNaN_uint64_ : ∀ (a0 : Int) (K : Bool → World → Prop) (w : World), Prop) (a0 : Int) (a1 : Int) (K : Int → World → Prop) (w : World) : Prop :=
 c_cmp_isNaN_uint64_ a0 (fun r1 w2 =>
 c_cmp_isNaN_uint64_ a1 (fun r3 w4 =>
 CND (r1) (
 CND (r3) (
 K 0 w4
 ) (
 K (-1) w4
 )
 ) (
 CND (r3) (
 K 1 w4
 ) (
 CND (decide ((a0 : Int) < a1)) (
 K (-1) w4
 ) (
 CND (decide ((a0 : Int) > a1)) (
 K 1 w4
 ) (
 K 0 w4
 )
 )
 )
 )
 ) w2
 ) w

theorem tieZ40 (c_cmp_isNaN_uint64_ : ∀ (a0 : Int) (K : Bool → World → Prop) (w : World), Prop) (x : ArgsV [.one (.int .u64), .one (.int .u64)]) (K Kp : Value → World → Prop) (w : World) : T0.cmp_Compare_uint64_ env c_cmp_isNaN_uint64_ x.1 x.2.1 (fun r1 w' => K (.int .i64 r1) w') w =
 ev Tryz.prog (tabC [(66, fun args w K Kp => unArgs [.one (.int .u64)] args.toList fun x => c_cmp_isNaN_uint64_ x.1 (fun r1 w' => K (.bool r1) w') w)]) (ground Tryz.prog) ann40 body40 (finQ Tryz.prog Tryz.f40 K Kp) (initF (mkArgs [.one (.int .u64), .one (.int .u64)] x)) w := by kernel_rfl
theorem tie40 (x : ArgsV [.one (.int .u64), .one (.int .u64)]) (K Kp : Value → World → Prop) (w : World) : F.cmp_Compare_uint64_ env x.1 x.2.1 (fun r1 w' => K (.int .i64 r1) w') w =
 ev Tryz.prog (tabC [(66, C66)]) (ground Tryz.prog) ann40 body40 (finQ Tryz.prog Tryz.f40 K Kp) (initF (mkArgs [.one (.int .u64), .one (.int .u64)] x)) w := tieZ40 (F.cmp_isNaN_uint64_ env) x K Kp w
theorem fits40 : FitsOne Tryz.prog 40 C40 :=
 fits_of_tie (T := [(66, C66)]) (A := ann40) (fn := Tryz.f40) (c := body40) (fits_cons fits66 fits_nil) mixed Tryz.func40 Tryz.call40 (by kernel_rfl) (by kernel_rfl) (by kernel_rfl) tie40

noncomputable def C39 : Entry := fun args w K Kp => unArgs [.one (.int .i64), .one (.int .i64), .one (.ptr)] args.toList fun x => F.mheap_Heap_Spans_1 env x.1 x.2.1 x.2.2.1 (fun r1 w' => K (.int .i64 r1) w') w
noncomputable def body39 : Code := (Tryz.f39.body).getD .skip
def ann39 : Ann := { loops := [], joins := [] }
def T0.mheap_Heap_Spans_1 (E : Env) (c_span_Span_Info : ∀ (a0 : (Option Addr)) (K : Int → Int → Int → Int → Bool → Int → Int → Int → Bool → Bool → World → Prop) (w : World), Prop) (c_cmp_Compare_uint64_ : ∀ (a0 : Int) (a1 : Int) (K : Int → World → Prop) (w : World), Prop) (a0 : Int) (a1 : Int) (a2 : (Option Addr)) (K : Int → World → Prop) (w : World) : Prop :=
 NC a2 fun p1 =>
 ∃ x2 : (Option Addr), w.drew.cell? p1 = some (.pointer x2) ∧
 NC x2 fun p3 =>
 ∃ x4 : (Option Nat), w.drew.cell? (p3.add 4) = some (.map x4) ∧
 LKP .i64 a0 x4 w.drew (.pointer none) fun v5 ok6 es7 =>
 ∃ x8 : (Option Addr), v5 = .pointer x8 ∧
 NC a2 fun p9 =>
 ∃ x10 : (Option Addr), w.drew.cell? p9 = some (.pointer x10) ∧
 NC x10 fun p11 =>
 ∃ x12 : (Option Nat), w.drew.cell? (p11.add 4) = some (.map x12) ∧
 LKP .i64 a1 x12 w.drew (.pointer none) fun v13 ok14 es15 =>
 ∃ x16 : (Option Addr), v13 = .pointer x16 ∧
 c_span_Span_Info x8 (fun r17 r18 r19 r20 r21 r22 r23 r24 r25 r26 w27 =>
 Keep.obj x12 es15 w27 ∧
 w27.cell? (p11.add 4) = some (.map x12) ∧
 w27.cell? p9 = some (.pointer x10) ∧
 w27.cell? (p3.add 4) = some (.map x4) ∧
 w27.cell? p1 = some (.pointer x2) ∧
 c_span_Span_Info x16 (fun r28 r29 r30 r31 r32 r33 r34 r35 r36 r37 w38 =>
 w38.cell? (p11.add 4) = some (.map x12) ∧
 w38.cell? p9 = some (.pointer x10) ∧
 w38.cell? (p3.add 4) = some (.map x4) ∧
 w38.cell? p1 = some (.pointer x2) ∧
 c_cmp_Compare_uint64_ r17 r28 (fun r39 w40 =>
 w40.cell? (p11.add 4) = some (.map x12) ∧
 w40.cell? p9 = some (.pointer x10) ∧
 w40.cell? (p3.add 4) = some (.map x4) ∧
 w40.cell? p1 = some (.pointer x2) ∧
 K r39 w40
 ) w38
 ) w27
 ) w.drew

theorem tieZ39 (c_span_Span_Info : ∀ (a0 : (Option Addr)) (K : Int → Int → Int → Int → Bool → Int → Int → Int → Bool → Bool → World → Prop) (w : World), Prop) (c_cmp_Compare_uint64_ : ∀ (a0 : Int) (a1 : Int) (K : Int → World → Prop) (w : World), Prop) (x : ArgsV [.one (.int .i64), .one (.int .i64), .one (.ptr)]) (K Kp : Value → World → Prop) (w : World) : T0.mheap_Heap_Spans_1 env c_span_Span_Info c_cmp_Compare_uint64_ x.1 x.2.1 x.2.2.1 (fun r1 w' => K (.int .i64 r1) w') w =
 ev Tryz.prog (tabC [(26, fun args w K Kp => unArgs [.one (.ptr)] args.toList fun x => c_span_Span_Info x.1 (fun r1 r2 r3 r4 r5 r6 r7 r8 r9 r10 w' => K (.agg ⟨[.int .u64 r1, .int .i64 r2, .int .i64 r3, .int .i64 r4, .bool r5, .int .i64 r6, .int .i64 r7, .int .i64 r8, .bool r9, .bool r10]⟩) w') w), (40, fun args w K Kp => unArgs [.one (.int .u64), .one (.int .u64)] args.toList fun x => c_cmp_Compare_uint64_ x.1 x.2.1 (fun r1 w' => K (.int .i64 r1) w') w)]) (ground Tryz.prog) ann39 body39 (finQ Tryz.prog Tryz.f39 K Kp) (initF (mkArgs [.one (.int .i64), .one (.int .i64), .one (.ptr)] x)) w := by kernel_rfl
theorem tie39 (x : ArgsV [.one (.int .i64), .one (.int .i64), .one (.ptr)]) (K Kp : Value → World → Prop) (w : World) : F.mheap_Heap_Spans_1 env x.1 x.2.1 x.2.2.1 (fun r1 w' => K (.int .i64 r1) w') w =
 ev Tryz.prog (tabC [(26, C26), (40, C40)]) (ground Tryz.prog) ann39 body39 (finQ Tryz.prog Tryz.f39 K Kp) (initF (mkArgs [.one (.int .i64), .one (.int .i64), .one (.ptr)] x)) w := tieZ39 (F.span_Span_Info env) (F.cmp_Compare_uint64_ env) x K Kp w
theorem fits39 : FitsOne Tryz.prog 39 C39 :=
 fits_of_tie (T := [(26, C26), (40, C40)]) (A := ann39) (fn := Tryz.f39) (c := body39) (fits_cons fits26 (fits_cons fits40 fits_nil)) mixed Tryz.func39 Tryz.call39 (by kernel_rfl) (by kernel_rfl) (by kernel_rfl) tie39

noncomputable def C79 : Entry := fun args w K Kp => unArgs [.one (.ptr), .one (.int .u64)] args.toList fun x => F.arena_Map_leaf env x.1 x.2.1 (fun r1 w' => K (.pointer r1) w') w
noncomputable def body79 : Code := (Tryz.f79.body).getD .skip
def ann79 : Ann := { loops := [(7, [(25, .one (.int .i64))])], joins := [] }
def T0.arena_Map_leaf (E : Env) (c_arena_Map_whole : ∀ (a0 : (Option Addr)) (a1 : Int) (K : Int → World → Prop) (w : World), Prop) (c_arena_Map_cut : ∀ (a0 : (Option Addr)) (a1 : Int) (a2 : Int) (K : World → Prop) (w : World), Prop) (a0 : (Option Addr)) (a1 : Int) (K : (Option Addr) → World → Prop) (w : World) : Prop :=
 NC a0 fun p1 =>
 ∃ x2 : (Option Nat), w.cell? (p1.add 3) = some (.map x2) ∧
 LKP .u64 a1 x2 w (.pointer none) fun v3 ok4 es5 =>
 ∃ x6 : (Option Addr), v3 = .pointer x6 ∧
 CND (x6.isNone) (
 c_arena_Map_whole a0 a1 (fun r7 w8 =>
 c_arena_Map_cut a0 a1 (u64 (a1 + 1)) (fun  w9 =>
 AL (.cells (Array.replicate 512 (.int .i64 0)) E.t__512_int) w9 fun b10 w11 =>
 LOOP (Int × Unit) (0, ()) w11 fun s12 _ w13 next14 =>
 CND (decide ((s12.1 : Int) < 512)) (
 ((0 : Int) ≤ s12.1 ∧ (s12.1 : Int) < (512 : Nat)) ∧
 stCells ((Addr.mk b10 0 none).add (Int.toNat s12.1 * 1)) 0 [.int .i64 r7] w13 fun w15 =>
 next14 (i64 (s12.1 + 1), ()) w15
 ) (
 NC a0 fun p16 =>
 ∃ x17 : (Option Nat), w13.cell? (p16.add 3) = some (.map x17) ∧
 MUPD .u64 a1 (.pointer (some (Addr.mk b10 0 none))) x17 w13 fun w18 =>
 K (some (Addr.mk b10 0 none)) w18
 )
 ) w8
 ) w
 ) (
 K x6 w
 )

theorem tieZ79 (c_arena_Map_whole : ∀ (a0 : (Option Addr)) (a1 : Int) (K : Int → World → Prop) (w : World), Prop) (c_arena_Map_cut : ∀ (a0 : (Option Addr)) (a1 : Int) (a2 : Int) (K : World → Prop) (w : World), Prop) (x : ArgsV [.one (.ptr), .one (.int .u64)]) (K Kp : Value → World → Prop) (w : World) : T0.arena_Map_leaf env c_arena_Map_whole c_arena_Map_cut x.1 x.2.1 (fun r1 w' => K (.pointer r1) w') w =
 ev Tryz.prog (tabC [(75, fun args w K Kp => unArgs [.one (.ptr), .one (.int .u64)] args.toList fun x => c_arena_Map_whole x.1 x.2.1 (fun r1 w' => K (.int .i64 r1) w') w), (77, fun args w K Kp => unArgs [.one (.ptr), .one (.int .u64), .one (.int .u64)] args.toList fun x => c_arena_Map_cut x.1 x.2.1 x.2.2.1 (fun  w' => K (.tuple ⟨[]⟩) w') w)]) (ground Tryz.prog) ann79 body79 (finQ Tryz.prog Tryz.f79 K Kp) (initF (mkArgs [.one (.ptr), .one (.int .u64)] x)) w := by kernel_rfl
theorem tie79 (x : ArgsV [.one (.ptr), .one (.int .u64)]) (K Kp : Value → World → Prop) (w : World) : F.arena_Map_leaf env x.1 x.2.1 (fun r1 w' => K (.pointer r1) w') w =
 ev Tryz.prog (tabC [(75, C75), (77, C77)]) (ground Tryz.prog) ann79 body79 (finQ Tryz.prog Tryz.f79 K Kp) (initF (mkArgs [.one (.ptr), .one (.int .u64)] x)) w := tieZ79 (F.arena_Map_whole env) (F.arena_Map_cut env) x K Kp w
theorem fits79 : FitsOne Tryz.prog 79 C79 :=
 fits_of_tie (T := [(75, C75), (77, C77)]) (A := ann79) (fn := Tryz.f79) (c := body79) (fits_cons fits75 (fits_cons fits77 fits_nil)) mixed Tryz.func79 Tryz.call79 (by kernel_rfl) (by kernel_rfl) (by kernel_rfl) tie79

noncomputable def C78 : Entry := fun args w K Kp => unArgs [.one (.int .u64), .one (.int .u64), .one (.ptr), .one (.ptr)] args.toList fun x => F.arena_Map_Set_1 env x.1 x.2.1 x.2.2.1 x.2.2.2.1 (fun  w' => K (.tuple ⟨[]⟩) w') w
noncomputable def body78 : Code := (Tryz.f78.body).getD .skip
def ann78 : Ann := { loops := [(1, [(6, .one (.int .u64))])], joins := [] }
def T0.arena_Map_Set_1 (E : Env) (c_arena_Map_leaf : ∀ (a0 : (Option Addr)) (a1 : Int) (K : (Option Addr) → World → Prop) (w : World), Prop) (a0 : Int) (a1 : Int) (a2 : (Option Addr)) (a3 : (Option Addr)) (K : World → Prop) (w : World) : Prop :=
 LOOP (Int × Unit) (a0, ()) w fun s1 _ w2 next3 =>
 CND (decide ((s1.1 : Int) < a1)) (
 NC a3 fun p4 =>
 ∃ x5 : (Option Addr), w2.drew.cell? p4 = some (.pointer x5) ∧
 512 ≠ (0 : Int) ∧
 512 ≠ (0 : Int) ∧
 NC a2 fun p6 =>
 ∃ x7 : Int, w2.drew.cell? p6 = some (.int .i64 x7) ∧
 c_arena_Map_leaf x5 (u64 (Int.tdiv s1.1 512)) (fun r8 w9 =>
 w9.cell? p6 = some (.int .i64 x7) ∧
 NC r8 fun p10 =>
 ((0 : Int) ≤ (Int.tmod s1.1 512) ∧ ((Int.tmod s1.1 512) : Int) < (512 : Nat)) ∧
 stCells (p10.add (Int.toNat (Int.tmod s1.1 512) * 1)) 0 [.int .i64 x7] w9 fun w11 =>
 next3 (u64 (s1.1 + 1), ()) w11
 ) w2.drew
 ) (
 K  w2
 )

theorem tieZ78 (c_arena_Map_leaf : ∀ (a0 : (Option Addr)) (a1 : Int) (K : (Option Addr) → World → Prop) (w : World), Prop) (x : ArgsV [.one (.int .u64), .one (.int .u64), .one (.ptr), .one (.ptr)]) (K Kp : Value → World → Prop) (w : World) : T0.arena_Map_Set_1 env c_arena_Map_leaf x.1 x.2.1 x.2.2.1 x.2.2.2.1 (fun  w' => K (.tuple ⟨[]⟩) w') w =
 ev Tryz.prog (tabC [(79, fun args w K Kp => unArgs [.one (.ptr), .one (.int .u64)] args.toList fun x => c_arena_Map_leaf x.1 x.2.1 (fun r1 w' => K (.pointer r1) w') w)]) (ground Tryz.prog) ann78 body78 (finQ Tryz.prog Tryz.f78 K Kp) (initF (mkArgs [.one (.int .u64), .one (.int .u64), .one (.ptr), .one (.ptr)] x)) w := by kernel_rfl
theorem tie78 (x : ArgsV [.one (.int .u64), .one (.int .u64), .one (.ptr), .one (.ptr)]) (K Kp : Value → World → Prop) (w : World) : F.arena_Map_Set_1 env x.1 x.2.1 x.2.2.1 x.2.2.2.1 (fun  w' => K (.tuple ⟨[]⟩) w') w =
 ev Tryz.prog (tabC [(79, C79)]) (ground Tryz.prog) ann78 body78 (finQ Tryz.prog Tryz.f78 K Kp) (initF (mkArgs [.one (.int .u64), .one (.int .u64), .one (.ptr), .one (.ptr)] x)) w := tieZ78 (F.arena_Map_leaf env) x K Kp w
theorem fits78 : FitsOne Tryz.prog 78 C78 :=
 fits_of_tie (T := [(79, C79)]) (A := ann78) (fn := Tryz.f78) (c := body78) (fits_cons fits79 fits_nil) mixed Tryz.func78 Tryz.call78 (by kernel_rfl) (by kernel_rfl) (by kernel_rfl) tie78

noncomputable def C104 : Entry := fun args w K Kp => unArgs [.one (.int .i64), .one (.ptr), .one (.ptr)] args.toList fun x => F.stretch_Set_at_1 env x.1 x.2.1 x.2.2.1 (fun r1 w' => K (.bool r1) w') w
noncomputable def body104 : Code := (Tryz.f104.body).getD .skip
def ann104 : Ann := { loops := [], joins := [] }
theorem tie104 (x : ArgsV [.one (.int .i64), .one (.ptr), .one (.ptr)]) (K Kp : Value → World → Prop) (w : World) : F.stretch_Set_at_1 env x.1 x.2.1 x.2.2.1 (fun r1 w' => K (.bool r1) w') w =
 ev Tryz.prog (tabC []) (ground Tryz.prog) ann104 body104 (finQ Tryz.prog Tryz.f104 K Kp) (initF (mkArgs [.one (.int .i64), .one (.ptr), .one (.ptr)] x)) w := by kernel_rfl
theorem fits104 : FitsOne Tryz.prog 104 C104 :=
 fits_of_tie (T := []) (A := ann104) (fn := Tryz.f104) (c := body104) fits_nil mixed Tryz.func104 Tryz.call104 (by kernel_rfl) (by kernel_rfl) (by kernel_rfl) tie104

end Go.Sh


set_option linter.all false
namespace Go.Sh

theorem at1_mono {E : Env} {i : Int} {p1 p2 : Option Addr} {w : World} {K K' : Bool → World → Prop} (hk : ∀ b w', K b w' → K' b w') (h : F.stretch_Set_at_1 E i p1 p2 K w) : F.stretch_Set_at_1 E i p1 p2 K' w := by
  unfold F.stretch_Set_at_1 at h ⊢
  obtain ⟨q1, rfl, x2, h2, h⟩ := NC_elim h
  obtain ⟨q3, rfl, x4, h4, h⟩ := NC_elim h
  obtain ⟨q5, h5, hi, x6, h6, h⟩ := NC_elim h
  obtain ⟨q7, rfl, x8, h8, h⟩ := NC_elim h
  refine ⟨some q3, h2, x4, h4, ?_⟩
  rw [h5]
  exact ⟨hi, x6, h6, x8, h8, hk _ _ h⟩

theorem ground_mono {P : Program} (g : FuncId) (args : Array Value) (w : World) (K K' : Value → World → Prop) (hk : ∀ v w', K v w' → K' v w') (h : ground P g args w K noP) : ground P g args w K' noP :=
  ⟨h.1, h.2.mono fun e w' hE => let ⟨v, hv, h⟩ := hE.val; .inl ⟨v, hv, hk v w' h⟩⟩

end Go.Sh

