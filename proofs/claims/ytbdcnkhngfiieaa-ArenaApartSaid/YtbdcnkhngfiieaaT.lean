/- Each shallow form is what the code of its function comes to. No further condition. -/
import Derived.Test.YtbdcnkhngfiieaaF
import Derived.Test.YtbdcnkhngfiieaaProg
import Derived.KernelRfl
import Derived.Test.YtbdcnkhngfiieaaS
import Derived.Test.YtbdcnkhngfiieaaA
import Derived.Calls
set_option linter.all false
set_option maxRecDepth 100000
set_option maxHeartbeats 4000000
namespace Go.Sh
open Go.Proofs

theorem mixed : Go.Proofs.Try.prog.follows .mixedOrders = true := by kernel_rfl
noncomputable def env : Env := { call := ground Go.Proofs.Try.prog, yld := groundY Go.Proofs.Try.prog, seq := SeqR Go.Proofs.Try.prog, t_arena_Map := 53, t_stretch_One := 61, t___stretch_One := 48, t__stretch_Set := 59, t_uint64 := 35, t_arena_wide := 64, t__arena_Map := 24, t_int := 3, t__mallowlaw11_Model := 26, t_mallowlaw11_Act := 37, t_bool := 4, t_mallowlaw11_Model := 30, t_map_uint64_bool := 42, t_func_uint64_bool := 45, t__512_int := 66, f_arena_Map_Chunks_1 := 16, f_stretch_Set_at_1 := 33, f_arena_Map_Set_1 := 28, f_arena_rising_1 := 25 }

noncomputable def C6 : Entry := fun args w K Kp => unArgs [.one (.sl)] args.toList fun x => F.mallowlaw11_heavy env x.1 (fun r1 w' => K (.bool r1) w') w
noncomputable def body6 : Code := (Go.Proofs.Try.f6.body).getD .skip
def ann6 : Ann := { loops := [(3, [(3, .one (.int .u64)), (4, .one (.int .i64))])], joins := [(6, [(24, .one (.bool))]), (7, [(3, .one (.int .u64))])] }
theorem tie6 (x : ArgsV [.one (.sl)]) (K Kp : Value → World → Prop) (w : World) : F.mallowlaw11_heavy env x.1 (fun r1 w' => K (.bool r1) w') w =
 ev Go.Proofs.Try.prog (tabC []) (ground Go.Proofs.Try.prog) ann6 body6 (finQ Go.Proofs.Try.prog Go.Proofs.Try.f6 K Kp) (initF (mkArgs [.one (.sl)] x)) w := by kernel_rfl
theorem fits6 : FitsOne Go.Proofs.Try.prog 6 C6 :=
 fits_of_tie (T := []) (A := ann6) (fn := Go.Proofs.Try.f6) (c := body6) fits_nil mixed Go.Proofs.Try.func6 Go.Proofs.Try.call6 (by kernel_rfl) (by kernel_rfl) (by kernel_rfl) tie6

noncomputable def C7 : Entry := fun args w K Kp => unArgs [] args.toList fun x => F.arena_New env  (fun r1 w' => K (.pointer r1) w') w
noncomputable def body7 : Code := (Go.Proofs.Try.f7.body).getD .skip
def ann7 : Ann := { loops := [], joins := [] }
theorem tie7 (x : ArgsV []) (K Kp : Value → World → Prop) (w : World) : F.arena_New env  (fun r1 w' => K (.pointer r1) w') w =
 ev Go.Proofs.Try.prog (tabC []) (ground Go.Proofs.Try.prog) ann7 body7 (finQ Go.Proofs.Try.prog Go.Proofs.Try.f7 K Kp) (initF (mkArgs [] x)) w := by kernel_rfl
theorem fits7 : FitsOne Go.Proofs.Try.prog 7 C7 :=
 fits_of_tie (T := []) (A := ann7) (fn := Go.Proofs.Try.f7) (c := body7) fits_nil mixed Go.Proofs.Try.func7 Go.Proofs.Try.call7 (by kernel_rfl) (by kernel_rfl) (by kernel_rfl) tie7

noncomputable def C15 : Entry := fun args w K Kp => unArgs [.one (.ptr)] args.toList fun x => F.stretch_Set_All env x.1 (fun r1 w' => K (.slice r1.base r1.len r1.cap) w') w
noncomputable def body15 : Code := (Go.Proofs.Try.f15.body).getD .skip
def ann15 : Ann := { loops := [], joins := [] }
theorem tie15 (x : ArgsV [.one (.ptr)]) (K Kp : Value → World → Prop) (w : World) : F.stretch_Set_All env x.1 (fun r1 w' => K (.slice r1.base r1.len r1.cap) w') w =
 ev Go.Proofs.Try.prog (tabC []) (ground Go.Proofs.Try.prog) ann15 body15 (finQ Go.Proofs.Try.prog Go.Proofs.Try.f15 K Kp) (initF (mkArgs [.one (.ptr)] x)) w := by kernel_rfl
theorem fits15 : FitsOne Go.Proofs.Try.prog 15 C15 :=
 fits_of_tie (T := []) (A := ann15) (fn := Go.Proofs.Try.f15) (c := body15) fits_nil mixed Go.Proofs.Try.func15 Go.Proofs.Try.call15 (by kernel_rfl) (by kernel_rfl) (by kernel_rfl) tie15

noncomputable def C8 : Entry := fun args w K Kp => unArgs [.one (.ptr)] args.toList fun x => F.arena_Map_Chunks env x.1 (fun r1 w' => K (r1) w') w
noncomputable def body8 : Code := (Go.Proofs.Try.f8.body).getD .skip
def ann8 : Ann := { loops := [], joins := [] }
def T0.arena_Map_Chunks (E : Env) (c_stretch_Set_All : ∀ (a0 : (Option Addr)) (K : SlV → World → Prop) (w : World), Prop) (a0 : (Option Addr)) (K : Value → World → Prop) (w : World) : Prop :=
 AL (.cells ⟨[]⟩ E.t_stretch_One) w fun b1 w2 =>
 NC a0 fun p3 =>
 c_stretch_Set_All (some p3) (fun r4 w5 =>
 APP E.t_stretch_One 2 16 #[.int .u64 0, .int .u64 0] ⟨(some (Addr.mk b1 0 none)), 0, 0⟩ r4 w5 fun s6 w7 =>
 AL (.cells #[.slice none 0 0] E.t___stretch_One) w7 fun b8 w9 =>
 stCells (Addr.mk b8 0 none) 0 [.slice s6.base s6.len s6.cap] w9 fun w10 =>
 K (.func (.func E.f_arena_Map_Chunks_1) #[] #[.pointer (some (Addr.mk b8 0 none))]) w10
 ) w2

theorem tieZ8 (c_stretch_Set_All : ∀ (a0 : (Option Addr)) (K : SlV → World → Prop) (w : World), Prop) (x : ArgsV [.one (.ptr)]) (K Kp : Value → World → Prop) (w : World) : T0.arena_Map_Chunks env c_stretch_Set_All x.1 (fun r1 w' => K (r1) w') w =
 ev Go.Proofs.Try.prog (tabC [(15, fun args w K Kp => unArgs [.one (.ptr)] args.toList fun x => c_stretch_Set_All x.1 (fun r1 w' => K (.slice r1.base r1.len r1.cap) w') w)]) (ground Go.Proofs.Try.prog) ann8 body8 (finQ Go.Proofs.Try.prog Go.Proofs.Try.f8 K Kp) (initF (mkArgs [.one (.ptr)] x)) w := by kernel_rfl
theorem tie8 (x : ArgsV [.one (.ptr)]) (K Kp : Value → World → Prop) (w : World) : F.arena_Map_Chunks env x.1 (fun r1 w' => K (r1) w') w =
 ev Go.Proofs.Try.prog (tabC [(15, C15)]) (ground Go.Proofs.Try.prog) ann8 body8 (finQ Go.Proofs.Try.prog Go.Proofs.Try.f8 K Kp) (initF (mkArgs [.one (.ptr)] x)) w := tieZ8 (F.stretch_Set_All env) x K Kp w
theorem fits8 : FitsOne Go.Proofs.Try.prog 8 C8 :=
 fits_of_tie (T := [(15, C15)]) (A := ann8) (fn := Go.Proofs.Try.f8) (c := body8) (fits_cons fits15 fits_nil) mixed Go.Proofs.Try.func8 Go.Proofs.Try.call8 (by kernel_rfl) (by kernel_rfl) (by kernel_rfl) tie8

noncomputable def C32 : Entry := fun args w K Kp => unArgs [.one (.int .i64), .one (.any)] args.toList fun x => F.sort_Search env x.1 x.2.1 (fun r1 w' => K (.int .i64 r1) w') w
noncomputable def body32 : Code := (Go.Proofs.Try.f32.body).getD .skip
def ann32 : Ann := { loops := [(2, [(5, .one (.int .i64)), (6, .one (.int .i64))])], joins := [] }
theorem tie32 (x : ArgsV [.one (.int .i64), .one (.any)]) (K Kp : Value → World → Prop) (w : World) : F.sort_Search env x.1 x.2.1 (fun r1 w' => K (.int .i64 r1) w') w =
 ev Go.Proofs.Try.prog (tabC []) (ground Go.Proofs.Try.prog) ann32 body32 (finQ Go.Proofs.Try.prog Go.Proofs.Try.f32 K Kp) (initF (mkArgs [.one (.int .i64), .one (.any)] x)) w := by kernel_rfl
theorem fits32 : FitsOne Go.Proofs.Try.prog 32 C32 :=
 fits_of_tie (T := []) (A := ann32) (fn := Go.Proofs.Try.f32) (c := body32) fits_nil mixed Go.Proofs.Try.func32 Go.Proofs.Try.call32 (by kernel_rfl) (by kernel_rfl) (by kernel_rfl) tie32

noncomputable def C30 : Entry := fun args w K Kp => unArgs [.one (.ptr), .one (.int .u64)] args.toList fun x => F.stretch_Set_at env x.1 x.2.1 (fun r1 w' => K (.int .i64 r1) w') w
noncomputable def body30 : Code := (Go.Proofs.Try.f30.body).getD .skip
def ann30 : Ann := { loops := [], joins := [] }
def T0.stretch_Set_at (E : Env) (c_sort_Search : ∀ (a0 : Int) (a1 : Value) (K : Int → World → Prop) (w : World), Prop) (a0 : (Option Addr)) (a1 : Int) (K : Int → World → Prop) (w : World) : Prop :=
 AL (.cells #[.pointer a0] E.t__stretch_Set) w fun b1 w2 =>
 AL (.cells #[.int .u64 a1] E.t_uint64) w2 fun b3 w4 =>
 ∃ x5 : (Option Addr), w4.cell? (Addr.mk b1 0 none) = some (.pointer x5) ∧
 NC x5 fun p6 =>
 ∃ x7 : SlV, w4.cell? p6 = some (.slice x7.base x7.len x7.cap) ∧
 c_sort_Search ((x7.len : Nat) : Int) (.func (.func E.f_stretch_Set_at_1) #[] #[.pointer (some (Addr.mk b1 0 none)), .pointer (some (Addr.mk b3 0 none))]) (fun r8 w9 =>
 K r8 w9
 ) w4

theorem tieZ30 (c_sort_Search : ∀ (a0 : Int) (a1 : Value) (K : Int → World → Prop) (w : World), Prop) (x : ArgsV [.one (.ptr), .one (.int .u64)]) (K Kp : Value → World → Prop) (w : World) : T0.stretch_Set_at env c_sort_Search x.1 x.2.1 (fun r1 w' => K (.int .i64 r1) w') w =
 ev Go.Proofs.Try.prog (tabC [(32, fun args w K Kp => unArgs [.one (.int .i64), .one (.any)] args.toList fun x => c_sort_Search x.1 x.2.1 (fun r1 w' => K (.int .i64 r1) w') w)]) (ground Go.Proofs.Try.prog) ann30 body30 (finQ Go.Proofs.Try.prog Go.Proofs.Try.f30 K Kp) (initF (mkArgs [.one (.ptr), .one (.int .u64)] x)) w := by kernel_rfl
theorem tie30 (x : ArgsV [.one (.ptr), .one (.int .u64)]) (K Kp : Value → World → Prop) (w : World) : F.stretch_Set_at env x.1 x.2.1 (fun r1 w' => K (.int .i64 r1) w') w =
 ev Go.Proofs.Try.prog (tabC [(32, C32)]) (ground Go.Proofs.Try.prog) ann30 body30 (finQ Go.Proofs.Try.prog Go.Proofs.Try.f30 K Kp) (initF (mkArgs [.one (.ptr), .one (.int .u64)] x)) w := tieZ30 (F.sort_Search env) x K Kp w
theorem fits30 : FitsOne Go.Proofs.Try.prog 30 C30 :=
 fits_of_tie (T := [(32, C32)]) (A := ann30) (fn := Go.Proofs.Try.f30) (c := body30) (fits_cons fits32 fits_nil) mixed Go.Proofs.Try.func30 Go.Proofs.Try.call30 (by kernel_rfl) (by kernel_rfl) (by kernel_rfl) tie30

noncomputable def C23 : Entry := fun args w K Kp => unArgs [.one (.ptr), .one (.int .u64)] args.toList fun x => F.stretch_Set_Has env x.1 x.2.1 (fun r1 w' => K (.bool r1) w') w
noncomputable def body23 : Code := (Go.Proofs.Try.f23.body).getD .skip
def ann23 : Ann := { loops := [], joins := [] }
def T0.stretch_Set_Has (E : Env) (c_stretch_Set_at : ∀ (a0 : (Option Addr)) (a1 : Int) (K : Int → World → Prop) (w : World), Prop) (a0 : (Option Addr)) (a1 : Int) (K : Bool → World → Prop) (w : World) : Prop :=
 c_stretch_Set_at a0 a1 (fun r1 w2 =>
 NC a0 fun p3 =>
 ∃ x4 : SlV, w2.cell? p3 = some (.slice x4.base x4.len x4.cap) ∧
 CND (decide ((r1 : Int) < ((x4.len : Nat) : Int))) (
 NC a0 fun p5 =>
 ∃ x6 : SlV, w2.cell? p5 = some (.slice x6.base x6.len x6.cap) ∧
 NC x6.base fun p7 =>
 ((0 : Int) ≤ r1 ∧ (r1 : Int) < (x6.len : Nat)) ∧
 ∃ x8 : Int, w2.cell? (p7.add (Int.toNat r1 * 2)) = some (.int .u64 x8) ∧
 K (decide ((x8 : Int) ≤ a1)) w2
 ) (
 K false w2
 )
 ) w

theorem tieZ23 (c_stretch_Set_at : ∀ (a0 : (Option Addr)) (a1 : Int) (K : Int → World → Prop) (w : World), Prop) (x : ArgsV [.one (.ptr), .one (.int .u64)]) (K Kp : Value → World → Prop) (w : World) : T0.stretch_Set_Has env c_stretch_Set_at x.1 x.2.1 (fun r1 w' => K (.bool r1) w') w =
 ev Go.Proofs.Try.prog (tabC [(30, fun args w K Kp => unArgs [.one (.ptr), .one (.int .u64)] args.toList fun x => c_stretch_Set_at x.1 x.2.1 (fun r1 w' => K (.int .i64 r1) w') w)]) (ground Go.Proofs.Try.prog) ann23 body23 (finQ Go.Proofs.Try.prog Go.Proofs.Try.f23 K Kp) (initF (mkArgs [.one (.ptr), .one (.int .u64)] x)) w := by kernel_rfl
theorem tie23 (x : ArgsV [.one (.ptr), .one (.int .u64)]) (K Kp : Value → World → Prop) (w : World) : F.stretch_Set_Has env x.1 x.2.1 (fun r1 w' => K (.bool r1) w') w =
 ev Go.Proofs.Try.prog (tabC [(30, C30)]) (ground Go.Proofs.Try.prog) ann23 body23 (finQ Go.Proofs.Try.prog Go.Proofs.Try.f23 K Kp) (initF (mkArgs [.one (.ptr), .one (.int .u64)] x)) w := tieZ23 (F.stretch_Set_at env) x K Kp w
theorem fits23 : FitsOne Go.Proofs.Try.prog 23 C23 :=
 fits_of_tie (T := [(30, C30)]) (A := ann23) (fn := Go.Proofs.Try.f23) (c := body23) (fits_cons fits30 fits_nil) mixed Go.Proofs.Try.func23 Go.Proofs.Try.call23 (by kernel_rfl) (by kernel_rfl) (by kernel_rfl) tie23

noncomputable def C26 : Entry := fun args w K Kp => unArgs [.one (.ptr), .one (.int .u64), .one (.int .u64)] args.toList fun x => F.stretch_Set_Count env x.1 x.2.1 x.2.2.1 (fun r1 w' => K (.int .u64 r1) w') w
noncomputable def body26 : Code := (Go.Proofs.Try.f26.body).getD .skip
def ann26 : Ann := { loops := [(3, [(7, .one (.int .u64)), (8, .one (.int .i64))])], joins := [] }
def T0.stretch_Set_Count (E : Env) (c_stretch_Set_at : ∀ (a0 : (Option Addr)) (a1 : Int) (K : Int → World → Prop) (w : World), Prop) (a0 : (Option Addr)) (a1 : Int) (a2 : Int) (K : Int → World → Prop) (w : World) : Prop :=
 c_stretch_Set_at a0 a1 (fun r1 w2 =>
 LOOP (Int × Int × Unit) (0, r1, ()) w2 fun s3 _ w4 next5 =>
 NC a0 fun p6 =>
 ∃ x7 : SlV, w4.cell? p6 = some (.slice x7.base x7.len x7.cap) ∧
 CND (decide ((s3.2.1 : Int) < ((x7.len : Nat) : Int))) (
 NC a0 fun p8 =>
 ∃ x9 : SlV, w4.cell? p8 = some (.slice x9.base x9.len x9.cap) ∧
 NC x9.base fun p10 =>
 ((0 : Int) ≤ s3.2.1 ∧ (s3.2.1 : Int) < (x9.len : Nat)) ∧
 ∃ x11 : Int, w4.cell? (p10.add (Int.toNat s3.2.1 * 2)) = some (.int .u64 x11) ∧
 CND (decide ((x11 : Int) < a2)) (
 NC a0 fun p12 =>
 ∃ x13 : SlV, w4.drew.cell? p12 = some (.slice x13.base x13.len x13.cap) ∧
 NC x13.base fun p14 =>
 ((0 : Int) ≤ s3.2.1 ∧ (s3.2.1 : Int) < (x13.len : Nat)) ∧
 ∃ x15 : Int, w4.drew.cell? ((p14.add (Int.toNat s3.2.1 * 2)).add 1) = some (.int .u64 x15) ∧
 NC a0 fun p16 =>
 ∃ x17 : SlV, w4.drew.cell? p16 = some (.slice x17.base x17.len x17.cap) ∧
 NC x17.base fun p18 =>
 ((0 : Int) ≤ s3.2.1 ∧ (s3.2.1 : Int) < (x17.len : Nat)) ∧
 ∃ x19 : Int, w4.drew.cell? (p18.add (Int.toNat s3.2.1 * 2)) = some (.int .u64 x19) ∧
 LET (u64 (s3.1 + (u64 ((minI x15 a2) - (maxI x19 a1)))) : Int) fun n_20 =>
 next5 (n_20, i64 (s3.2.1 + 1), ()) w4.drew
 ) (
 K s3.1 w4
 )
 ) (
 K s3.1 w4
 )
 ) w

theorem tieZ26 (c_stretch_Set_at : ∀ (a0 : (Option Addr)) (a1 : Int) (K : Int → World → Prop) (w : World), Prop) (x : ArgsV [.one (.ptr), .one (.int .u64), .one (.int .u64)]) (K Kp : Value → World → Prop) (w : World) : T0.stretch_Set_Count env c_stretch_Set_at x.1 x.2.1 x.2.2.1 (fun r1 w' => K (.int .u64 r1) w') w =
 ev Go.Proofs.Try.prog (tabC [(30, fun args w K Kp => unArgs [.one (.ptr), .one (.int .u64)] args.toList fun x => c_stretch_Set_at x.1 x.2.1 (fun r1 w' => K (.int .i64 r1) w') w)]) (ground Go.Proofs.Try.prog) ann26 body26 (finQ Go.Proofs.Try.prog Go.Proofs.Try.f26 K Kp) (initF (mkArgs [.one (.ptr), .one (.int .u64), .one (.int .u64)] x)) w := by kernel_rfl
theorem tie26 (x : ArgsV [.one (.ptr), .one (.int .u64), .one (.int .u64)]) (K Kp : Value → World → Prop) (w : World) : F.stretch_Set_Count env x.1 x.2.1 x.2.2.1 (fun r1 w' => K (.int .u64 r1) w') w =
 ev Go.Proofs.Try.prog (tabC [(30, C30)]) (ground Go.Proofs.Try.prog) ann26 body26 (finQ Go.Proofs.Try.prog Go.Proofs.Try.f26 K Kp) (initF (mkArgs [.one (.ptr), .one (.int .u64), .one (.int .u64)] x)) w := tieZ26 (F.stretch_Set_at env) x K Kp w
theorem fits26 : FitsOne Go.Proofs.Try.prog 26 C26 :=
 fits_of_tie (T := [(30, C30)]) (A := ann26) (fn := Go.Proofs.Try.f26) (c := body26) (fits_cons fits30 fits_nil) mixed Go.Proofs.Try.func26 Go.Proofs.Try.call26 (by kernel_rfl) (by kernel_rfl) (by kernel_rfl) tie26

noncomputable def C31 : Entry := fun args w K Kp => unArgs [.one (.ptr), .one (.int .u64), .one (.int .u64)] args.toList fun x => F.stretch_Set_Cut env x.1 x.2.1 x.2.2.1 (fun  w' => K (.tuple ⟨[]⟩) w') w
noncomputable def body31 : Code := (Go.Proofs.Try.f31.body).getD .skip
def ann31 : Ann := { loops := [(5, [(7, .one (.int .i64)), (8, .one (.sl))])], joins := [(10, [(8, .one (.sl))]), (12, [(7, .one (.int .i64)), (8, .one (.sl))])] }
def T0.stretch_Set_Cut (E : Env) (c_stretch_Set_Count : ∀ (a0 : (Option Addr)) (a1 : Int) (a2 : Int) (K : Int → World → Prop) (w : World), Prop) (c_stretch_Set_at : ∀ (a0 : (Option Addr)) (a1 : Int) (K : Int → World → Prop) (w : World), Prop) (a0 : (Option Addr)) (a1 : Int) (a2 : Int) (K : World → Prop) (w : World) : Prop :=
 CND (decide ((a1 : Int) ≥ a2)) (
 K  w
 ) (
 NC a0 fun p1 =>
 ∃ x2 : Int, w.drew.cell? (p1.add 1) = some (.int .u64 x2) ∧
 c_stretch_Set_Count a0 a1 a2 (fun r3 w4 =>
 w4.cell? (p1.add 1) = some (.int .u64 x2) ∧
 NC a0 fun p5 =>
 stCells (p5.add 1) 0 [.int .u64 (u64 (x2 - r3))] w4 fun w6 =>
 c_stretch_Set_at a0 a1 (fun r7 w8 =>
 JOIN (Int × SlV × Unit) (fun J9 =>
 LOOP (Int × SlV × Unit) (r7, ⟨none, 0, 0⟩, ()) w8 fun s12 _ w13 next14 =>
 NC a0 fun p15 =>
 ∃ x16 : SlV, w13.cell? p15 = some (.slice x16.base x16.len x16.cap) ∧
 CND (decide ((s12.1 : Int) < ((x16.len : Nat) : Int))) (
 NC a0 fun p17 =>
 ∃ x18 : SlV, w13.cell? p17 = some (.slice x18.base x18.len x18.cap) ∧
 NC x18.base fun p19 =>
 ((0 : Int) ≤ s12.1 ∧ (s12.1 : Int) < (x18.len : Nat)) ∧
 ∃ x20 : Int, w13.cell? (p19.add (Int.toNat s12.1 * 2)) = some (.int .u64 x20) ∧
 CND (decide ((x20 : Int) < a2)) (
 NC a0 fun p21 =>
 ∃ x22 : SlV, w13.cell? p21 = some (.slice x22.base x22.len x22.cap) ∧
 NC x22.base fun p23 =>
 ((0 : Int) ≤ s12.1 ∧ (s12.1 : Int) < (x22.len : Nat)) ∧
 ∃ c24 : Int, w13.cell? ((p23.add (Int.toNat s12.1 * 2)).add 0) = some (.int .u64 c24) ∧
 ∃ c25 : Int, w13.cell? ((p23.add (Int.toNat s12.1 * 2)).add 1) = some (.int .u64 c25) ∧
 AL (.cells #[.int .u64 0, .int .u64 0] E.t_stretch_One) w13 fun b26 w27 =>
 stCells (Addr.mk b26 0 none) 0 [.int .u64 c24, .int .u64 c25] w27 fun w28 =>
 JOIN (SlV × Unit) (fun J29 =>
 ∃ x32 : Int, w28.cell? (Addr.mk b26 0 none) = some (.int .u64 x32) ∧
 CND (decide ((x32 : Int) < a1)) (
 ∃ x33 : Int, w28.cell? (Addr.mk b26 0 none) = some (.int .u64 x33) ∧
 AL (.cells ⟨[.int .u64 x33, .int .u64 a1]⟩ E.t_stretch_One) w28 fun b34 w35 =>
 APP E.t_stretch_One 2 16 #[.int .u64 0, .int .u64 0] s12.2.1 ⟨(some (Addr.mk b34 0 none)), 1, 1⟩ w35 fun s36 w37 =>
 J29 (s36, ()) w37
 ) (
 J29 (s12.2.1, ()) w28
 )
 ) fun s30 _ w31 =>
 ∃ x38 : Int, w31.cell? ((Addr.mk b26 0 none).add 1) = some (.int .u64 x38) ∧
 CND (decide ((x38 : Int) > a2)) (
 ∃ x39 : Int, w31.cell? ((Addr.mk b26 0 none).add 1) = some (.int .u64 x39) ∧
 AL (.cells ⟨[.int .u64 a2, .int .u64 x39]⟩ E.t_stretch_One) w31 fun b40 w41 =>
 APP E.t_stretch_One 2 16 #[.int .u64 0, .int .u64 0] s30.1 ⟨(some (Addr.mk b40 0 none)), 1, 1⟩ w41 fun s42 w43 =>
 next14 (i64 (s12.1 + 1), s42, ()) w43
 ) (
 next14 (i64 (s12.1 + 1), s30.1, ()) w31
 )
 ) (
 J9 (s12.1, s12.2.1, ()) w13
 )
 ) (
 J9 (s12.1, s12.2.1, ()) w13
 )
 ) fun s10 _ w11 =>
 NC a0 fun p44 =>
 ∃ x45 : SlV, w11.drew.cell? p44 = some (.slice x45.base x45.len x45.cap) ∧
 ((0 : Int) ≤ r7 ∧ (r7 : Int) ≤ (x45.cap : Nat)) ∧
 NC a0 fun p46 =>
 ∃ x47 : SlV, w11.drew.cell? p46 = some (.slice x47.base x47.len x47.cap) ∧
 ((0 : Int) ≤ s10.1 ∧ (s10.1 : Int) ≤ (x47.len : Nat)) ∧
 AL (.cells ⟨[]⟩ E.t_stretch_One) w11.drew fun b48 w49 =>
 w49.cell? p46 = some (.slice x47.base x47.len x47.cap) ∧
 w49.cell? p44 = some (.slice x45.base x45.len x45.cap) ∧
 APP E.t_stretch_One 2 16 #[.int .u64 0, .int .u64 0] ⟨(some (Addr.mk b48 0 none)), 0, 0⟩ ⟨(slB x45.base x45.cap 0 2), (Int.toNat r7), x45.cap⟩ w49 fun s50 w51 =>
 w51.cell? p46 = some (.slice x47.base x47.len x47.cap) ∧
 w51.cell? p44 = some (.slice x45.base x45.len x45.cap) ∧
 APP E.t_stretch_One 2 16 #[.int .u64 0, .int .u64 0] s50 s10.2.1 w51 fun s52 w53 =>
 w53.cell? p46 = some (.slice x47.base x47.len x47.cap) ∧
 w53.cell? p44 = some (.slice x45.base x45.len x45.cap) ∧
 APP E.t_stretch_One 2 16 #[.int .u64 0, .int .u64 0] s52 ⟨(slB x47.base x47.cap (Int.toNat s10.1) 2), (x47.len - (Int.toNat s10.1)), (x47.cap - (Int.toNat s10.1))⟩ w53 fun s54 w55 =>
 w55.cell? p46 = some (.slice x47.base x47.len x47.cap) ∧
 w55.cell? p44 = some (.slice x45.base x45.len x45.cap) ∧
 NC a0 fun p56 =>
 stCells p56 0 [.slice s54.base s54.len s54.cap] w55 fun w57 =>
 K  w57
 ) w6
 ) w.drew
 )

theorem tieZ31 (c_stretch_Set_Count : ∀ (a0 : (Option Addr)) (a1 : Int) (a2 : Int) (K : Int → World → Prop) (w : World), Prop) (c_stretch_Set_at : ∀ (a0 : (Option Addr)) (a1 : Int) (K : Int → World → Prop) (w : World), Prop) (x : ArgsV [.one (.ptr), .one (.int .u64), .one (.int .u64)]) (K Kp : Value → World → Prop) (w : World) : T0.stretch_Set_Cut env c_stretch_Set_Count c_stretch_Set_at x.1 x.2.1 x.2.2.1 (fun  w' => K (.tuple ⟨[]⟩) w') w =
 ev Go.Proofs.Try.prog (tabC [(26, fun args w K Kp => unArgs [.one (.ptr), .one (.int .u64), .one (.int .u64)] args.toList fun x => c_stretch_Set_Count x.1 x.2.1 x.2.2.1 (fun r1 w' => K (.int .u64 r1) w') w), (30, fun args w K Kp => unArgs [.one (.ptr), .one (.int .u64)] args.toList fun x => c_stretch_Set_at x.1 x.2.1 (fun r1 w' => K (.int .i64 r1) w') w)]) (ground Go.Proofs.Try.prog) ann31 body31 (finQ Go.Proofs.Try.prog Go.Proofs.Try.f31 K Kp) (initF (mkArgs [.one (.ptr), .one (.int .u64), .one (.int .u64)] x)) w := by kernel_rfl
theorem tie31 (x : ArgsV [.one (.ptr), .one (.int .u64), .one (.int .u64)]) (K Kp : Value → World → Prop) (w : World) : F.stretch_Set_Cut env x.1 x.2.1 x.2.2.1 (fun  w' => K (.tuple ⟨[]⟩) w') w =
 ev Go.Proofs.Try.prog (tabC [(26, C26), (30, C30)]) (ground Go.Proofs.Try.prog) ann31 body31 (finQ Go.Proofs.Try.prog Go.Proofs.Try.f31 K Kp) (initF (mkArgs [.one (.ptr), .one (.int .u64), .one (.int .u64)] x)) w := tieZ31 (F.stretch_Set_Count env) (F.stretch_Set_at env) x K Kp w
theorem fits31 : FitsOne Go.Proofs.Try.prog 31 C31 :=
 fits_of_tie (T := [(26, C26), (30, C30)]) (A := ann31) (fn := Go.Proofs.Try.f31) (c := body31) (fits_cons fits26 (fits_cons fits30 fits_nil)) mixed Go.Proofs.Try.func31 Go.Proofs.Try.call31 (by kernel_rfl) (by kernel_rfl) (by kernel_rfl) tie31

noncomputable def C24 : Entry := fun args w K Kp => unArgs [.one (.ptr), .one (.int .u64), .one (.int .u64)] args.toList fun x => F.stretch_Set_Add env x.1 x.2.1 x.2.2.1 (fun  w' => K (.tuple ⟨[]⟩) w') w
noncomputable def body24 : Code := (Go.Proofs.Try.f24.body).getD .skip
def ann24 : Ann := { loops := [], joins := [(7, [(51, .one (.bool))]), (9, [(8, .one (.int .i64))]), (10, [(77, .one (.bool))]), (12, [(6, .one (.int .i64))])] }
def T0.stretch_Set_Add (E : Env) (c_stretch_Set_Cut : ∀ (a0 : (Option Addr)) (a1 : Int) (a2 : Int) (K : World → Prop) (w : World), Prop) (c_stretch_Set_at : ∀ (a0 : (Option Addr)) (a1 : Int) (K : Int → World → Prop) (w : World), Prop) (a0 : (Option Addr)) (a1 : Int) (a2 : Int) (K : World → Prop) (w : World) : Prop :=
 CND (decide ((a1 : Int) ≥ a2)) (
 K  w
 ) (
 c_stretch_Set_Cut a0 a1 a2 (fun  w1 =>
 NC a0 fun p2 =>
 ∃ x3 : Int, w1.cell? (p2.add 1) = some (.int .u64 x3) ∧
 NC a0 fun p4 =>
 stCells (p4.add 1) 0 [.int .u64 (u64 (x3 + (u64 (a2 - a1))))] w1 fun w5 =>
 c_stretch_Set_at a0 a1 (fun r6 w7 =>
 AL (.cells #[.int .u64 0, .int .u64 0] E.t_stretch_One) w7 fun b8 w9 =>
 stCells (Addr.mk b8 0 none) 0 [.int .u64 a1, .int .u64 a2] w9 fun w10 =>
 JOIN (Int × Unit) (fun J11 =>
 JOIN (Bool × Unit) (fun J14 =>
 NC a0 fun p17 =>
 ∃ x18 : SlV, w10.cell? p17 = some (.slice x18.base x18.len x18.cap) ∧
 CND (decide ((r6 : Int) < ((x18.len : Nat) : Int))) (
 NC a0 fun p19 =>
 ∃ x20 : SlV, w10.cell? p19 = some (.slice x20.base x20.len x20.cap) ∧
 NC x20.base fun p21 =>
 ((0 : Int) ≤ r6 ∧ (r6 : Int) < (x20.len : Nat)) ∧
 ∃ x22 : Int, w10.cell? (p21.add (Int.toNat r6 * 2)) = some (.int .u64 x22) ∧
 J14 ((x22 : Int) == a2, ()) w10
 ) (
 J14 (false, ()) w10
 )
 ) fun s15 _ w16 =>
 CND (s15.1) (
 NC a0 fun p23 =>
 ∃ x24 : SlV, w16.cell? p23 = some (.slice x24.base x24.len x24.cap) ∧
 NC x24.base fun p25 =>
 ((0 : Int) ≤ r6 ∧ (r6 : Int) < (x24.len : Nat)) ∧
 ∃ x26 : Int, w16.cell? ((p25.add (Int.toNat r6 * 2)).add 1) = some (.int .u64 x26) ∧
 stCells ((Addr.mk b8 0 none).add 1) 0 [.int .u64 x26] w16 fun w27 =>
 J11 (i64 (r6 + 1), ()) w27
 ) (
 J11 (r6, ()) w16
 )
 ) fun s12 _ w13 =>
 JOIN (Int × Unit) (fun J28 =>
 JOIN (Bool × Unit) (fun J31 =>
 CND (decide ((r6 : Int) > 0)) (
 NC a0 fun p34 =>
 ∃ x35 : SlV, w13.cell? p34 = some (.slice x35.base x35.len x35.cap) ∧
 NC x35.base fun p36 =>
 ((0 : Int) ≤ (i64 (r6 - 1)) ∧ ((i64 (r6 - 1)) : Int) < (x35.len : Nat)) ∧
 ∃ x37 : Int, w13.cell? ((p36.add (Int.toNat (i64 (r6 - 1)) * 2)).add 1) = some (.int .u64 x37) ∧
 J31 ((x37 : Int) == a1, ()) w13
 ) (
 J31 (false, ()) w13
 )
 ) fun s32 _ w33 =>
 CND (s32.1) (
 NC a0 fun p38 =>
 ∃ x39 : SlV, w33.cell? p38 = some (.slice x39.base x39.len x39.cap) ∧
 NC x39.base fun p40 =>
 ((0 : Int) ≤ (i64 (r6 - 1)) ∧ ((i64 (r6 - 1)) : Int) < (x39.len : Nat)) ∧
 ∃ x41 : Int, w33.cell? (p40.add (Int.toNat (i64 (r6 - 1)) * 2)) = some (.int .u64 x41) ∧
 stCells (Addr.mk b8 0 none) 0 [.int .u64 x41] w33 fun w42 =>
 J28 (i64 (r6 - 1), ()) w42
 ) (
 J28 (r6, ()) w33
 )
 ) fun s29 _ w30 =>
 NC a0 fun p43 =>
 ∃ x44 : SlV, w30.drew.cell? p43 = some (.slice x44.base x44.len x44.cap) ∧
 ((0 : Int) ≤ s29.1 ∧ (s29.1 : Int) ≤ (x44.cap : Nat)) ∧
 ∃ c45 : Int, w30.drew.cell? ((Addr.mk b8 0 none).add 0) = some (.int .u64 c45) ∧
 ∃ c46 : Int, w30.drew.cell? ((Addr.mk b8 0 none).add 1) = some (.int .u64 c46) ∧
 NC a0 fun p47 =>
 ∃ x48 : SlV, w30.drew.cell? p47 = some (.slice x48.base x48.len x48.cap) ∧
 ((0 : Int) ≤ s12.1 ∧ (s12.1 : Int) ≤ (x48.len : Nat)) ∧
 (
 AL (.cells ⟨[]⟩ E.t_stretch_One) w30.drew fun b49 w50 =>
 w50.cell? p47 = some (.slice x48.base x48.len x48.cap) ∧
 (w50.cell? ((Addr.mk b8 0 none).add 0) = some (.int .u64 c45) ∧ (w50.cell? ((Addr.mk b8 0 none).add 1) = some (.int .u64 c46) ∧ True)) ∧
 w50.cell? p43 = some (.slice x44.base x44.len x44.cap) ∧
 (
 APP E.t_stretch_One 2 16 #[.int .u64 0, .int .u64 0] ⟨(some (Addr.mk b49 0 none)), 0, 0⟩ ⟨(slB x44.base x44.cap 0 2), (Int.toNat s29.1), x44.cap⟩ w50 fun s51 w52 =>
 w52.cell? p47 = some (.slice x48.base x48.len x48.cap) ∧
 (w52.cell? ((Addr.mk b8 0 none).add 0) = some (.int .u64 c45) ∧ (w52.cell? ((Addr.mk b8 0 none).add 1) = some (.int .u64 c46) ∧ True)) ∧
 w52.cell? p43 = some (.slice x44.base x44.len x44.cap) ∧
 AL (.cells ⟨[.int .u64 c45, .int .u64 c46]⟩ E.t_stretch_One) w52 fun b53 w54 =>
 w54.cell? p47 = some (.slice x48.base x48.len x48.cap) ∧
 w54.cell? p43 = some (.slice x44.base x44.len x44.cap) ∧
 APP E.t_stretch_One 2 16 #[.int .u64 0, .int .u64 0] s51 ⟨(some (Addr.mk b53 0 none)), 1, 1⟩ w54 fun s55 w56 =>
 w56.cell? p47 = some (.slice x48.base x48.len x48.cap) ∧
 w56.cell? p43 = some (.slice x44.base x44.len x44.cap) ∧
 APP E.t_stretch_One 2 16 #[.int .u64 0, .int .u64 0] s55 ⟨(slB x48.base x48.cap (Int.toNat s12.1) 2), (x48.len - (Int.toNat s12.1)), (x48.cap - (Int.toNat s12.1))⟩ w56 fun s57 w58 =>
 w58.cell? p47 = some (.slice x48.base x48.len x48.cap) ∧
 w58.cell? p43 = some (.slice x44.base x44.len x44.cap) ∧
 NC a0 fun p59 =>
 stCells p59 0 [.slice s57.base s57.len s57.cap] w58 fun w60 =>
 K  w60

 ) ∧ (
 AL (.cells ⟨[.int .u64 c45, .int .u64 c46]⟩ E.t_stretch_One) w50 fun b61 w62 =>
 w62.cell? p47 = some (.slice x48.base x48.len x48.cap) ∧
 w62.cell? p43 = some (.slice x44.base x44.len x44.cap) ∧
 APP E.t_stretch_One 2 16 #[.int .u64 0, .int .u64 0] ⟨(some (Addr.mk b49 0 none)), 0, 0⟩ ⟨(slB x44.base x44.cap 0 2), (Int.toNat s29.1), x44.cap⟩ w62 fun s63 w64 =>
 w64.cell? p47 = some (.slice x48.base x48.len x48.cap) ∧
 w64.cell? p43 = some (.slice x44.base x44.len x44.cap) ∧
 APP E.t_stretch_One 2 16 #[.int .u64 0, .int .u64 0] s63 ⟨(some (Addr.mk b61 0 none)), 1, 1⟩ w64 fun s65 w66 =>
 w66.cell? p47 = some (.slice x48.base x48.len x48.cap) ∧
 w66.cell? p43 = some (.slice x44.base x44.len x44.cap) ∧
 APP E.t_stretch_One 2 16 #[.int .u64 0, .int .u64 0] s65 ⟨(slB x48.base x48.cap (Int.toNat s12.1) 2), (x48.len - (Int.toNat s12.1)), (x48.cap - (Int.toNat s12.1))⟩ w66 fun s67 w68 =>
 w68.cell? p47 = some (.slice x48.base x48.len x48.cap) ∧
 w68.cell? p43 = some (.slice x44.base x44.len x44.cap) ∧
 NC a0 fun p69 =>
 stCells p69 0 [.slice s67.base s67.len s67.cap] w68 fun w70 =>
 K  w70
 )

 ) ∧ (
 AL (.cells ⟨[.int .u64 c45, .int .u64 c46]⟩ E.t_stretch_One) w30.drew fun b71 w72 =>
 w72.cell? p47 = some (.slice x48.base x48.len x48.cap) ∧
 w72.cell? p43 = some (.slice x44.base x44.len x44.cap) ∧
 AL (.cells ⟨[]⟩ E.t_stretch_One) w72 fun b73 w74 =>
 w74.cell? p47 = some (.slice x48.base x48.len x48.cap) ∧
 w74.cell? p43 = some (.slice x44.base x44.len x44.cap) ∧
 APP E.t_stretch_One 2 16 #[.int .u64 0, .int .u64 0] ⟨(some (Addr.mk b73 0 none)), 0, 0⟩ ⟨(slB x44.base x44.cap 0 2), (Int.toNat s29.1), x44.cap⟩ w74 fun s75 w76 =>
 w76.cell? p47 = some (.slice x48.base x48.len x48.cap) ∧
 w76.cell? p43 = some (.slice x44.base x44.len x44.cap) ∧
 APP E.t_stretch_One 2 16 #[.int .u64 0, .int .u64 0] s75 ⟨(some (Addr.mk b71 0 none)), 1, 1⟩ w76 fun s77 w78 =>
 w78.cell? p47 = some (.slice x48.base x48.len x48.cap) ∧
 w78.cell? p43 = some (.slice x44.base x44.len x44.cap) ∧
 APP E.t_stretch_One 2 16 #[.int .u64 0, .int .u64 0] s77 ⟨(slB x48.base x48.cap (Int.toNat s12.1) 2), (x48.len - (Int.toNat s12.1)), (x48.cap - (Int.toNat s12.1))⟩ w78 fun s79 w80 =>
 w80.cell? p47 = some (.slice x48.base x48.len x48.cap) ∧
 w80.cell? p43 = some (.slice x44.base x44.len x44.cap) ∧
 NC a0 fun p81 =>
 stCells p81 0 [.slice s79.base s79.len s79.cap] w80 fun w82 =>
 K  w82
 )
 ) w5
 ) w
 )

theorem tieZ24 (c_stretch_Set_Cut : ∀ (a0 : (Option Addr)) (a1 : Int) (a2 : Int) (K : World → Prop) (w : World), Prop) (c_stretch_Set_at : ∀ (a0 : (Option Addr)) (a1 : Int) (K : Int → World → Prop) (w : World), Prop) (x : ArgsV [.one (.ptr), .one (.int .u64), .one (.int .u64)]) (K Kp : Value → World → Prop) (w : World) : T0.stretch_Set_Add env c_stretch_Set_Cut c_stretch_Set_at x.1 x.2.1 x.2.2.1 (fun  w' => K (.tuple ⟨[]⟩) w') w =
 ev Go.Proofs.Try.prog (tabC [(31, fun args w K Kp => unArgs [.one (.ptr), .one (.int .u64), .one (.int .u64)] args.toList fun x => c_stretch_Set_Cut x.1 x.2.1 x.2.2.1 (fun  w' => K (.tuple ⟨[]⟩) w') w), (30, fun args w K Kp => unArgs [.one (.ptr), .one (.int .u64)] args.toList fun x => c_stretch_Set_at x.1 x.2.1 (fun r1 w' => K (.int .i64 r1) w') w)]) (ground Go.Proofs.Try.prog) ann24 body24 (finQ Go.Proofs.Try.prog Go.Proofs.Try.f24 K Kp) (initF (mkArgs [.one (.ptr), .one (.int .u64), .one (.int .u64)] x)) w := by kernel_rfl
theorem tie24 (x : ArgsV [.one (.ptr), .one (.int .u64), .one (.int .u64)]) (K Kp : Value → World → Prop) (w : World) : F.stretch_Set_Add env x.1 x.2.1 x.2.2.1 (fun  w' => K (.tuple ⟨[]⟩) w') w =
 ev Go.Proofs.Try.prog (tabC [(31, C31), (30, C30)]) (ground Go.Proofs.Try.prog) ann24 body24 (finQ Go.Proofs.Try.prog Go.Proofs.Try.f24 K Kp) (initF (mkArgs [.one (.ptr), .one (.int .u64), .one (.int .u64)] x)) w := tieZ24 (F.stretch_Set_Cut env) (F.stretch_Set_at env) x K Kp w
theorem fits24 : FitsOne Go.Proofs.Try.prog 24 C24 :=
 fits_of_tie (T := [(31, C31), (30, C30)]) (A := ann24) (fn := Go.Proofs.Try.f24) (c := body24) (fits_cons fits31 (fits_cons fits30 fits_nil)) mixed Go.Proofs.Try.func24 Go.Proofs.Try.call24 (by kernel_rfl) (by kernel_rfl) (by kernel_rfl) tie24

noncomputable def C13 : Entry := fun args w K Kp => unArgs [.one (.ptr), .one (.int .u64)] args.toList fun x => F.arena_Map_Add env x.1 x.2.1 (fun r1 w' => K (.int .i64 r1) w') w
noncomputable def body13 : Code := (Go.Proofs.Try.f13.body).getD .skip
def ann13 : Ann := { loops := [], joins := [] }
def T0.arena_Map_Add (E : Env) (c_stretch_Set_Has : ∀ (a0 : (Option Addr)) (a1 : Int) (K : Bool → World → Prop) (w : World), Prop) (c_stretch_Set_Add : ∀ (a0 : (Option Addr)) (a1 : Int) (a2 : Int) (K : World → Prop) (w : World), Prop) (a0 : (Option Addr)) (a1 : Int) (K : Int → World → Prop) (w : World) : Prop :=
 CND (decide ((a1 : Int) ≥ 67108864)) (
 K 1 w
 ) (
 NC a0 fun p1 =>
 c_stretch_Set_Has (some p1) a1 (fun r2 w3 =>
 CND (r2) (
 K 34 w3
 ) (
 NC a0 fun p4 =>
 c_stretch_Set_Add (some p4) a1 (u64 (a1 + 1)) (fun  w5 =>
 K 0 w5
 ) w3
 )
 ) w
 )

theorem tieZ13 (c_stretch_Set_Has : ∀ (a0 : (Option Addr)) (a1 : Int) (K : Bool → World → Prop) (w : World), Prop) (c_stretch_Set_Add : ∀ (a0 : (Option Addr)) (a1 : Int) (a2 : Int) (K : World → Prop) (w : World), Prop) (x : ArgsV [.one (.ptr), .one (.int .u64)]) (K Kp : Value → World → Prop) (w : World) : T0.arena_Map_Add env c_stretch_Set_Has c_stretch_Set_Add x.1 x.2.1 (fun r1 w' => K (.int .i64 r1) w') w =
 ev Go.Proofs.Try.prog (tabC [(23, fun args w K Kp => unArgs [.one (.ptr), .one (.int .u64)] args.toList fun x => c_stretch_Set_Has x.1 x.2.1 (fun r1 w' => K (.bool r1) w') w), (24, fun args w K Kp => unArgs [.one (.ptr), .one (.int .u64), .one (.int .u64)] args.toList fun x => c_stretch_Set_Add x.1 x.2.1 x.2.2.1 (fun  w' => K (.tuple ⟨[]⟩) w') w)]) (ground Go.Proofs.Try.prog) ann13 body13 (finQ Go.Proofs.Try.prog Go.Proofs.Try.f13 K Kp) (initF (mkArgs [.one (.ptr), .one (.int .u64)] x)) w := by kernel_rfl
theorem tie13 (x : ArgsV [.one (.ptr), .one (.int .u64)]) (K Kp : Value → World → Prop) (w : World) : F.arena_Map_Add env x.1 x.2.1 (fun r1 w' => K (.int .i64 r1) w') w =
 ev Go.Proofs.Try.prog (tabC [(23, C23), (24, C24)]) (ground Go.Proofs.Try.prog) ann13 body13 (finQ Go.Proofs.Try.prog Go.Proofs.Try.f13 K Kp) (initF (mkArgs [.one (.ptr), .one (.int .u64)] x)) w := tieZ13 (F.stretch_Set_Has env) (F.stretch_Set_Add env) x K Kp w
theorem fits13 : FitsOne Go.Proofs.Try.prog 13 C13 :=
 fits_of_tie (T := [(23, C23), (24, C24)]) (A := ann13) (fn := Go.Proofs.Try.f13) (c := body13) (fits_cons fits23 (fits_cons fits24 fits_nil)) mixed Go.Proofs.Try.func13 Go.Proofs.Try.call13 (by kernel_rfl) (by kernel_rfl) (by kernel_rfl) tie13

noncomputable def C21 : Entry := fun args w K Kp => unArgs [.one (.ptr), .one (.int .u64)] args.toList fun x => F.mallowlaw11_Model_has env x.1 x.2.1 (fun r1 w' => K (.bool r1) w') w
noncomputable def body21 : Code := (Go.Proofs.Try.f21.body).getD .skip
def ann21 : Ann := { loops := [(2, [(5, .one (.int .i64))])], joins := [] }
theorem tie21 (x : ArgsV [.one (.ptr), .one (.int .u64)]) (K Kp : Value → World → Prop) (w : World) : F.mallowlaw11_Model_has env x.1 x.2.1 (fun r1 w' => K (.bool r1) w') w =
 ev Go.Proofs.Try.prog (tabC []) (ground Go.Proofs.Try.prog) ann21 body21 (finQ Go.Proofs.Try.prog Go.Proofs.Try.f21 K Kp) (initF (mkArgs [.one (.ptr), .one (.int .u64)] x)) w := by kernel_rfl
theorem fits21 : FitsOne Go.Proofs.Try.prog 21 C21 :=
 fits_of_tie (T := []) (A := ann21) (fn := Go.Proofs.Try.f21) (c := body21) fits_nil mixed Go.Proofs.Try.func21 Go.Proofs.Try.call21 (by kernel_rfl) (by kernel_rfl) (by kernel_rfl) tie21

noncomputable def C18 : Entry := fun args w K Kp => unArgs [.one (.ptr), .one (.int .u64)] args.toList fun x => F.mallowlaw11_Model_add env x.1 x.2.1 (fun r1 w' => K (.int .i64 r1) w') w
noncomputable def body18 : Code := (Go.Proofs.Try.f18.body).getD .skip
def ann18 : Ann := { loops := [], joins := [] }
def T0.mallowlaw11_Model_add (E : Env) (c_mallowlaw11_Model_has : ∀ (a0 : (Option Addr)) (a1 : Int) (K : Bool → World → Prop) (w : World), Prop) (a0 : (Option Addr)) (a1 : Int) (K : Int → World → Prop) (w : World) : Prop :=
 CND (decide ((a1 : Int) ≥ 67108864)) (
 K 1 w
 ) (
 c_mallowlaw11_Model_has a0 a1 (fun r1 w2 =>
 CND (r1) (
 K 34 w2
 ) (
 NC a0 fun p3 =>
 ∃ x4 : SlV, w2.cell? p3 = some (.slice x4.base x4.len x4.cap) ∧
 AL (.cells ⟨[.int .u64 a1]⟩ E.t_uint64) w2 fun b5 w6 =>
 APP E.t_uint64 1 8 #[.int .u64 0] x4 ⟨(some (Addr.mk b5 0 none)), 1, 1⟩ w6 fun s7 w8 =>
 NC a0 fun p9 =>
 stCells p9 0 [.slice s7.base s7.len s7.cap] w8 fun w10 =>
 K 0 w10
 )
 ) w
 )

theorem tieZ18 (c_mallowlaw11_Model_has : ∀ (a0 : (Option Addr)) (a1 : Int) (K : Bool → World → Prop) (w : World), Prop) (x : ArgsV [.one (.ptr), .one (.int .u64)]) (K Kp : Value → World → Prop) (w : World) : T0.mallowlaw11_Model_add env c_mallowlaw11_Model_has x.1 x.2.1 (fun r1 w' => K (.int .i64 r1) w') w =
 ev Go.Proofs.Try.prog (tabC [(21, fun args w K Kp => unArgs [.one (.ptr), .one (.int .u64)] args.toList fun x => c_mallowlaw11_Model_has x.1 x.2.1 (fun r1 w' => K (.bool r1) w') w)]) (ground Go.Proofs.Try.prog) ann18 body18 (finQ Go.Proofs.Try.prog Go.Proofs.Try.f18 K Kp) (initF (mkArgs [.one (.ptr), .one (.int .u64)] x)) w := by kernel_rfl
theorem tie18 (x : ArgsV [.one (.ptr), .one (.int .u64)]) (K Kp : Value → World → Prop) (w : World) : F.mallowlaw11_Model_add env x.1 x.2.1 (fun r1 w' => K (.int .i64 r1) w') w =
 ev Go.Proofs.Try.prog (tabC [(21, C21)]) (ground Go.Proofs.Try.prog) ann18 body18 (finQ Go.Proofs.Try.prog Go.Proofs.Try.f18 K Kp) (initF (mkArgs [.one (.ptr), .one (.int .u64)] x)) w := tieZ18 (F.mallowlaw11_Model_has env) x K Kp w
theorem fits18 : FitsOne Go.Proofs.Try.prog 18 C18 :=
 fits_of_tie (T := [(21, C21)]) (A := ann18) (fn := Go.Proofs.Try.f18) (c := body18) (fits_cons fits21 fits_nil) mixed Go.Proofs.Try.func18 Go.Proofs.Try.call18 (by kernel_rfl) (by kernel_rfl) (by kernel_rfl) tie18

noncomputable def C27 : Entry := fun args w K Kp => unArgs [.one (.ptr), .one (.int .u64), .one (.int .u64)] args.toList fun x => F.arena_Map_cut env x.1 x.2.1 x.2.2.1 (fun  w' => K (.tuple ⟨[]⟩) w') w
noncomputable def body27 : Code := (Go.Proofs.Try.f27.body).getD .skip
def ann27 : Ann := { loops := [(2, [(6, .one (.sl)), (16, .one (.int .i64))]), (14, []), (19, [(10, .one (.int .u64))])], joins := [(5, [(29, .one (.bool))]), (8, [(6, .one (.sl))]), (15, [(81, .one (.bool))]), (17, [(91, .one (.bool))])] }
theorem tie27 (x : ArgsV [.one (.ptr), .one (.int .u64), .one (.int .u64)]) (K Kp : Value → World → Prop) (w : World) : F.arena_Map_cut env x.1 x.2.1 x.2.2.1 (fun  w' => K (.tuple ⟨[]⟩) w') w =
 ev Go.Proofs.Try.prog (tabC []) (ground Go.Proofs.Try.prog) ann27 body27 (finQ Go.Proofs.Try.prog Go.Proofs.Try.f27 K Kp) (initF (mkArgs [.one (.ptr), .one (.int .u64), .one (.int .u64)] x)) w := by kernel_rfl
theorem fits27 : FitsOne Go.Proofs.Try.prog 27 C27 :=
 fits_of_tie (T := []) (A := ann27) (fn := Go.Proofs.Try.f27) (c := body27) fits_nil mixed Go.Proofs.Try.func27 Go.Proofs.Try.call27 (by kernel_rfl) (by kernel_rfl) (by kernel_rfl) tie27

noncomputable def C19 : Entry := fun args w K Kp => unArgs [.one (.ptr), .one (.int .u64), .one (.int .u64), .one (.int .i64)] args.toList fun x => F.arena_Map_Set env x.1 x.2.1 x.2.2.1 x.2.2.2.1 (fun r1 w' => K (.int .i64 r1) w') w
noncomputable def body19 : Code := (Go.Proofs.Try.f19.body).getD .skip
def ann19 : Ann := { loops := [], joins := [(2, [(20, .one (.bool))]), (4, [(28, .one (.bool))]), (14, [])] }
def T0.arena_Map_Set (E : Env) (c_stretch_Set_Count : ∀ (a0 : (Option Addr)) (a1 : Int) (a2 : Int) (K : Int → World → Prop) (w : World), Prop) (c_arena_Map_cut : ∀ (a0 : (Option Addr)) (a1 : Int) (a2 : Int) (K : World → Prop) (w : World), Prop) (a0 : (Option Addr)) (a1 : Int) (a2 : Int) (a3 : Int) (K : Int → World → Prop) (w : World) : Prop :=
 AL (.cells #[.pointer a0] E.t__arena_Map) w fun b1 w2 =>
 AL (.cells #[.int .i64 a3] E.t_int) w2 fun b3 w4 =>
 JOIN (Bool × Unit) (fun J5 =>
 CND ((a2 : Int) == 0) (
 J5 (true, ()) w4
 ) (
 ∃ x8 : Int, w4.cell? (Addr.mk b3 0 none) = some (.int .i64 x8) ∧
 J5 (decide ((x8 : Int) < 0), ()) w4
 )
 ) fun s6 _ w7 =>
 CND (s6.1) (
 K 1 w7
 ) (
 JOIN (Bool × Unit) (fun J9 =>
 CND (decide ((a1 : Int) ≥ 34359738368)) (
 J9 (true, ()) w7
 ) (
 J9 (decide ((a2 : Int) > (u64 (34359738368 - a1))), ()) w7
 )
 ) fun s10 _ w11 =>
 CND (s10.1) (
 K 10 w11
 ) (
 512 ≠ (0 : Int) ∧
 512 ≠ (0 : Int) ∧
 LET (u64 (Int.tdiv (u64 ((u64 ((u64 (a1 + a2)) + 512)) - 1)) 512) : Int) fun last_12 =>
 ∃ x13 : (Option Addr), w11.cell? (Addr.mk b1 0 none) = some (.pointer x13) ∧
 NC x13 fun p14 =>
 c_stretch_Set_Count (some p14) (u64 (Int.tdiv a1 512)) last_12 (fun r15 w16 =>
 CND ((r15 : Int) != (u64 (last_12 - (u64 (Int.tdiv a1 512))))) (
 K 10 w16
 ) (
 512 ≠ (0 : Int) ∧
 512 ≠ (0 : Int) ∧
 LET (u64 (Int.tdiv (u64 ((u64 (a1 + 512)) - 1)) 512) : Int) fun from_17 =>
 LET (u64 (Int.tdiv (u64 (a1 + a2)) 512) : Int) fun to_18 =>
 JOIN (Unit) (fun J19 =>
 CND (decide ((from_17 : Int) < to_18)) (
 ∃ x22 : (Option Addr), w16.cell? (Addr.mk b1 0 none) = some (.pointer x22) ∧
 c_arena_Map_cut x22 from_17 to_18 (fun  w23 =>
 ∃ x24 : Int, w23.cell? (Addr.mk b3 0 none) = some (.int .i64 x24) ∧
 CND (decide ((x24 : Int) > 0)) (
 ∃ x25 : (Option Addr), w23.drew.cell? (Addr.mk b1 0 none) = some (.pointer x25) ∧
 ∃ x26 : (Option Addr), w23.drew.cell? (Addr.mk b1 0 none) = some (.pointer x26) ∧
 NC x26 fun p27 =>
 ∃ x28 : SlV, w23.drew.cell? (p27.add 2) = some (.slice x28.base x28.len x28.cap) ∧
 ∃ x29 : Int, w23.drew.cell? (Addr.mk b3 0 none) = some (.int .i64 x29) ∧
 AL (.cells ⟨[.int .u64 from_17, .int .u64 to_18, .int .i64 x29]⟩ E.t_arena_wide) w23.drew fun b30 w31 =>
 w31.cell? (Addr.mk b3 0 none) = some (.int .i64 x29) ∧
 w31.cell? (p27.add 2) = some (.slice x28.base x28.len x28.cap) ∧
 w31.cell? (Addr.mk b1 0 none) = some (.pointer x26) ∧
 w31.cell? (Addr.mk b1 0 none) = some (.pointer x25) ∧
 APP E.t_arena_wide 3 24 #[.int .u64 0, .int .u64 0, .int .i64 0] x28 ⟨(some (Addr.mk b30 0 none)), 1, 1⟩ w31 fun s32 w33 =>
 w33.cell? (Addr.mk b3 0 none) = some (.int .i64 x29) ∧
 w33.cell? (Addr.mk b1 0 none) = some (.pointer x26) ∧
 w33.cell? (Addr.mk b1 0 none) = some (.pointer x25) ∧
 NC x25 fun p34 =>
 stCells (p34.add 2) 0 [.slice s32.base s32.len s32.cap] w33 fun w35 =>
 J19 (()) w35
 ) (
 J19 (()) w23
 )
 ) w16
 ) (
 J19 (()) w16
 )
 ) fun s20 _ w21 =>
 CND (decide ((from_17 : Int) > to_18)) (
 CAL E.call E.f_arena_Map_Set_1 #[.int .u64 a1, .int .u64 (u64 (a1 + a2)), .pointer (some (Addr.mk b3 0 none)), .pointer (some (Addr.mk b1 0 none))] w21 fun r36 w37 =>
 r36 = .tuple ⟨[]⟩ ∧
 K 0 w37
 ) (
 CAL E.call E.f_arena_Map_Set_1 #[.int .u64 a1, .int .u64 (u64 (from_17 * 512)), .pointer (some (Addr.mk b3 0 none)), .pointer (some (Addr.mk b1 0 none))] w21 fun r38 w39 =>
 r38 = .tuple ⟨[]⟩ ∧
 CAL E.call E.f_arena_Map_Set_1 #[.int .u64 (u64 (to_18 * 512)), .int .u64 (u64 (a1 + a2)), .pointer (some (Addr.mk b3 0 none)), .pointer (some (Addr.mk b1 0 none))] w39 fun r40 w41 =>
 r40 = .tuple ⟨[]⟩ ∧
 K 0 w41
 )
 )
 ) w11
 )
 )

theorem tieZ19 (c_stretch_Set_Count : ∀ (a0 : (Option Addr)) (a1 : Int) (a2 : Int) (K : Int → World → Prop) (w : World), Prop) (c_arena_Map_cut : ∀ (a0 : (Option Addr)) (a1 : Int) (a2 : Int) (K : World → Prop) (w : World), Prop) (x : ArgsV [.one (.ptr), .one (.int .u64), .one (.int .u64), .one (.int .i64)]) (K Kp : Value → World → Prop) (w : World) : T0.arena_Map_Set env c_stretch_Set_Count c_arena_Map_cut x.1 x.2.1 x.2.2.1 x.2.2.2.1 (fun r1 w' => K (.int .i64 r1) w') w =
 ev Go.Proofs.Try.prog (tabC [(26, fun args w K Kp => unArgs [.one (.ptr), .one (.int .u64), .one (.int .u64)] args.toList fun x => c_stretch_Set_Count x.1 x.2.1 x.2.2.1 (fun r1 w' => K (.int .u64 r1) w') w), (27, fun args w K Kp => unArgs [.one (.ptr), .one (.int .u64), .one (.int .u64)] args.toList fun x => c_arena_Map_cut x.1 x.2.1 x.2.2.1 (fun  w' => K (.tuple ⟨[]⟩) w') w)]) (ground Go.Proofs.Try.prog) ann19 body19 (finQ Go.Proofs.Try.prog Go.Proofs.Try.f19 K Kp) (initF (mkArgs [.one (.ptr), .one (.int .u64), .one (.int .u64), .one (.int .i64)] x)) w := by kernel_rfl
theorem tie19 (x : ArgsV [.one (.ptr), .one (.int .u64), .one (.int .u64), .one (.int .i64)]) (K Kp : Value → World → Prop) (w : World) : F.arena_Map_Set env x.1 x.2.1 x.2.2.1 x.2.2.2.1 (fun r1 w' => K (.int .i64 r1) w') w =
 ev Go.Proofs.Try.prog (tabC [(26, C26), (27, C27)]) (ground Go.Proofs.Try.prog) ann19 body19 (finQ Go.Proofs.Try.prog Go.Proofs.Try.f19 K Kp) (initF (mkArgs [.one (.ptr), .one (.int .u64), .one (.int .u64), .one (.int .i64)] x)) w := tieZ19 (F.stretch_Set_Count env) (F.arena_Map_cut env) x K Kp w
theorem fits19 : FitsOne Go.Proofs.Try.prog 19 C19 :=
 fits_of_tie (T := [(26, C26), (27, C27)]) (A := ann19) (fn := Go.Proofs.Try.f19) (c := body19) (fits_cons fits26 (fits_cons fits27 fits_nil)) mixed Go.Proofs.Try.func19 Go.Proofs.Try.call19 (by kernel_rfl) (by kernel_rfl) (by kernel_rfl) tie19

noncomputable def C20 : Entry := fun args w K Kp => unArgs [.one (.ptr), .one (.int .u64), .one (.int .u64), .one (.int .i64)] args.toList fun x => F.mallowlaw11_Model_set env x.1 x.2.1 x.2.2.1 x.2.2.2.1 (fun r1 w' => K (.int .i64 r1) w') w
noncomputable def body20 : Code := (Go.Proofs.Try.f20.body).getD .skip
def ann20 : Ann := { loops := [(6, [(9, .one (.int .u64))]), (11, [(10, .one (.int .u64))])], joins := [(2, [(16, .one (.bool))]), (4, [(24, .one (.bool))])] }
def T0.mallowlaw11_Model_set (E : Env) (c_mallowlaw11_Model_has : ∀ (a0 : (Option Addr)) (a1 : Int) (K : Bool → World → Prop) (w : World), Prop) (a0 : (Option Addr)) (a1 : Int) (a2 : Int) (a3 : Int) (K : Int → World → Prop) (w : World) : Prop :=
 JOIN (Bool × Unit) (fun J1 =>
 CND ((a2 : Int) == 0) (
 J1 (true, ()) w
 ) (
 J1 (decide ((a3 : Int) < 0), ()) w
 )
 ) fun s2 _ w3 =>
 CND (s2.1) (
 K 1 w3
 ) (
 JOIN (Bool × Unit) (fun J4 =>
 CND (decide ((a1 : Int) ≥ 34359738368)) (
 J4 (true, ()) w3
 ) (
 J4 (decide ((a2 : Int) > (u64 (34359738368 - a1))), ()) w3
 )
 ) fun s5 _ w6 =>
 CND (s5.1) (
 K 10 w6
 ) (
 512 ≠ (0 : Int) ∧
 LOOP (Int × Unit) (u64 (Int.tdiv a1 512), ()) w6 fun s7 _ w8 next9 =>
 512 ≠ (0 : Int) ∧
 CND (decide ((s7.1 : Int) ≤ (u64 (Int.tdiv (u64 ((u64 (a1 + a2)) - 1)) 512)))) (
 c_mallowlaw11_Model_has a0 s7.1 (fun r10 w11 =>
 CND (!r10) (
 K 10 w11
 ) (
 next9 (u64 (s7.1 + 1), ()) w11
 )
 ) w8
 ) (
 LOOP (Int × Unit) (a1, ()) w8 fun s12 _ w13 next14 =>
 CND (decide ((s12.1 : Int) < (u64 (a1 + a2)))) (
 NC a0 fun p15 =>
 ∃ x16 : SlV, w13.cell? (p15.add 1) = some (.slice x16.base x16.len x16.cap) ∧
 AL (.cells ⟨[.int .u64 s12.1]⟩ E.t_uint64) w13 fun b17 w18 =>
 APP E.t_uint64 1 8 #[.int .u64 0] x16 ⟨(some (Addr.mk b17 0 none)), 1, 1⟩ w18 fun s19 w20 =>
 NC a0 fun p21 =>
 stCells (p21.add 1) 0 [.slice s19.base s19.len s19.cap] w20 fun w22 =>
 NC a0 fun p23 =>
 ∃ x24 : SlV, w22.cell? (p23.add 2) = some (.slice x24.base x24.len x24.cap) ∧
 AL (.cells ⟨[.int .i64 a3]⟩ E.t_int) w22 fun b25 w26 =>
 APP E.t_int 1 8 #[.int .i64 0] x24 ⟨(some (Addr.mk b25 0 none)), 1, 1⟩ w26 fun s27 w28 =>
 NC a0 fun p29 =>
 stCells (p29.add 2) 0 [.slice s27.base s27.len s27.cap] w28 fun w30 =>
 next14 (u64 (s12.1 + 1), ()) w30
 ) (
 K 0 w13
 )
 )
 )
 )

theorem tieZ20 (c_mallowlaw11_Model_has : ∀ (a0 : (Option Addr)) (a1 : Int) (K : Bool → World → Prop) (w : World), Prop) (x : ArgsV [.one (.ptr), .one (.int .u64), .one (.int .u64), .one (.int .i64)]) (K Kp : Value → World → Prop) (w : World) : T0.mallowlaw11_Model_set env c_mallowlaw11_Model_has x.1 x.2.1 x.2.2.1 x.2.2.2.1 (fun r1 w' => K (.int .i64 r1) w') w =
 ev Go.Proofs.Try.prog (tabC [(21, fun args w K Kp => unArgs [.one (.ptr), .one (.int .u64)] args.toList fun x => c_mallowlaw11_Model_has x.1 x.2.1 (fun r1 w' => K (.bool r1) w') w)]) (ground Go.Proofs.Try.prog) ann20 body20 (finQ Go.Proofs.Try.prog Go.Proofs.Try.f20 K Kp) (initF (mkArgs [.one (.ptr), .one (.int .u64), .one (.int .u64), .one (.int .i64)] x)) w := by kernel_rfl
theorem tie20 (x : ArgsV [.one (.ptr), .one (.int .u64), .one (.int .u64), .one (.int .i64)]) (K Kp : Value → World → Prop) (w : World) : F.mallowlaw11_Model_set env x.1 x.2.1 x.2.2.1 x.2.2.2.1 (fun r1 w' => K (.int .i64 r1) w') w =
 ev Go.Proofs.Try.prog (tabC [(21, C21)]) (ground Go.Proofs.Try.prog) ann20 body20 (finQ Go.Proofs.Try.prog Go.Proofs.Try.f20 K Kp) (initF (mkArgs [.one (.ptr), .one (.int .u64), .one (.int .u64), .one (.int .i64)] x)) w := tieZ20 (F.mallowlaw11_Model_has env) x K Kp w
theorem fits20 : FitsOne Go.Proofs.Try.prog 20 C20 :=
 fits_of_tie (T := [(21, C21)]) (A := ann20) (fn := Go.Proofs.Try.f20) (c := body20) (fits_cons fits21 fits_nil) mixed Go.Proofs.Try.func20 Go.Proofs.Try.call20 (by kernel_rfl) (by kernel_rfl) (by kernel_rfl) tie20

noncomputable def C22 : Entry := fun args w K Kp => unArgs [.one (.ptr), .one (.int .u64)] args.toList fun x => F.arena_Map_whole env x.1 x.2.1 (fun r1 w' => K (.int .i64 r1) w') w
noncomputable def body22 : Code := (Go.Proofs.Try.f22.body).getD .skip
def ann22 : Ann := { loops := [(2, [(12, .one (.int .i64))])], joins := [(5, [(25, .one (.bool))])] }
theorem tie22 (x : ArgsV [.one (.ptr), .one (.int .u64)]) (K Kp : Value → World → Prop) (w : World) : F.arena_Map_whole env x.1 x.2.1 (fun r1 w' => K (.int .i64 r1) w') w =
 ev Go.Proofs.Try.prog (tabC []) (ground Go.Proofs.Try.prog) ann22 body22 (finQ Go.Proofs.Try.prog Go.Proofs.Try.f22 K Kp) (initF (mkArgs [.one (.ptr), .one (.int .u64)] x)) w := by kernel_rfl
theorem fits22 : FitsOne Go.Proofs.Try.prog 22 C22 :=
 fits_of_tie (T := []) (A := ann22) (fn := Go.Proofs.Try.f22) (c := body22) fits_nil mixed Go.Proofs.Try.func22 Go.Proofs.Try.call22 (by kernel_rfl) (by kernel_rfl) (by kernel_rfl) tie22

noncomputable def C10 : Entry := fun args w K Kp => unArgs [.one (.ptr), .one (.int .u64)] args.toList fun x => F.arena_Map_At env x.1 x.2.1 (fun r1 w' => K (.int .i64 r1) w') w
noncomputable def body10 : Code := (Go.Proofs.Try.f10.body).getD .skip
def ann10 : Ann := { loops := [], joins := [] }
def T0.arena_Map_At (E : Env) (c_arena_Map_whole : ∀ (a0 : (Option Addr)) (a1 : Int) (K : Int → World → Prop) (w : World), Prop) (a0 : (Option Addr)) (a1 : Int) (K : Int → World → Prop) (w : World) : Prop :=
 8192 ≠ (0 : Int) ∧
 NC a0 fun p1 =>
 ∃ x2 : (Option Nat), w.cell? (p1.add 3) = some (.map x2) ∧
 512 ≠ (0 : Int) ∧
 LKP .u64 (u64 (Int.tdiv (u64 (Int.tdiv a1 8192)) 512)) x2 w (.pointer none) fun v3 ok4 es5 =>
 ∃ x6 : (Option Addr), v3 = .pointer x6 ∧
 CND (!x6.isNone) (
 512 ≠ (0 : Int) ∧
 NC x6 fun p7 =>
 ((0 : Int) ≤ (Int.tmod (u64 (Int.tdiv a1 8192)) 512) ∧ ((Int.tmod (u64 (Int.tdiv a1 8192)) 512) : Int) < (512 : Nat)) ∧
 ∃ x8 : Int, w.cell? (p7.add (Int.toNat (Int.tmod (u64 (Int.tdiv a1 8192)) 512) * 1)) = some (.int .i64 x8) ∧
 K x8 w
 ) (
 512 ≠ (0 : Int) ∧
 c_arena_Map_whole a0 (u64 (Int.tdiv (u64 (Int.tdiv a1 8192)) 512)) (fun r9 w10 =>
 K r9 w10
 ) w
 )

theorem tieZ10 (c_arena_Map_whole : ∀ (a0 : (Option Addr)) (a1 : Int) (K : Int → World → Prop) (w : World), Prop) (x : ArgsV [.one (.ptr), .one (.int .u64)]) (K Kp : Value → World → Prop) (w : World) : T0.arena_Map_At env c_arena_Map_whole x.1 x.2.1 (fun r1 w' => K (.int .i64 r1) w') w =
 ev Go.Proofs.Try.prog (tabC [(22, fun args w K Kp => unArgs [.one (.ptr), .one (.int .u64)] args.toList fun x => c_arena_Map_whole x.1 x.2.1 (fun r1 w' => K (.int .i64 r1) w') w)]) (ground Go.Proofs.Try.prog) ann10 body10 (finQ Go.Proofs.Try.prog Go.Proofs.Try.f10 K Kp) (initF (mkArgs [.one (.ptr), .one (.int .u64)] x)) w := by kernel_rfl
theorem tie10 (x : ArgsV [.one (.ptr), .one (.int .u64)]) (K Kp : Value → World → Prop) (w : World) : F.arena_Map_At env x.1 x.2.1 (fun r1 w' => K (.int .i64 r1) w') w =
 ev Go.Proofs.Try.prog (tabC [(22, C22)]) (ground Go.Proofs.Try.prog) ann10 body10 (finQ Go.Proofs.Try.prog Go.Proofs.Try.f10 K Kp) (initF (mkArgs [.one (.ptr), .one (.int .u64)] x)) w := tieZ10 (F.arena_Map_whole env) x K Kp w
theorem fits10 : FitsOne Go.Proofs.Try.prog 10 C10 :=
 fits_of_tie (T := [(22, C22)]) (A := ann10) (fn := Go.Proofs.Try.f10) (c := body10) (fits_cons fits22 fits_nil) mixed Go.Proofs.Try.func10 Go.Proofs.Try.call10 (by kernel_rfl) (by kernel_rfl) (by kernel_rfl) tie10

noncomputable def C11 : Entry := fun args w K Kp => unArgs [.one (.ptr), .one (.int .u64)] args.toList fun x => F.mallowlaw11_Model_at env x.1 x.2.1 (fun r1 w' => K (.int .i64 r1) w') w
noncomputable def body11 : Code := (Go.Proofs.Try.f11.body).getD .skip
def ann11 : Ann := { loops := [(2, [(5, .one (.int .i64))])], joins := [] }
theorem tie11 (x : ArgsV [.one (.ptr), .one (.int .u64)]) (K Kp : Value → World → Prop) (w : World) : F.mallowlaw11_Model_at env x.1 x.2.1 (fun r1 w' => K (.int .i64 r1) w') w =
 ev Go.Proofs.Try.prog (tabC []) (ground Go.Proofs.Try.prog) ann11 body11 (finQ Go.Proofs.Try.prog Go.Proofs.Try.f11 K Kp) (initF (mkArgs [.one (.ptr), .one (.int .u64)] x)) w := by kernel_rfl
theorem fits11 : FitsOne Go.Proofs.Try.prog 11 C11 :=
 fits_of_tie (T := []) (A := ann11) (fn := Go.Proofs.Try.f11) (c := body11) fits_nil mixed Go.Proofs.Try.func11 Go.Proofs.Try.call11 (by kernel_rfl) (by kernel_rfl) (by kernel_rfl) tie11

noncomputable def C14 : Entry := fun args w K Kp => unArgs [.one (.ptr), .one (.int .u64)] args.toList fun x => F.arena_Map_Has env x.1 x.2.1 (fun r1 w' => K (.bool r1) w') w
noncomputable def body14 : Code := (Go.Proofs.Try.f14.body).getD .skip
def ann14 : Ann := { loops := [], joins := [] }
def T0.arena_Map_Has (E : Env) (c_stretch_Set_Has : ∀ (a0 : (Option Addr)) (a1 : Int) (K : Bool → World → Prop) (w : World), Prop) (a0 : (Option Addr)) (a1 : Int) (K : Bool → World → Prop) (w : World) : Prop :=
 NC a0 fun p1 =>
 4194304 ≠ (0 : Int) ∧
 c_stretch_Set_Has (some p1) (u64 (Int.tdiv a1 4194304)) (fun r2 w3 =>
 K r2 w3
 ) w

theorem tieZ14 (c_stretch_Set_Has : ∀ (a0 : (Option Addr)) (a1 : Int) (K : Bool → World → Prop) (w : World), Prop) (x : ArgsV [.one (.ptr), .one (.int .u64)]) (K Kp : Value → World → Prop) (w : World) : T0.arena_Map_Has env c_stretch_Set_Has x.1 x.2.1 (fun r1 w' => K (.bool r1) w') w =
 ev Go.Proofs.Try.prog (tabC [(23, fun args w K Kp => unArgs [.one (.ptr), .one (.int .u64)] args.toList fun x => c_stretch_Set_Has x.1 x.2.1 (fun r1 w' => K (.bool r1) w') w)]) (ground Go.Proofs.Try.prog) ann14 body14 (finQ Go.Proofs.Try.prog Go.Proofs.Try.f14 K Kp) (initF (mkArgs [.one (.ptr), .one (.int .u64)] x)) w := by kernel_rfl
theorem tie14 (x : ArgsV [.one (.ptr), .one (.int .u64)]) (K Kp : Value → World → Prop) (w : World) : F.arena_Map_Has env x.1 x.2.1 (fun r1 w' => K (.bool r1) w') w =
 ev Go.Proofs.Try.prog (tabC [(23, C23)]) (ground Go.Proofs.Try.prog) ann14 body14 (finQ Go.Proofs.Try.prog Go.Proofs.Try.f14 K Kp) (initF (mkArgs [.one (.ptr), .one (.int .u64)] x)) w := tieZ14 (F.stretch_Set_Has env) x K Kp w
theorem fits14 : FitsOne Go.Proofs.Try.prog 14 C14 :=
 fits_of_tie (T := [(23, C23)]) (A := ann14) (fn := Go.Proofs.Try.f14) (c := body14) (fits_cons fits23 fits_nil) mixed Go.Proofs.Try.func14 Go.Proofs.Try.call14 (by kernel_rfl) (by kernel_rfl) (by kernel_rfl) tie14

noncomputable def C9 : Entry := fun args w K Kp => unArgs [.one (.ptr), .one (.ptr), .agg [.int .i64, .int .u64, .int .u64, .int .i64]] args.toList fun x => F.mallowlaw11_act env x.1 x.2.1 x.2.2.1.1 x.2.2.1.2.1 x.2.2.1.2.2.1 x.2.2.1.2.2.2.1 (fun r1 w' => K (.bool r1) w') w
noncomputable def body9 : Code := (Go.Proofs.Try.f9.body).getD .skip
def ann9 : Ann := { loops := [], joins := [(13, [(82, .one (.bool))])] }
def T0.mallowlaw11_act (E : Env) (c_arena_Map_Add : ∀ (a0 : (Option Addr)) (a1 : Int) (K : Int → World → Prop) (w : World), Prop) (c_mallowlaw11_Model_add : ∀ (a0 : (Option Addr)) (a1 : Int) (K : Int → World → Prop) (w : World), Prop) (c_arena_Map_Set : ∀ (a0 : (Option Addr)) (a1 : Int) (a2 : Int) (a3 : Int) (K : Int → World → Prop) (w : World), Prop) (c_mallowlaw11_Model_set : ∀ (a0 : (Option Addr)) (a1 : Int) (a2 : Int) (a3 : Int) (K : Int → World → Prop) (w : World), Prop) (c_arena_Map_At : ∀ (a0 : (Option Addr)) (a1 : Int) (K : Int → World → Prop) (w : World), Prop) (c_mallowlaw11_Model_at : ∀ (a0 : (Option Addr)) (a1 : Int) (K : Int → World → Prop) (w : World), Prop) (c_arena_Map_Has : ∀ (a0 : (Option Addr)) (a1 : Int) (K : Bool → World → Prop) (w : World), Prop) (c_mallowlaw11_Model_has : ∀ (a0 : (Option Addr)) (a1 : Int) (K : Bool → World → Prop) (w : World), Prop) (c_arena_Map_Chunks : ∀ (a0 : (Option Addr)) (K : Value → World → Prop) (w : World), Prop) (a0 : (Option Addr)) (a1 : (Option Addr)) (a2_0 : Int) (a2_1 : Int) (a2_2 : Int) (a2_3 : Int) (K : Bool → World → Prop) (w : World) : Prop :=
 AL (.cells #[.pointer a1] E.t__mallowlaw11_Model) w fun b1 w2 =>
 AL (.cells #[.int .i64 a2_0, .int .u64 a2_1, .int .u64 a2_2, .int .i64 a2_3] E.t_mallowlaw11_Act) w2 fun b3 w4 =>
 AL (.cells #[.bool false] E.t_bool) w4 fun b5 w6 =>
 ∃ x7 : Int, w6.cell? (Addr.mk b3 0 none) = some (.int .i64 x7) ∧
 CND ((x7 : Int) == 1) (
 ∃ x8 : Int, w6.drew.cell? ((Addr.mk b3 0 none).add 1) = some (.int .u64 x8) ∧
 ∃ x9 : (Option Addr), w6.drew.cell? (Addr.mk b1 0 none) = some (.pointer x9) ∧
 ∃ x10 : Int, w6.drew.cell? ((Addr.mk b3 0 none).add 1) = some (.int .u64 x10) ∧
 c_arena_Map_Add a0 x8 (fun r11 w12 =>
 w12.cell? ((Addr.mk b3 0 none).add 1) = some (.int .u64 x10) ∧
 w12.cell? (Addr.mk b1 0 none) = some (.pointer x9) ∧
 c_mallowlaw11_Model_add x9 x10 (fun r13 w14 =>
 stCells (Addr.mk b5 0 none) 0 [.bool ((r11 : Int) == r13)] w14 fun w15 =>
 ∃ x16 : Bool, w15.cell? (Addr.mk b5 0 none) = some (.bool x16) ∧
 K x16 w15
 ) w12
 ) w6.drew
 ) (
 CND ((x7 : Int) == 2) (
 ∃ x17 : Int, w6.drew.cell? ((Addr.mk b3 0 none).add 1) = some (.int .u64 x17) ∧
 ∃ x18 : Int, w6.drew.cell? ((Addr.mk b3 0 none).add 2) = some (.int .u64 x18) ∧
 ∃ x19 : Int, w6.drew.cell? ((Addr.mk b3 0 none).add 3) = some (.int .i64 x19) ∧
 ∃ x20 : (Option Addr), w6.drew.cell? (Addr.mk b1 0 none) = some (.pointer x20) ∧
 ∃ x21 : Int, w6.drew.cell? ((Addr.mk b3 0 none).add 1) = some (.int .u64 x21) ∧
 ∃ x22 : Int, w6.drew.cell? ((Addr.mk b3 0 none).add 2) = some (.int .u64 x22) ∧
 ∃ x23 : Int, w6.drew.cell? ((Addr.mk b3 0 none).add 3) = some (.int .i64 x23) ∧
 c_arena_Map_Set a0 x17 x18 x19 (fun r24 w25 =>
 w25.cell? ((Addr.mk b3 0 none).add 3) = some (.int .i64 x23) ∧
 w25.cell? ((Addr.mk b3 0 none).add 2) = some (.int .u64 x22) ∧
 w25.cell? ((Addr.mk b3 0 none).add 1) = some (.int .u64 x21) ∧
 w25.cell? (Addr.mk b1 0 none) = some (.pointer x20) ∧
 c_mallowlaw11_Model_set x20 x21 x22 x23 (fun r26 w27 =>
 stCells (Addr.mk b5 0 none) 0 [.bool ((r24 : Int) == r26)] w27 fun w28 =>
 ∃ x29 : Bool, w28.cell? (Addr.mk b5 0 none) = some (.bool x29) ∧
 K x29 w28
 ) w25
 ) w6.drew
 ) (
 CND ((x7 : Int) == 3) (
 ∃ x30 : Int, w6.drew.cell? ((Addr.mk b3 0 none).add 1) = some (.int .u64 x30) ∧
 ∃ x31 : (Option Addr), w6.drew.cell? (Addr.mk b1 0 none) = some (.pointer x31) ∧
 ∃ x32 : Int, w6.drew.cell? ((Addr.mk b3 0 none).add 1) = some (.int .u64 x32) ∧
 c_arena_Map_At a0 x30 (fun r33 w34 =>
 w34.cell? ((Addr.mk b3 0 none).add 1) = some (.int .u64 x32) ∧
 w34.cell? (Addr.mk b1 0 none) = some (.pointer x31) ∧
 c_mallowlaw11_Model_at x31 x32 (fun r35 w36 =>
 CND ((r33 : Int) == r35) (
 ∃ x37 : Int, w36.cell? ((Addr.mk b3 0 none).add 1) = some (.int .u64 x37) ∧
 ∃ x38 : (Option Addr), w36.cell? (Addr.mk b1 0 none) = some (.pointer x38) ∧
 ∃ x39 : Int, w36.cell? ((Addr.mk b3 0 none).add 1) = some (.int .u64 x39) ∧
 4194304 ≠ (0 : Int) ∧
 c_arena_Map_Has a0 x37 (fun r40 w41 =>
 w41.cell? ((Addr.mk b3 0 none).add 1) = some (.int .u64 x39) ∧
 w41.cell? (Addr.mk b1 0 none) = some (.pointer x38) ∧
 c_mallowlaw11_Model_has x38 (u64 (Int.tdiv x39 4194304)) (fun r42 w43 =>
 w43.cell? ((Addr.mk b3 0 none).add 1) = some (.int .u64 x39) ∧
 stCells (Addr.mk b5 0 none) 0 [.bool (r40 == r42)] w43 fun w44 =>
 ∃ x45 : Bool, w44.cell? (Addr.mk b5 0 none) = some (.bool x45) ∧
 K x45 w44
 ) w41
 ) w36
 ) (
 stCells (Addr.mk b5 0 none) 0 [.bool false] w36 fun w46 =>
 ∃ x47 : Bool, w46.cell? (Addr.mk b5 0 none) = some (.bool x47) ∧
 K x47 w46
 )
 ) w34
 ) w6.drew
 ) (
 CND ((x7 : Int) == 4) (
 AL (.cells #[.int .i64 0] E.t_int) w6 fun b48 w49 =>
 AL (.cells #[.int .u64 0] E.t_uint64) w49 fun b50 w51 =>
 stCells (Addr.mk b48 0 none) 0 [.int .i64 0] w51 fun w52 =>
 stCells (Addr.mk b50 0 none) 0 [.int .u64 0] w52 fun w53 =>
 c_arena_Map_Chunks a0 (fun r54 w55 =>
 RNGF E.seq (r54) w55 (fun x56 w57 next58 ret59 brk60 =>
 JOIN (Bool × Unit) (fun J61 =>
 ∃ x64 : Int, w57.cell? (Addr.mk b48 0 none) = some (.int .i64 x64) ∧
 CND (decide ((x64 : Int) > 0)) (
 ∃ x65 : Int, w57.cell? (Addr.mk b50 0 none) = some (.int .u64 x65) ∧
 CND (decide ((x56 : Int) ≤ x65)) (
 J61 (true, ()) w57
 ) (
 ∃ x66 : (Option Addr), w57.cell? (Addr.mk b1 0 none) = some (.pointer x66) ∧
 c_mallowlaw11_Model_has x66 x56 (fun r67 w68 =>
 J61 (!r67, ()) w68
 ) w57
 )
 ) (
 ∃ x69 : (Option Addr), w57.cell? (Addr.mk b1 0 none) = some (.pointer x69) ∧
 c_mallowlaw11_Model_has x69 x56 (fun r70 w71 =>
 J61 (!r70, ()) w71
 ) w57
 )
 ) fun s62 _ w63 =>
 CND (s62.1) (
 stCells (Addr.mk b5 0 none) 0 [.bool false] w63 fun w72 =>
 ret59 w72
 ) (
 stCells (Addr.mk b50 0 none) 0 [.int .u64 x56] w63 fun w73 =>
 ∃ x74 : Int, w73.cell? (Addr.mk b48 0 none) = some (.int .i64 x74) ∧
 stCells (Addr.mk b48 0 none) 0 [.int .i64 (i64 (x74 + 1))] w73 fun w75 =>
 ∃ x76 : Int, w75.cell? (Addr.mk b48 0 none) = some (.int .i64 x76) ∧
 ∃ x77 : Int, w75.cell? ((Addr.mk b3 0 none).add 3) = some (.int .i64 x77) ∧
 CND ((x76 : Int) == x77) (
 stCells (Addr.mk b5 0 none) 0 [.bool true] w75 fun w78 =>
 ret59 w78
 ) (
 next58 w75
 )
 )
 ) (fun D79 w80 =>
 ∃ x81 : Int, w80.drew.cell? (Addr.mk b48 0 none) = some (.int .i64 x81) ∧
 ∃ x82 : (Option Addr), w80.drew.cell? (Addr.mk b1 0 none) = some (.pointer x82) ∧
 NC x82 fun p83 =>
 ∃ x84 : SlV, w80.drew.cell? p83 = some (.slice x84.base x84.len x84.cap) ∧
 stCells (Addr.mk b5 0 none) 0 [.bool ((x81 : Int) == ((x84.len : Nat) : Int))] w80.drew fun w85 =>
 COL D79 w85 fun w86 =>
 ∃ x87 : Bool, w86.cell? (Addr.mk b5 0 none) = some (.bool x87) ∧
 K x87 w86
 ) (fun D88 w89 =>
 COL D88 w89 fun w90 =>
 ∃ x91 : Bool, w90.cell? (Addr.mk b5 0 none) = some (.bool x91) ∧
 K x91 w90
 ) []
 ) w53
 ) (
 stCells (Addr.mk b5 0 none) 0 [.bool true] w6 fun w92 =>
 ∃ x93 : Bool, w92.cell? (Addr.mk b5 0 none) = some (.bool x93) ∧
 K x93 w92
 )
 )
 )
 )

theorem tieZ9 (c_arena_Map_Add : ∀ (a0 : (Option Addr)) (a1 : Int) (K : Int → World → Prop) (w : World), Prop) (c_mallowlaw11_Model_add : ∀ (a0 : (Option Addr)) (a1 : Int) (K : Int → World → Prop) (w : World), Prop) (c_arena_Map_Set : ∀ (a0 : (Option Addr)) (a1 : Int) (a2 : Int) (a3 : Int) (K : Int → World → Prop) (w : World), Prop) (c_mallowlaw11_Model_set : ∀ (a0 : (Option Addr)) (a1 : Int) (a2 : Int) (a3 : Int) (K : Int → World → Prop) (w : World), Prop) (c_arena_Map_At : ∀ (a0 : (Option Addr)) (a1 : Int) (K : Int → World → Prop) (w : World), Prop) (c_mallowlaw11_Model_at : ∀ (a0 : (Option Addr)) (a1 : Int) (K : Int → World → Prop) (w : World), Prop) (c_arena_Map_Has : ∀ (a0 : (Option Addr)) (a1 : Int) (K : Bool → World → Prop) (w : World), Prop) (c_mallowlaw11_Model_has : ∀ (a0 : (Option Addr)) (a1 : Int) (K : Bool → World → Prop) (w : World), Prop) (c_arena_Map_Chunks : ∀ (a0 : (Option Addr)) (K : Value → World → Prop) (w : World), Prop) (x : ArgsV [.one (.ptr), .one (.ptr), .agg [.int .i64, .int .u64, .int .u64, .int .i64]]) (K Kp : Value → World → Prop) (w : World) : T0.mallowlaw11_act env c_arena_Map_Add c_mallowlaw11_Model_add c_arena_Map_Set c_mallowlaw11_Model_set c_arena_Map_At c_mallowlaw11_Model_at c_arena_Map_Has c_mallowlaw11_Model_has c_arena_Map_Chunks x.1 x.2.1 x.2.2.1.1 x.2.2.1.2.1 x.2.2.1.2.2.1 x.2.2.1.2.2.2.1 (fun r1 w' => K (.bool r1) w') w =
 evM Go.Proofs.Try.prog (tabC [(13, fun args w K Kp => unArgs [.one (.ptr), .one (.int .u64)] args.toList fun x => c_arena_Map_Add x.1 x.2.1 (fun r1 w' => K (.int .i64 r1) w') w), (18, fun args w K Kp => unArgs [.one (.ptr), .one (.int .u64)] args.toList fun x => c_mallowlaw11_Model_add x.1 x.2.1 (fun r1 w' => K (.int .i64 r1) w') w), (19, fun args w K Kp => unArgs [.one (.ptr), .one (.int .u64), .one (.int .u64), .one (.int .i64)] args.toList fun x => c_arena_Map_Set x.1 x.2.1 x.2.2.1 x.2.2.2.1 (fun r1 w' => K (.int .i64 r1) w') w), (20, fun args w K Kp => unArgs [.one (.ptr), .one (.int .u64), .one (.int .u64), .one (.int .i64)] args.toList fun x => c_mallowlaw11_Model_set x.1 x.2.1 x.2.2.1 x.2.2.2.1 (fun r1 w' => K (.int .i64 r1) w') w), (10, fun args w K Kp => unArgs [.one (.ptr), .one (.int .u64)] args.toList fun x => c_arena_Map_At x.1 x.2.1 (fun r1 w' => K (.int .i64 r1) w') w), (11, fun args w K Kp => unArgs [.one (.ptr), .one (.int .u64)] args.toList fun x => c_mallowlaw11_Model_at x.1 x.2.1 (fun r1 w' => K (.int .i64 r1) w') w), (14, fun args w K Kp => unArgs [.one (.ptr), .one (.int .u64)] args.toList fun x => c_arena_Map_Has x.1 x.2.1 (fun r1 w' => K (.bool r1) w') w), (21, fun args w K Kp => unArgs [.one (.ptr), .one (.int .u64)] args.toList fun x => c_mallowlaw11_Model_has x.1 x.2.1 (fun r1 w' => K (.bool r1) w') w), (8, fun args w K Kp => unArgs [.one (.ptr)] args.toList fun x => c_arena_Map_Chunks x.1 (fun r1 w' => K (r1) w') w)]) (ground Go.Proofs.Try.prog) (groundY Go.Proofs.Try.prog) (SeqR Go.Proofs.Try.prog) ann9 body9 (finM Go.Proofs.Try.prog Go.Proofs.Try.f9 K Kp) (initF (mkArgs [.one (.ptr), .one (.ptr), .agg [.int .i64, .int .u64, .int .u64, .int .i64]] x)) w := by kernel_rfl
theorem tie9 (x : ArgsV [.one (.ptr), .one (.ptr), .agg [.int .i64, .int .u64, .int .u64, .int .i64]]) (K Kp : Value → World → Prop) (w : World) : F.mallowlaw11_act env x.1 x.2.1 x.2.2.1.1 x.2.2.1.2.1 x.2.2.1.2.2.1 x.2.2.1.2.2.2.1 (fun r1 w' => K (.bool r1) w') w =
 evM Go.Proofs.Try.prog (tabC [(13, C13), (18, C18), (19, C19), (20, C20), (10, C10), (11, C11), (14, C14), (21, C21), (8, C8)]) (ground Go.Proofs.Try.prog) (groundY Go.Proofs.Try.prog) (SeqR Go.Proofs.Try.prog) ann9 body9 (finM Go.Proofs.Try.prog Go.Proofs.Try.f9 K Kp) (initF (mkArgs [.one (.ptr), .one (.ptr), .agg [.int .i64, .int .u64, .int .u64, .int .i64]] x)) w := tieZ9 (F.arena_Map_Add env) (F.mallowlaw11_Model_add env) (F.arena_Map_Set env) (F.mallowlaw11_Model_set env) (F.arena_Map_At env) (F.mallowlaw11_Model_at env) (F.arena_Map_Has env) (F.mallowlaw11_Model_has env) (F.arena_Map_Chunks env) x K Kp w
theorem fits9 : FitsOne Go.Proofs.Try.prog 9 C9 :=
 fits_of_tieM (T := [(13, C13), (18, C18), (19, C19), (20, C20), (10, C10), (11, C11), (14, C14), (21, C21), (8, C8)]) (A := ann9) (fn := Go.Proofs.Try.f9) (c := body9) (fits_cons fits13 (fits_cons fits18 (fits_cons fits19 (fits_cons fits20 (fits_cons fits10 (fits_cons fits11 (fits_cons fits14 (fits_cons fits21 (fits_cons fits8 fits_nil))))))))) mixed Go.Proofs.Try.func9 Go.Proofs.Try.call9 (by kernel_rfl) (by kernel_rfl) (by kernel_rfl) tie9

noncomputable def C12 : Entry := fun args w K Kp => unArgs [] args.toList fun x => F.mallowlaw11_awake env  (fun r1 w' => K (.bool r1) w') w
noncomputable def body12 : Code := (Go.Proofs.Try.f12.body).getD .skip
def ann12 : Ann := { loops := [], joins := [] }
def T0.mallowlaw11_awake (E : Env) (c_arena_New : ∀ (K : (Option Addr) → World → Prop) (w : World), Prop) (c_arena_Map_Add : ∀ (a0 : (Option Addr)) (a1 : Int) (K : Int → World → Prop) (w : World), Prop) (c_arena_Map_Set : ∀ (a0 : (Option Addr)) (a1 : Int) (a2 : Int) (a3 : Int) (K : Int → World → Prop) (w : World), Prop) (c_arena_Map_At : ∀ (a0 : (Option Addr)) (a1 : Int) (K : Int → World → Prop) (w : World), Prop) (c_arena_Map_Has : ∀ (a0 : (Option Addr)) (a1 : Int) (K : Bool → World → Prop) (w : World), Prop) (K : Bool → World → Prop) (w : World) : Prop :=
 c_arena_New  (fun r1 w2 =>
 CND (r1.isNone) (
 K false w2
 ) (
 c_arena_Map_Add r1 1 (fun r3 w4 =>
 CND ((r3 : Int) == 0) (
 c_arena_Map_Set r1 512 3 7 (fun r5 w6 =>
 CND ((r5 : Int) == 0) (
 c_arena_Map_At r1 4194309 (fun r7 w8 =>
 CND ((r7 : Int) == 7) (
 c_arena_Map_At r1 4218880 (fun r9 w10 =>
 CND ((r9 : Int) == 0) (
 c_arena_Map_Has r1 4194304 (fun r11 w12 =>
 CND (r11) (
 c_arena_Map_Has r1 0 (fun r13 w14 =>
 K (!r13) w14
 ) w12
 ) (
 K false w12
 )
 ) w10
 ) (
 K false w10
 )
 ) w8
 ) (
 K false w8
 )
 ) w6
 ) (
 K false w6
 )
 ) w4
 ) (
 K false w4
 )
 ) w2
 )
 ) w

theorem tieZ12 (c_arena_New : ∀ (K : (Option Addr) → World → Prop) (w : World), Prop) (c_arena_Map_Add : ∀ (a0 : (Option Addr)) (a1 : Int) (K : Int → World → Prop) (w : World), Prop) (c_arena_Map_Set : ∀ (a0 : (Option Addr)) (a1 : Int) (a2 : Int) (a3 : Int) (K : Int → World → Prop) (w : World), Prop) (c_arena_Map_At : ∀ (a0 : (Option Addr)) (a1 : Int) (K : Int → World → Prop) (w : World), Prop) (c_arena_Map_Has : ∀ (a0 : (Option Addr)) (a1 : Int) (K : Bool → World → Prop) (w : World), Prop) (x : ArgsV []) (K Kp : Value → World → Prop) (w : World) : T0.mallowlaw11_awake env c_arena_New c_arena_Map_Add c_arena_Map_Set c_arena_Map_At c_arena_Map_Has  (fun r1 w' => K (.bool r1) w') w =
 ev Go.Proofs.Try.prog (tabC [(7, fun args w K Kp => unArgs [] args.toList fun x => c_arena_New  (fun r1 w' => K (.pointer r1) w') w), (13, fun args w K Kp => unArgs [.one (.ptr), .one (.int .u64)] args.toList fun x => c_arena_Map_Add x.1 x.2.1 (fun r1 w' => K (.int .i64 r1) w') w), (19, fun args w K Kp => unArgs [.one (.ptr), .one (.int .u64), .one (.int .u64), .one (.int .i64)] args.toList fun x => c_arena_Map_Set x.1 x.2.1 x.2.2.1 x.2.2.2.1 (fun r1 w' => K (.int .i64 r1) w') w), (10, fun args w K Kp => unArgs [.one (.ptr), .one (.int .u64)] args.toList fun x => c_arena_Map_At x.1 x.2.1 (fun r1 w' => K (.int .i64 r1) w') w), (14, fun args w K Kp => unArgs [.one (.ptr), .one (.int .u64)] args.toList fun x => c_arena_Map_Has x.1 x.2.1 (fun r1 w' => K (.bool r1) w') w)]) (ground Go.Proofs.Try.prog) ann12 body12 (finQ Go.Proofs.Try.prog Go.Proofs.Try.f12 K Kp) (initF (mkArgs [] x)) w := by kernel_rfl
theorem tie12 (x : ArgsV []) (K Kp : Value → World → Prop) (w : World) : F.mallowlaw11_awake env  (fun r1 w' => K (.bool r1) w') w =
 ev Go.Proofs.Try.prog (tabC [(7, C7), (13, C13), (19, C19), (10, C10), (14, C14)]) (ground Go.Proofs.Try.prog) ann12 body12 (finQ Go.Proofs.Try.prog Go.Proofs.Try.f12 K Kp) (initF (mkArgs [] x)) w := tieZ12 (F.arena_New env) (F.arena_Map_Add env) (F.arena_Map_Set env) (F.arena_Map_At env) (F.arena_Map_Has env) x K Kp w
theorem fits12 : FitsOne Go.Proofs.Try.prog 12 C12 :=
 fits_of_tie (T := [(7, C7), (13, C13), (19, C19), (10, C10), (14, C14)]) (A := ann12) (fn := Go.Proofs.Try.f12) (c := body12) (fits_cons fits7 (fits_cons fits13 (fits_cons fits19 (fits_cons fits10 (fits_cons fits14 fits_nil))))) mixed Go.Proofs.Try.func12 Go.Proofs.Try.call12 (by kernel_rfl) (by kernel_rfl) (by kernel_rfl) tie12

noncomputable def C4 : Entry := fun args w K Kp => unArgs [.one (.sl), .one (.sl)] args.toList fun x => F.mallowlaw11_ArenaApart env x.1 x.2.1 (fun r1 w' => K (.bool r1) w') w
noncomputable def body4 : Code := (Go.Proofs.Try.f4.body).getD .skip
def ann4 : Ann := { loops := [(8, [(9, .one (.int .i64))])], joins := [(6, [(33, .one (.bool))]), (11, [(49, .one (.bool))])] }
def T0.mallowlaw11_ArenaApart (E : Env) (c_mallowlaw11_heavy : ∀ (a0 : SlV) (K : Bool → World → Prop) (w : World), Prop) (c_arena_New : ∀ (K : (Option Addr) → World → Prop) (w : World), Prop) (c_arena_Map_Chunks : ∀ (a0 : (Option Addr)) (K : Value → World → Prop) (w : World), Prop) (c_mallowlaw11_act : ∀ (a0 : (Option Addr)) (a1 : (Option Addr)) (a2_0 : Int) (a2_1 : Int) (a2_2 : Int) (a2_3 : Int) (K : Bool → World → Prop) (w : World), Prop) (c_mallowlaw11_awake : ∀ (K : Bool → World → Prop) (w : World), Prop) (a0 : SlV) (a1 : SlV) (K : Bool → World → Prop) (w : World) : Prop :=
 c_mallowlaw11_heavy a0 (fun r1 w2 =>
 CND (r1) (
 K true w2
 ) (
 c_arena_New  (fun r3 w4 =>
 c_arena_New  (fun r5 w6 =>
 AL (.cells #[.slice none 0 0, .slice none 0 0, .slice none 0 0] E.t_mallowlaw11_Model) w6 fun b7 w8 =>
 AL (.cells #[.slice none 0 0, .slice none 0 0, .slice none 0 0] E.t_mallowlaw11_Model) w8 fun b9 w10 =>
 JOIN (Bool × Unit) (fun J11 =>
 CND (r3.isNone) (
 J11 (true, ()) w10
 ) (
 CND (r5.isNone) (
 J11 (true, ()) w10
 ) (
 c_arena_Map_Chunks r3 (fun r14 w15 =>
 isFn (r14) = true ∧
 CND (isNilF r14) (
 J11 (true, ()) w15
 ) (
 c_arena_Map_Chunks r5 (fun r16 w17 =>
 isFn (r16) = true ∧
 J11 (isNilF r16, ()) w17
 ) w15
 )
 ) w10
 )
 )
 ) fun s12 _ w13 =>
 CND (s12.1) (
 K false w13
 ) (
 LOOP (Int × Unit) (0, ()) w13 fun s18 _ w19 next20 =>
 CND (decide ((s18.1 : Int) < ((a0.len : Nat) : Int))) (
 JOIN (Bool × Unit) (fun J21 =>
 CND (decide ((s18.1 : Int) < ((a1.len : Nat) : Int))) (
 NC a1.base fun p24 =>
 ((0 : Int) ≤ s18.1 ∧ (s18.1 : Int) < (a1.len : Nat)) ∧
 ∃ x25 : Bool, w19.cell? (p24.add (Int.toNat s18.1 * 1)) = some (.bool x25) ∧
 J21 (x25, ()) w19
 ) (
 J21 (false, ()) w19
 )
 ) fun s22 _ w23 =>
 CND (s22.1) (
 NC a0.base fun p26 =>
 ((0 : Int) ≤ s18.1 ∧ (s18.1 : Int) < (a0.len : Nat)) ∧
 ∃ c27 : Int, w23.cell? ((p26.add (Int.toNat s18.1 * 4)).add 0) = some (.int .i64 c27) ∧
 ∃ c28 : Int, w23.cell? ((p26.add (Int.toNat s18.1 * 4)).add 1) = some (.int .u64 c28) ∧
 ∃ c29 : Int, w23.cell? ((p26.add (Int.toNat s18.1 * 4)).add 2) = some (.int .u64 c29) ∧
 ∃ c30 : Int, w23.cell? ((p26.add (Int.toNat s18.1 * 4)).add 3) = some (.int .i64 c30) ∧
 c_mallowlaw11_act r5 (some (Addr.mk b9 0 none)) c27 c28 c29 c30 (fun r31 w32 =>
 CND (!r31) (
 K false w32
 ) (
 next20 (i64 (s18.1 + 1), ()) w32
 )
 ) w23
 ) (
 NC a0.base fun p33 =>
 ((0 : Int) ≤ s18.1 ∧ (s18.1 : Int) < (a0.len : Nat)) ∧
 ∃ c34 : Int, w23.cell? ((p33.add (Int.toNat s18.1 * 4)).add 0) = some (.int .i64 c34) ∧
 ∃ c35 : Int, w23.cell? ((p33.add (Int.toNat s18.1 * 4)).add 1) = some (.int .u64 c35) ∧
 ∃ c36 : Int, w23.cell? ((p33.add (Int.toNat s18.1 * 4)).add 2) = some (.int .u64 c36) ∧
 ∃ c37 : Int, w23.cell? ((p33.add (Int.toNat s18.1 * 4)).add 3) = some (.int .i64 c37) ∧
 c_mallowlaw11_act r3 (some (Addr.mk b7 0 none)) c34 c35 c36 c37 (fun r38 w39 =>
 CND (!r38) (
 K false w39
 ) (
 next20 (i64 (s18.1 + 1), ()) w39
 )
 ) w23
 )
 ) (
 c_mallowlaw11_act r3 (some (Addr.mk b7 0 none)) 4 0 0 0 (fun r40 w41 =>
 CND (r40) (
 c_mallowlaw11_act r5 (some (Addr.mk b9 0 none)) 4 0 0 0 (fun r42 w43 =>
 CND (r42) (
 c_mallowlaw11_awake  (fun r44 w45 =>
 K r44 w45
 ) w43
 ) (
 K false w43
 )
 ) w41
 ) (
 K false w41
 )
 ) w19
 )
 )
 ) w4
 ) w2
 )
 ) w

theorem tieZ4 (c_mallowlaw11_heavy : ∀ (a0 : SlV) (K : Bool → World → Prop) (w : World), Prop) (c_arena_New : ∀ (K : (Option Addr) → World → Prop) (w : World), Prop) (c_arena_Map_Chunks : ∀ (a0 : (Option Addr)) (K : Value → World → Prop) (w : World), Prop) (c_mallowlaw11_act : ∀ (a0 : (Option Addr)) (a1 : (Option Addr)) (a2_0 : Int) (a2_1 : Int) (a2_2 : Int) (a2_3 : Int) (K : Bool → World → Prop) (w : World), Prop) (c_mallowlaw11_awake : ∀ (K : Bool → World → Prop) (w : World), Prop) (x : ArgsV [.one (.sl), .one (.sl)]) (K Kp : Value → World → Prop) (w : World) : T0.mallowlaw11_ArenaApart env c_mallowlaw11_heavy c_arena_New c_arena_Map_Chunks c_mallowlaw11_act c_mallowlaw11_awake x.1 x.2.1 (fun r1 w' => K (.bool r1) w') w =
 ev Go.Proofs.Try.prog (tabC [(6, fun args w K Kp => unArgs [.one (.sl)] args.toList fun x => c_mallowlaw11_heavy x.1 (fun r1 w' => K (.bool r1) w') w), (7, fun args w K Kp => unArgs [] args.toList fun x => c_arena_New  (fun r1 w' => K (.pointer r1) w') w), (8, fun args w K Kp => unArgs [.one (.ptr)] args.toList fun x => c_arena_Map_Chunks x.1 (fun r1 w' => K (r1) w') w), (9, fun args w K Kp => unArgs [.one (.ptr), .one (.ptr), .agg [.int .i64, .int .u64, .int .u64, .int .i64]] args.toList fun x => c_mallowlaw11_act x.1 x.2.1 x.2.2.1.1 x.2.2.1.2.1 x.2.2.1.2.2.1 x.2.2.1.2.2.2.1 (fun r1 w' => K (.bool r1) w') w), (12, fun args w K Kp => unArgs [] args.toList fun x => c_mallowlaw11_awake  (fun r1 w' => K (.bool r1) w') w)]) (ground Go.Proofs.Try.prog) ann4 body4 (finQ Go.Proofs.Try.prog Go.Proofs.Try.f4 K Kp) (initF (mkArgs [.one (.sl), .one (.sl)] x)) w := by kernel_rfl
theorem tie4 (x : ArgsV [.one (.sl), .one (.sl)]) (K Kp : Value → World → Prop) (w : World) : F.mallowlaw11_ArenaApart env x.1 x.2.1 (fun r1 w' => K (.bool r1) w') w =
 ev Go.Proofs.Try.prog (tabC [(6, C6), (7, C7), (8, C8), (9, C9), (12, C12)]) (ground Go.Proofs.Try.prog) ann4 body4 (finQ Go.Proofs.Try.prog Go.Proofs.Try.f4 K Kp) (initF (mkArgs [.one (.sl), .one (.sl)] x)) w := tieZ4 (F.mallowlaw11_heavy env) (F.arena_New env) (F.arena_Map_Chunks env) (F.mallowlaw11_act env) (F.mallowlaw11_awake env) x K Kp w
theorem fits4 : FitsOne Go.Proofs.Try.prog 4 C4 :=
 fits_of_tie (T := [(6, C6), (7, C7), (8, C8), (9, C9), (12, C12)]) (A := ann4) (fn := Go.Proofs.Try.f4) (c := body4) (fits_cons fits6 (fits_cons fits7 (fits_cons fits8 (fits_cons fits9 (fits_cons fits12 fits_nil))))) mixed Go.Proofs.Try.func4 Go.Proofs.Try.call4 (by kernel_rfl) (by kernel_rfl) (by kernel_rfl) tie4

noncomputable def C17 : Entry := fun args w K Kp => unArgs [.one (.sl)] args.toList fun x => F.arena_rising env x.1 (fun r1 w' => K (r1) w') w
noncomputable def body17 : Code := (Go.Proofs.Try.f17.body).getD .skip
def ann17 : Ann := { loops := [], joins := [] }
theorem tie17 (x : ArgsV [.one (.sl)]) (K Kp : Value → World → Prop) (w : World) : F.arena_rising env x.1 (fun r1 w' => K (r1) w') w =
 ev Go.Proofs.Try.prog (tabC []) (ground Go.Proofs.Try.prog) ann17 body17 (finQ Go.Proofs.Try.prog Go.Proofs.Try.f17 K Kp) (initF (mkArgs [.one (.sl)] x)) w := by kernel_rfl
theorem fits17 : FitsOne Go.Proofs.Try.prog 17 C17 :=
 fits_of_tie (T := []) (A := ann17) (fn := Go.Proofs.Try.f17) (c := body17) fits_nil mixed Go.Proofs.Try.func17 Go.Proofs.Try.call17 (by kernel_rfl) (by kernel_rfl) (by kernel_rfl) tie17

noncomputable def C16 : Entry := fun args w K Kp => unArgs [.one (.any), .one (.ptr)] args.toList fun x => F.arena_Map_Chunks_1 env x.1 x.2.1 (fun  w' => K (.tuple ⟨[]⟩) w') w
noncomputable def body16 : Code := (Go.Proofs.Try.f16.body).getD .skip
def ann16 : Ann := { loops := [], joins := [] }
def T0.arena_Map_Chunks_1 (E : Env) (c_arena_rising : ∀ (a0 : SlV) (K : Value → World → Prop) (w : World), Prop) (a0 : Value) (a1 : (Option Addr)) (K : World → Prop) (w : World) : Prop :=
 AL (.cells (Value.cells a0) E.t_func_uint64_bool) w fun b1 w2 =>
 NC a1 fun p3 =>
 ∃ x4 : SlV, w2.cell? p3 = some (.slice x4.base x4.len x4.cap) ∧
 c_arena_rising x4 (fun r5 w6 =>
 RNGF E.seq (r5) w6 (fun x7 w8 next9 ret10 brk11 =>
 ∃ x12 : Value, w8.cell? (Addr.mk b1 0 none) = some (x12) ∧
 DYNY E.call E.yld x12 #[.int .u64 x7] w8 fun r13 w14 =>
 ∃ x15 : Bool, r13 = .bool x15 ∧
 CND (!x15) (
 ret10 w14
 ) (
 next9 w14
 )
 ) (fun D16 w17 =>
 COL D16 w17 fun w18 =>
 K  w18
 ) (fun D19 w20 =>
 COL D19 w20 fun w21 =>
 K  w21
 ) []
 ) w2

theorem tieZ16 (c_arena_rising : ∀ (a0 : SlV) (K : Value → World → Prop) (w : World), Prop) (x : ArgsV [.one (.any), .one (.ptr)]) (K Kp : Value → World → Prop) (w : World) : T0.arena_Map_Chunks_1 env c_arena_rising x.1 x.2.1 (fun  w' => K (.tuple ⟨[]⟩) w') w =
 evM Go.Proofs.Try.prog (tabC [(17, fun args w K Kp => unArgs [.one (.sl)] args.toList fun x => c_arena_rising x.1 (fun r1 w' => K (r1) w') w)]) (ground Go.Proofs.Try.prog) (groundY Go.Proofs.Try.prog) (SeqR Go.Proofs.Try.prog) ann16 body16 (finM Go.Proofs.Try.prog Go.Proofs.Try.f16 K Kp) (initF (mkArgs [.one (.any), .one (.ptr)] x)) w := by kernel_rfl
theorem tie16 (x : ArgsV [.one (.any), .one (.ptr)]) (K Kp : Value → World → Prop) (w : World) : F.arena_Map_Chunks_1 env x.1 x.2.1 (fun  w' => K (.tuple ⟨[]⟩) w') w =
 evM Go.Proofs.Try.prog (tabC [(17, C17)]) (ground Go.Proofs.Try.prog) (groundY Go.Proofs.Try.prog) (SeqR Go.Proofs.Try.prog) ann16 body16 (finM Go.Proofs.Try.prog Go.Proofs.Try.f16 K Kp) (initF (mkArgs [.one (.any), .one (.ptr)] x)) w := tieZ16 (F.arena_rising env) x K Kp w
theorem fits16 : FitsOne Go.Proofs.Try.prog 16 C16 :=
 fits_of_tieM (T := [(17, C17)]) (A := ann16) (fn := Go.Proofs.Try.f16) (c := body16) (fits_cons fits17 fits_nil) mixed Go.Proofs.Try.func16 Go.Proofs.Try.call16 (by kernel_rfl) (by kernel_rfl) (by kernel_rfl) tie16

noncomputable def C25 : Entry := fun args w K Kp => unArgs [.one (.any), .one (.ptr)] args.toList fun x => F.arena_rising_1 env x.1 x.2.1 (fun  w' => K (.tuple ⟨[]⟩) w') w
noncomputable def body25 : Code := (Go.Proofs.Try.f25.body).getD .skip
def ann25 : Ann := { loops := [(1, [(8, .one (.int .i64))]), (4, [(5, .one (.int .u64))])], joins := [] }
theorem tie25 (x : ArgsV [.one (.any), .one (.ptr)]) (K Kp : Value → World → Prop) (w : World) : F.arena_rising_1 env x.1 x.2.1 (fun  w' => K (.tuple ⟨[]⟩) w') w =
 evI Go.Proofs.Try.prog (tabC []) (ground Go.Proofs.Try.prog) (groundY Go.Proofs.Try.prog) ann25 body25 (finQ Go.Proofs.Try.prog Go.Proofs.Try.f25 K Kp) (initF (mkArgs [.one (.any), .one (.ptr)] x)) w := by kernel_rfl
theorem fits25 : FitsOne Go.Proofs.Try.prog 25 C25 :=
 fits_of_tieI (T := []) (A := ann25) (fn := Go.Proofs.Try.f25) (c := body25) fits_nil mixed Go.Proofs.Try.func25 Go.Proofs.Try.call25 (by kernel_rfl) (by kernel_rfl) (by kernel_rfl) tie25

noncomputable def C29 : Entry := fun args w K Kp => unArgs [.one (.ptr), .one (.int .u64)] args.toList fun x => F.arena_Map_leaf env x.1 x.2.1 (fun r1 w' => K (.pointer r1) w') w
noncomputable def body29 : Code := (Go.Proofs.Try.f29.body).getD .skip
def ann29 : Ann := { loops := [(7, [(25, .one (.int .i64))])], joins := [] }
def T0.arena_Map_leaf (E : Env) (c_arena_Map_whole : ∀ (a0 : (Option Addr)) (a1 : Int) (K : Int → World → Prop) (w : World), Prop) (c_arena_Map_cut : ∀ (a0 : (Option Addr)) (a1 : Int) (a2 : Int) (K : World → Prop) (w : World), Prop) (a0 : (Option Addr)) (a1 : Int) (K : (Option Addr) → World → Prop) (w : World) : Prop :=
 NC a0 fun p1 =>
 ∃ x2 : (Option Nat), w.cell? (p1.add 3) = some (.map x2) ∧
 LKP .u64 a1 x2 w (.pointer none) fun v3 ok4 es5 =>
 ∃ x6 : (Option Addr), v3 = .pointer x6 ∧
 CND (x6.isNone) (
 c_arena_Map_whole a0 a1 (fun r7 w8 =>
 c_arena_Map_cut a0 a1 (u64 (a1 + 1)) (fun  w9 =>
 AL (.cells (Array.replicate 512 (.int .i64 0)) E.t__512_int) w9 fun b10 w11 =>
 LOOP (Int × Unit) (0, ()) w11 fun s12 _ w13 next14 =>
 CND (decide ((s12.1 : Int) < 512)) (
 ((0 : Int) ≤ s12.1 ∧ (s12.1 : Int) < (512 : Nat)) ∧
 stCells ((Addr.mk b10 0 none).add (Int.toNat s12.1 * 1)) 0 [.int .i64 r7] w13 fun w15 =>
 next14 (i64 (s12.1 + 1), ()) w15
 ) (
 NC a0 fun p16 =>
 ∃ x17 : (Option Nat), w13.cell? (p16.add 3) = some (.map x17) ∧
 MUPD .u64 a1 (.pointer (some (Addr.mk b10 0 none))) x17 w13 fun w18 =>
 K (some (Addr.mk b10 0 none)) w18
 )
 ) w8
 ) w
 ) (
 K x6 w
 )

theorem tieZ29 (c_arena_Map_whole : ∀ (a0 : (Option Addr)) (a1 : Int) (K : Int → World → Prop) (w : World), Prop) (c_arena_Map_cut : ∀ (a0 : (Option Addr)) (a1 : Int) (a2 : Int) (K : World → Prop) (w : World), Prop) (x : ArgsV [.one (.ptr), .one (.int .u64)]) (K Kp : Value → World → Prop) (w : World) : T0.arena_Map_leaf env c_arena_Map_whole c_arena_Map_cut x.1 x.2.1 (fun r1 w' => K (.pointer r1) w') w =
 ev Go.Proofs.Try.prog (tabC [(22, fun args w K Kp => unArgs [.one (.ptr), .one (.int .u64)] args.toList fun x => c_arena_Map_whole x.1 x.2.1 (fun r1 w' => K (.int .i64 r1) w') w), (27, fun args w K Kp => unArgs [.one (.ptr), .one (.int .u64), .one (.int .u64)] args.toList fun x => c_arena_Map_cut x.1 x.2.1 x.2.2.1 (fun  w' => K (.tuple ⟨[]⟩) w') w)]) (ground Go.Proofs.Try.prog) ann29 body29 (finQ Go.Proofs.Try.prog Go.Proofs.Try.f29 K Kp) (initF (mkArgs [.one (.ptr), .one (.int .u64)] x)) w := by kernel_rfl
theorem tie29 (x : ArgsV [.one (.ptr), .one (.int .u64)]) (K Kp : Value → World → Prop) (w : World) : F.arena_Map_leaf env x.1 x.2.1 (fun r1 w' => K (.pointer r1) w') w =
 ev Go.Proofs.Try.prog (tabC [(22, C22), (27, C27)]) (ground Go.Proofs.Try.prog) ann29 body29 (finQ Go.Proofs.Try.prog Go.Proofs.Try.f29 K Kp) (initF (mkArgs [.one (.ptr), .one (.int .u64)] x)) w := tieZ29 (F.arena_Map_whole env) (F.arena_Map_cut env) x K Kp w
theorem fits29 : FitsOne Go.Proofs.Try.prog 29 C29 :=
 fits_of_tie (T := [(22, C22), (27, C27)]) (A := ann29) (fn := Go.Proofs.Try.f29) (c := body29) (fits_cons fits22 (fits_cons fits27 fits_nil)) mixed Go.Proofs.Try.func29 Go.Proofs.Try.call29 (by kernel_rfl) (by kernel_rfl) (by kernel_rfl) tie29

noncomputable def C28 : Entry := fun args w K Kp => unArgs [.one (.int .u64), .one (.int .u64), .one (.ptr), .one (.ptr)] args.toList fun x => F.arena_Map_Set_1 env x.1 x.2.1 x.2.2.1 x.2.2.2.1 (fun  w' => K (.tuple ⟨[]⟩) w') w
noncomputable def body28 : Code := (Go.Proofs.Try.f28.body).getD .skip
def ann28 : Ann := { loops := [(1, [(6, .one (.int .u64))])], joins := [] }
def T0.arena_Map_Set_1 (E : Env) (c_arena_Map_leaf : ∀ (a0 : (Option Addr)) (a1 : Int) (K : (Option Addr) → World → Prop) (w : World), Prop) (a0 : Int) (a1 : Int) (a2 : (Option Addr)) (a3 : (Option Addr)) (K : World → Prop) (w : World) : Prop :=
 LOOP (Int × Unit) (a0, ()) w fun s1 _ w2 next3 =>
 CND (decide ((s1.1 : Int) < a1)) (
 NC a3 fun p4 =>
 ∃ x5 : (Option Addr), w2.drew.cell? p4 = some (.pointer x5) ∧
 512 ≠ (0 : Int) ∧
 512 ≠ (0 : Int) ∧
 NC a2 fun p6 =>
 ∃ x7 : Int, w2.drew.cell? p6 = some (.int .i64 x7) ∧
 c_arena_Map_leaf x5 (u64 (Int.tdiv s1.1 512)) (fun r8 w9 =>
 w9.cell? p6 = some (.int .i64 x7) ∧
 NC r8 fun p10 =>
 ((0 : Int) ≤ (Int.tmod s1.1 512) ∧ ((Int.tmod s1.1 512) : Int) < (512 : Nat)) ∧
 stCells (p10.add (Int.toNat (Int.tmod s1.1 512) * 1)) 0 [.int .i64 x7] w9 fun w11 =>
 next3 (u64 (s1.1 + 1), ()) w11
 ) w2.drew
 ) (
 K  w2
 )

theorem tieZ28 (c_arena_Map_leaf : ∀ (a0 : (Option Addr)) (a1 : Int) (K : (Option Addr) → World → Prop) (w : World), Prop) (x : ArgsV [.one (.int .u64), .one (.int .u64), .one (.ptr), .one (.ptr)]) (K Kp : Value → World → Prop) (w : World) : T0.arena_Map_Set_1 env c_arena_Map_leaf x.1 x.2.1 x.2.2.1 x.2.2.2.1 (fun  w' => K (.tuple ⟨[]⟩) w') w =
 ev Go.Proofs.Try.prog (tabC [(29, fun args w K Kp => unArgs [.one (.ptr), .one (.int .u64)] args.toList fun x => c_arena_Map_leaf x.1 x.2.1 (fun r1 w' => K (.pointer r1) w') w)]) (ground Go.Proofs.Try.prog) ann28 body28 (finQ Go.Proofs.Try.prog Go.Proofs.Try.f28 K Kp) (initF (mkArgs [.one (.int .u64), .one (.int .u64), .one (.ptr), .one (.ptr)] x)) w := by kernel_rfl
theorem tie28 (x : ArgsV [.one (.int .u64), .one (.int .u64), .one (.ptr), .one (.ptr)]) (K Kp : Value → World → Prop) (w : World) : F.arena_Map_Set_1 env x.1 x.2.1 x.2.2.1 x.2.2.2.1 (fun  w' => K (.tuple ⟨[]⟩) w') w =
 ev Go.Proofs.Try.prog (tabC [(29, C29)]) (ground Go.Proofs.Try.prog) ann28 body28 (finQ Go.Proofs.Try.prog Go.Proofs.Try.f28 K Kp) (initF (mkArgs [.one (.int .u64), .one (.int .u64), .one (.ptr), .one (.ptr)] x)) w := tieZ28 (F.arena_Map_leaf env) x K Kp w
theorem fits28 : FitsOne Go.Proofs.Try.prog 28 C28 :=
 fits_of_tie (T := [(29, C29)]) (A := ann28) (fn := Go.Proofs.Try.f28) (c := body28) (fits_cons fits29 fits_nil) mixed Go.Proofs.Try.func28 Go.Proofs.Try.call28 (by kernel_rfl) (by kernel_rfl) (by kernel_rfl) tie28

noncomputable def C33 : Entry := fun args w K Kp => unArgs [.one (.int .i64), .one (.ptr), .one (.ptr)] args.toList fun x => F.stretch_Set_at_1 env x.1 x.2.1 x.2.2.1 (fun r1 w' => K (.bool r1) w') w
noncomputable def body33 : Code := (Go.Proofs.Try.f33.body).getD .skip
def ann33 : Ann := { loops := [], joins := [] }
theorem tie33 (x : ArgsV [.one (.int .i64), .one (.ptr), .one (.ptr)]) (K Kp : Value → World → Prop) (w : World) : F.stretch_Set_at_1 env x.1 x.2.1 x.2.2.1 (fun r1 w' => K (.bool r1) w') w =
 ev Go.Proofs.Try.prog (tabC []) (ground Go.Proofs.Try.prog) ann33 body33 (finQ Go.Proofs.Try.prog Go.Proofs.Try.f33 K Kp) (initF (mkArgs [.one (.int .i64), .one (.ptr), .one (.ptr)] x)) w := by kernel_rfl
theorem fits33 : FitsOne Go.Proofs.Try.prog 33 C33 :=
 fits_of_tie (T := []) (A := ann33) (fn := Go.Proofs.Try.f33) (c := body33) fits_nil mixed Go.Proofs.Try.func33 Go.Proofs.Try.call33 (by kernel_rfl) (by kernel_rfl) (by kernel_rfl) tie33

end Go.Sh


set_option linter.all false
namespace Go.Sh

theorem at1_mono {E : Env} {i : Int} {p1 p2 : Option Addr} {w : World} {K K' : Bool → World → Prop} (hk : ∀ b w', K b w' → K' b w') (h : F.stretch_Set_at_1 E i p1 p2 K w) : F.stretch_Set_at_1 E i p1 p2 K' w := by
  unfold F.stretch_Set_at_1 at h ⊢
  obtain ⟨q1, rfl, x2, h2, h⟩ := NC_elim h
  obtain ⟨q3, rfl, x4, h4, h⟩ := NC_elim h
  obtain ⟨q5, h5, hi, x6, h6, h⟩ := NC_elim h
  obtain ⟨q7, rfl, x8, h8, h⟩ := NC_elim h
  refine ⟨some q3, h2, x4, h4, ?_⟩
  rw [h5]
  exact ⟨hi, x6, h6, x8, h8, hk _ _ h⟩

theorem ground_mono {P : Program} (g : FuncId) (args : Array Value) (w : World) (K K' : Value → World → Prop) (hk : ∀ v w', K v w' → K' v w') (h : ground P g args w K noP) : ground P g args w K' noP :=
  ⟨h.1, h.2.mono fun e w' hE => let ⟨v, hv, h⟩ := hE.val; .inl ⟨v, hv, hk v w' h⟩⟩

end Go.Sh

