/- Each shallow form is what the code of its function comes to. No further condition. -/
import Derived.Test.YtgpepagjkejimaaMgF
import Derived.Test.YtgpepagjkejimaaProg
import Derived.KernelRfl
import Derived.Test.YtgpepagjkejimaaMgS
import Derived.Test.YtgpepagjkejimaaMgA
import Derived.Calls
set_option linter.all false
set_option maxRecDepth 100000
set_option maxHeartbeats 4000000
namespace Go.Sh
open Go.Proofs

theorem mixed : Go.Proofs.Try.prog.follows .mixedOrders = true := by kernel_rfl
noncomputable def env : Env := { call := ground Go.Proofs.Try.prog, t_map_uint64_api_Sum := 64, t_radix_Tree := 55, t__stretch_Set := 78, t_uint64 := 27, t_stretch_One := 67, t_api_Sum := 31, f_stretch_Set_at_1 := 60 }

/- F.radix_Tree_changed -/
noncomputable def C15 : Entry := fun args w K Kp => unArgs [.one (.ptr)] args.toList fun x => F.radix_Tree_changed env x.1 (fun  w' => K (.tuple ⟨[]⟩) w') w
noncomputable def body15 : Code := (Go.Proofs.Try.f15.body).getD .skip
def ann15 : Ann := { loops := [(2, [(5, .one (.int .i64))])], joins := [] }
theorem tie15 (x : ArgsV [.one (.ptr)]) (K Kp : Value → World → Prop) (w : World) : F.radix_Tree_changed env x.1 (fun  w' => K (.tuple ⟨[]⟩) w') w =
    ev Go.Proofs.Try.prog (tabC []) (ground Go.Proofs.Try.prog) ann15 body15 (finQ Go.Proofs.Try.prog Go.Proofs.Try.f15 K Kp) (initF (mkArgs [.one (.ptr)] x)) w := by kernel_rfl
theorem fits15 : FitsOne Go.Proofs.Try.prog 15 C15 :=
  fits_of_tie (T := []) (A := ann15) (fn := Go.Proofs.Try.f15) (c := body15) fits_nil mixed Go.Proofs.Try.func15 Go.Proofs.Try.call15 (by kernel_rfl) (by kernel_rfl) (by kernel_rfl) tie15

/- F.radix_New -/
noncomputable def C6 : Entry := fun args w K Kp => unArgs [] args.toList fun x => F.radix_New env  (fun r1 w' => K (.pointer r1) w') w
noncomputable def body6 : Code := (Go.Proofs.Try.f6.body).getD .skip
def ann6 : Ann := { loops := [], joins := [] }
theorem tie6 (x : ArgsV []) (K Kp : Value → World → Prop) (w : World) : F.radix_New env  (fun r1 w' => K (.pointer r1) w') w =
    ev Go.Proofs.Try.prog (tabC [(15, C15)]) (ground Go.Proofs.Try.prog) ann6 body6 (finQ Go.Proofs.Try.prog Go.Proofs.Try.f6 K Kp) (initF (mkArgs [] x)) w := by kernel_rfl
theorem fits6 : FitsOne Go.Proofs.Try.prog 6 C6 :=
  fits_of_tie (T := [(15, C15)]) (A := ann6) (fn := Go.Proofs.Try.f6) (c := body6) (fits_cons fits15 fits_nil) mixed Go.Proofs.Try.func6 Go.Proofs.Try.call6 (by kernel_rfl) (by kernel_rfl) (by kernel_rfl) tie6

/- F.sort_Search -/
noncomputable def C59 : Entry := fun args w K Kp => unArgs [.one (.int .i64), .one (.any)] args.toList fun x => F.sort_Search env x.1 x.2.1 (fun r1 w' => K (.int .i64 r1) w') w
noncomputable def body59 : Code := (Go.Proofs.Try.f59.body).getD .skip
def ann59 : Ann := { loops := [(2, [(5, .one (.int .i64)), (6, .one (.int .i64))])], joins := [] }
theorem tie59 (x : ArgsV [.one (.int .i64), .one (.any)]) (K Kp : Value → World → Prop) (w : World) : F.sort_Search env x.1 x.2.1 (fun r1 w' => K (.int .i64 r1) w') w =
    ev Go.Proofs.Try.prog (tabC []) (ground Go.Proofs.Try.prog) ann59 body59 (finQ Go.Proofs.Try.prog Go.Proofs.Try.f59 K Kp) (initF (mkArgs [.one (.int .i64), .one (.any)] x)) w := by kernel_rfl
theorem fits59 : FitsOne Go.Proofs.Try.prog 59 C59 :=
  fits_of_tie (T := []) (A := ann59) (fn := Go.Proofs.Try.f59) (c := body59) fits_nil mixed Go.Proofs.Try.func59 Go.Proofs.Try.call59 (by kernel_rfl) (by kernel_rfl) (by kernel_rfl) tie59

/- F.stretch_Set_at -/
noncomputable def C40 : Entry := fun args w K Kp => unArgs [.one (.ptr), .one (.int .u64)] args.toList fun x => F.stretch_Set_at env x.1 x.2.1 (fun r1 w' => K (.int .i64 r1) w') w
noncomputable def body40 : Code := (Go.Proofs.Try.f40.body).getD .skip
def ann40 : Ann := { loops := [], joins := [] }
theorem tie40 (x : ArgsV [.one (.ptr), .one (.int .u64)]) (K Kp : Value → World → Prop) (w : World) : F.stretch_Set_at env x.1 x.2.1 (fun r1 w' => K (.int .i64 r1) w') w =
    ev Go.Proofs.Try.prog (tabC [(59, C59)]) (ground Go.Proofs.Try.prog) ann40 body40 (finQ Go.Proofs.Try.prog Go.Proofs.Try.f40 K Kp) (initF (mkArgs [.one (.ptr), .one (.int .u64)] x)) w := by kernel_rfl
theorem fits40 : FitsOne Go.Proofs.Try.prog 40 C40 :=
  fits_of_tie (T := [(59, C59)]) (A := ann40) (fn := Go.Proofs.Try.f40) (c := body40) (fits_cons fits59 fits_nil) mixed Go.Proofs.Try.func40 Go.Proofs.Try.call40 (by kernel_rfl) (by kernel_rfl) (by kernel_rfl) tie40

/- F.stretch_Set_Count -/
noncomputable def C16 : Entry := fun args w K Kp => unArgs [.one (.ptr), .one (.int .u64), .one (.int .u64)] args.toList fun x => F.stretch_Set_Count env x.1 x.2.1 x.2.2.1 (fun r1 w' => K (.int .u64 r1) w') w
noncomputable def body16 : Code := (Go.Proofs.Try.f16.body).getD .skip
def ann16 : Ann := { loops := [(3, [(7, .one (.int .u64)), (8, .one (.int .i64))])], joins := [] }
theorem tie16 (x : ArgsV [.one (.ptr), .one (.int .u64), .one (.int .u64)]) (K Kp : Value → World → Prop) (w : World) : F.stretch_Set_Count env x.1 x.2.1 x.2.2.1 (fun r1 w' => K (.int .u64 r1) w') w =
    ev Go.Proofs.Try.prog (tabC [(40, C40)]) (ground Go.Proofs.Try.prog) ann16 body16 (finQ Go.Proofs.Try.prog Go.Proofs.Try.f16 K Kp) (initF (mkArgs [.one (.ptr), .one (.int .u64), .one (.int .u64)] x)) w := by kernel_rfl
theorem fits16 : FitsOne Go.Proofs.Try.prog 16 C16 :=
  fits_of_tie (T := [(40, C40)]) (A := ann16) (fn := Go.Proofs.Try.f16) (c := body16) (fits_cons fits40 fits_nil) mixed Go.Proofs.Try.func16 Go.Proofs.Try.call16 (by kernel_rfl) (by kernel_rfl) (by kernel_rfl) tie16

/- F.stretch_Set_Cut -/
noncomputable def C41 : Entry := fun args w K Kp => unArgs [.one (.ptr), .one (.int .u64), .one (.int .u64)] args.toList fun x => F.stretch_Set_Cut env x.1 x.2.1 x.2.2.1 (fun  w' => K (.tuple ⟨[]⟩) w') w
noncomputable def body41 : Code := (Go.Proofs.Try.f41.body).getD .skip
def ann41 : Ann := { loops := [(5, [(7, .one (.int .i64)), (8, .one (.sl))])], joins := [(10, [(8, .one (.sl))]), (12, [(7, .one (.int .i64)), (8, .one (.sl))])] }
theorem tie41 (x : ArgsV [.one (.ptr), .one (.int .u64), .one (.int .u64)]) (K Kp : Value → World → Prop) (w : World) : F.stretch_Set_Cut env x.1 x.2.1 x.2.2.1 (fun  w' => K (.tuple ⟨[]⟩) w') w =
    ev Go.Proofs.Try.prog (tabC [(16, C16), (40, C40)]) (ground Go.Proofs.Try.prog) ann41 body41 (finQ Go.Proofs.Try.prog Go.Proofs.Try.f41 K Kp) (initF (mkArgs [.one (.ptr), .one (.int .u64), .one (.int .u64)] x)) w := by kernel_rfl
theorem fits41 : FitsOne Go.Proofs.Try.prog 41 C41 :=
  fits_of_tie (T := [(16, C16), (40, C40)]) (A := ann41) (fn := Go.Proofs.Try.f41) (c := body41) (fits_cons fits16 (fits_cons fits40 fits_nil)) mixed Go.Proofs.Try.func41 Go.Proofs.Try.call41 (by kernel_rfl) (by kernel_rfl) (by kernel_rfl) tie41

/- F.stretch_Set_Add -/
noncomputable def C17 : Entry := fun args w K Kp => unArgs [.one (.ptr), .one (.int .u64), .one (.int .u64)] args.toList fun x => F.stretch_Set_Add env x.1 x.2.1 x.2.2.1 (fun  w' => K (.tuple ⟨[]⟩) w') w
noncomputable def body17 : Code := (Go.Proofs.Try.f17.body).getD .skip
def ann17 : Ann := { loops := [], joins := [(7, [(51, .one (.bool))]), (9, [(8, .one (.int .i64))]), (10, [(77, .one (.bool))]), (12, [(6, .one (.int .i64))])] }
theorem tie17 (x : ArgsV [.one (.ptr), .one (.int .u64), .one (.int .u64)]) (K Kp : Value → World → Prop) (w : World) : F.stretch_Set_Add env x.1 x.2.1 x.2.2.1 (fun  w' => K (.tuple ⟨[]⟩) w') w =
    ev Go.Proofs.Try.prog (tabC [(41, C41), (40, C40)]) (ground Go.Proofs.Try.prog) ann17 body17 (finQ Go.Proofs.Try.prog Go.Proofs.Try.f17 K Kp) (initF (mkArgs [.one (.ptr), .one (.int .u64), .one (.int .u64)] x)) w := by kernel_rfl
theorem fits17 : FitsOne Go.Proofs.Try.prog 17 C17 :=
  fits_of_tie (T := [(41, C41), (40, C40)]) (A := ann17) (fn := Go.Proofs.Try.f17) (c := body17) (fits_cons fits41 (fits_cons fits40 fits_nil)) mixed Go.Proofs.Try.func17 Go.Proofs.Try.call17 (by kernel_rfl) (by kernel_rfl) (by kernel_rfl) tie17

/- F.radix_Tree_Grow -/
noncomputable def C7 : Entry := fun args w K Kp => unArgs [.one (.ptr), .one (.int .u64), .one (.int .u64)] args.toList fun x => F.radix_Tree_Grow env x.1 x.2.1 x.2.2.1 (fun r1 w' => K (.int .i64 r1) w') w
noncomputable def body7 : Code := (Go.Proofs.Try.f7.body).getD .skip
def ann7 : Ann := { loops := [], joins := [(2, [(24, .one (.bool))])] }
theorem tie7 (x : ArgsV [.one (.ptr), .one (.int .u64), .one (.int .u64)]) (K Kp : Value → World → Prop) (w : World) : F.radix_Tree_Grow env x.1 x.2.1 x.2.2.1 (fun r1 w' => K (.int .i64 r1) w') w =
    ev Go.Proofs.Try.prog (tabC [(16, C16), (17, C17), (15, C15)]) (ground Go.Proofs.Try.prog) ann7 body7 (finQ Go.Proofs.Try.prog Go.Proofs.Try.f7 K Kp) (initF (mkArgs [.one (.ptr), .one (.int .u64), .one (.int .u64)] x)) w := by kernel_rfl
theorem fits7 : FitsOne Go.Proofs.Try.prog 7 C7 :=
  fits_of_tie (T := [(16, C16), (17, C17), (15, C15)]) (A := ann7) (fn := Go.Proofs.Try.f7) (c := body7) (fits_cons fits16 (fits_cons fits17 (fits_cons fits15 fits_nil))) mixed Go.Proofs.Try.func7 Go.Proofs.Try.call7 (by kernel_rfl) (by kernel_rfl) (by kernel_rfl) tie7

/- F.stretch_Set_All -/
noncomputable def C42 : Entry := fun args w K Kp => unArgs [.one (.ptr)] args.toList fun x => F.stretch_Set_All env x.1 (fun r1 w' => K (.slice r1.base r1.len r1.cap) w') w
noncomputable def body42 : Code := (Go.Proofs.Try.f42.body).getD .skip
def ann42 : Ann := { loops := [], joins := [] }
theorem tie42 (x : ArgsV [.one (.ptr)]) (K Kp : Value → World → Prop) (w : World) : F.stretch_Set_All env x.1 (fun r1 w' => K (.slice r1.base r1.len r1.cap) w') w =
    ev Go.Proofs.Try.prog (tabC []) (ground Go.Proofs.Try.prog) ann42 body42 (finQ Go.Proofs.Try.prog Go.Proofs.Try.f42 K Kp) (initF (mkArgs [.one (.ptr)] x)) w := by kernel_rfl
theorem fits42 : FitsOne Go.Proofs.Try.prog 42 C42 :=
  fits_of_tie (T := []) (A := ann42) (fn := Go.Proofs.Try.f42) (c := body42) fits_nil mixed Go.Proofs.Try.func42 Go.Proofs.Try.call42 (by kernel_rfl) (by kernel_rfl) (by kernel_rfl) tie42

/- F.radix_Tree_Find -/
noncomputable def C18 : Entry := fun args w K Kp => unArgs [.one (.ptr), .one (.int .u64)] args.toList fun x => F.radix_Tree_Find env x.1 x.2.1 (fun r1 r2 w' => K (.tuple ⟨[.int .u64 r1, .bool r2]⟩) w') w
noncomputable def body18 : Code := (Go.Proofs.Try.f18.body).getD .skip
def ann18 : Ann := { loops := [(4, [(15, .one (.int .i64))])], joins := [] }
theorem tie18 (x : ArgsV [.one (.ptr), .one (.int .u64)]) (K Kp : Value → World → Prop) (w : World) : F.radix_Tree_Find env x.1 x.2.1 (fun r1 r2 w' => K (.tuple ⟨[.int .u64 r1, .bool r2]⟩) w') w =
    ev Go.Proofs.Try.prog (tabC [(42, C42)]) (ground Go.Proofs.Try.prog) ann18 body18 (finQ Go.Proofs.Try.prog Go.Proofs.Try.f18 K Kp) (initF (mkArgs [.one (.ptr), .one (.int .u64)] x)) w := by kernel_rfl
theorem fits18 : FitsOne Go.Proofs.Try.prog 18 C18 :=
  fits_of_tie (T := [(42, C42)]) (A := ann18) (fn := Go.Proofs.Try.f18) (c := body18) (fits_cons fits42 fits_nil) mixed Go.Proofs.Try.func18 Go.Proofs.Try.call18 (by kernel_rfl) (by kernel_rfl) (by kernel_rfl) tie18

/- F.radix_Tree_looked -/
noncomputable def C43 : Entry := fun args w K Kp => unArgs [.one (.ptr), .one (.int .u64), .one (.int .u64), .one (.bool), .one (.int .i64)] args.toList fun x => F.radix_Tree_looked env x.1 x.2.1 x.2.2.1 x.2.2.2.1 x.2.2.2.2.1 (fun r1 w' => K (.int .i64 r1) w') w
noncomputable def body43 : Code := (Go.Proofs.Try.f43.body).getD .skip
def ann43 : Ann := { loops := [], joins := [(4, [(11, .one (.int .u64))]), (5, [(14, .one (.bool))])] }
theorem tie43 (x : ArgsV [.one (.ptr), .one (.int .u64), .one (.int .u64), .one (.bool), .one (.int .i64)]) (K Kp : Value → World → Prop) (w : World) : F.radix_Tree_looked env x.1 x.2.1 x.2.2.1 x.2.2.2.1 x.2.2.2.2.1 (fun r1 w' => K (.int .i64 r1) w') w =
    ev Go.Proofs.Try.prog (tabC [(16, C16)]) (ground Go.Proofs.Try.prog) ann43 body43 (finQ Go.Proofs.Try.prog Go.Proofs.Try.f43 K Kp) (initF (mkArgs [.one (.ptr), .one (.int .u64), .one (.int .u64), .one (.bool), .one (.int .i64)] x)) w := by kernel_rfl
theorem fits43 : FitsOne Go.Proofs.Try.prog 43 C43 :=
  fits_of_tie (T := [(16, C16)]) (A := ann43) (fn := Go.Proofs.Try.f43) (c := body43) (fits_cons fits16 fits_nil) mixed Go.Proofs.Try.func43 Go.Proofs.Try.call43 (by kernel_rfl) (by kernel_rfl) (by kernel_rfl) tie43

/- F.radix_Tree_Take -/
noncomputable def C19 : Entry := fun args w K Kp => unArgs [.one (.ptr), .one (.int .u64), .one (.int .u64)] args.toList fun x => F.radix_Tree_Take env x.1 x.2.1 x.2.2.1 (fun r1 r2 w' => K (.tuple ⟨[.int .u64 r1, .int .i64 r2]⟩) w') w
noncomputable def body19 : Code := (Go.Proofs.Try.f19.body).getD .skip
def ann19 : Ann := { loops := [], joins := [] }
theorem tie19 (x : ArgsV [.one (.ptr), .one (.int .u64), .one (.int .u64)]) (K Kp : Value → World → Prop) (w : World) : F.radix_Tree_Take env x.1 x.2.1 x.2.2.1 (fun r1 r2 w' => K (.tuple ⟨[.int .u64 r1, .int .i64 r2]⟩) w') w =
    ev Go.Proofs.Try.prog (tabC [(43, C43), (16, C16), (41, C41), (15, C15)]) (ground Go.Proofs.Try.prog) ann19 body19 (finQ Go.Proofs.Try.prog Go.Proofs.Try.f19 K Kp) (initF (mkArgs [.one (.ptr), .one (.int .u64), .one (.int .u64)] x)) w := by kernel_rfl
theorem fits19 : FitsOne Go.Proofs.Try.prog 19 C19 :=
  fits_of_tie (T := [(43, C43), (16, C16), (41, C41), (15, C15)]) (A := ann19) (fn := Go.Proofs.Try.f19) (c := body19) (fits_cons fits43 (fits_cons fits16 (fits_cons fits41 (fits_cons fits15 fits_nil)))) mixed Go.Proofs.Try.func19 Go.Proofs.Try.call19 (by kernel_rfl) (by kernel_rfl) (by kernel_rfl) tie19

/- F.radix_Tree_Alloc -/
noncomputable def C8 : Entry := fun args w K Kp => unArgs [.one (.ptr), .one (.int .u64)] args.toList fun x => F.radix_Tree_Alloc env x.1 x.2.1 (fun r1 r2 r3 w' => K (.tuple ⟨[.int .u64 r1, .int .u64 r2, .int .i64 r3]⟩) w') w
noncomputable def body8 : Code := (Go.Proofs.Try.f8.body).getD .skip
def ann8 : Ann := { loops := [], joins := [] }
theorem tie8 (x : ArgsV [.one (.ptr), .one (.int .u64)]) (K Kp : Value → World → Prop) (w : World) : F.radix_Tree_Alloc env x.1 x.2.1 (fun r1 r2 r3 w' => K (.tuple ⟨[.int .u64 r1, .int .u64 r2, .int .i64 r3]⟩) w') w =
    ev Go.Proofs.Try.prog (tabC [(18, C18), (19, C19)]) (ground Go.Proofs.Try.prog) ann8 body8 (finQ Go.Proofs.Try.prog Go.Proofs.Try.f8 K Kp) (initF (mkArgs [.one (.ptr), .one (.int .u64)] x)) w := by kernel_rfl
theorem fits8 : FitsOne Go.Proofs.Try.prog 8 C8 :=
  fits_of_tie (T := [(18, C18), (19, C19)]) (A := ann8) (fn := Go.Proofs.Try.f8) (c := body8) (fits_cons fits18 (fits_cons fits19 fits_nil)) mixed Go.Proofs.Try.func8 Go.Proofs.Try.call8 (by kernel_rfl) (by kernel_rfl) (by kernel_rfl) tie8

/- F.radix_pages -/
noncomputable def C20 : Entry := fun args w K Kp => unArgs [.one (.int .i64)] args.toList fun x => F.radix_pages env x.1 (fun r1 w' => K (.int .u64 r1) w') w
noncomputable def body20 : Code := (Go.Proofs.Try.f20.body).getD .skip
def ann20 : Ann := { loops := [(3, [(3, .one (.int .u64)), (6, .one (.int .i64))])], joins := [] }
theorem tie20 (x : ArgsV [.one (.int .i64)]) (K Kp : Value → World → Prop) (w : World) : F.radix_pages env x.1 (fun r1 w' => K (.int .u64 r1) w') w =
    ev Go.Proofs.Try.prog (tabC []) (ground Go.Proofs.Try.prog) ann20 body20 (finQ Go.Proofs.Try.prog Go.Proofs.Try.f20 K Kp) (initF (mkArgs [.one (.int .i64)] x)) w := by kernel_rfl
theorem fits20 : FitsOne Go.Proofs.Try.prog 20 C20 :=
  fits_of_tie (T := []) (A := ann20) (fn := Go.Proofs.Try.f20) (c := body20) fits_nil mixed Go.Proofs.Try.func20 Go.Proofs.Try.call20 (by kernel_rfl) (by kernel_rfl) (by kernel_rfl) tie20

/- F.stretch_Set_Within -/
noncomputable def C21 : Entry := fun args w K Kp => unArgs [.one (.ptr), .one (.int .u64), .one (.int .u64)] args.toList fun x => F.stretch_Set_Within env x.1 x.2.1 x.2.2.1 (fun r1 w' => K (.slice r1.base r1.len r1.cap) w') w
noncomputable def body21 : Code := (Go.Proofs.Try.f21.body).getD .skip
def ann21 : Ann := { loops := [(3, [(7, .one (.sl)), (8, .one (.int .i64))])], joins := [] }
theorem tie21 (x : ArgsV [.one (.ptr), .one (.int .u64), .one (.int .u64)]) (K Kp : Value → World → Prop) (w : World) : F.stretch_Set_Within env x.1 x.2.1 x.2.2.1 (fun r1 w' => K (.slice r1.base r1.len r1.cap) w') w =
    ev Go.Proofs.Try.prog (tabC [(40, C40)]) (ground Go.Proofs.Try.prog) ann21 body21 (finQ Go.Proofs.Try.prog Go.Proofs.Try.f21 K Kp) (initF (mkArgs [.one (.ptr), .one (.int .u64), .one (.int .u64)] x)) w := by kernel_rfl
theorem fits21 : FitsOne Go.Proofs.Try.prog 21 C21 :=
  fits_of_tie (T := [(40, C40)]) (A := ann21) (fn := Go.Proofs.Try.f21) (c := body21) (fits_cons fits40 fits_nil) mixed Go.Proofs.Try.func21 Go.Proofs.Try.call21 (by kernel_rfl) (by kernel_rfl) (by kernel_rfl) tie21

/- F.radix_Tree_Sum -/
noncomputable def C9 : Entry := fun args w K Kp => unArgs [.one (.ptr), .one (.int .i64), .one (.int .u64)] args.toList fun x => F.radix_Tree_Sum env x.1 x.2.1 x.2.2.1 (fun r1 r2 r3 r4 w' => K (.tuple ⟨[.agg ⟨[.int .i64 r1, .int .i64 r2, .int .i64 r3]⟩, .int .i64 r4]⟩) w') w
noncomputable def body9 : Code := (Go.Proofs.Try.f9.body).getD .skip
def ann9 : Ann := { loops := [(10, [(59, .one (.int .i64))])], joins := [(2, [(28, .one (.bool))]), (16, [])] }
theorem tie9 (x : ArgsV [.one (.ptr), .one (.int .i64), .one (.int .u64)]) (K Kp : Value → World → Prop) (w : World) : F.radix_Tree_Sum env x.1 x.2.1 x.2.2.1 (fun r1 r2 r3 r4 w' => K (.tuple ⟨[.agg ⟨[.int .i64 r1, .int .i64 r2, .int .i64 r3]⟩, .int .i64 r4]⟩) w') w =
    ev Go.Proofs.Try.prog (tabC [(20, C20), (21, C21)]) (ground Go.Proofs.Try.prog) ann9 body9 (finQ Go.Proofs.Try.prog Go.Proofs.Try.f9 K Kp) (initF (mkArgs [.one (.ptr), .one (.int .i64), .one (.int .u64)] x)) w := by kernel_rfl
theorem fits9 : FitsOne Go.Proofs.Try.prog 9 C9 :=
  fits_of_tie (T := [(20, C20), (21, C21)]) (A := ann9) (fn := Go.Proofs.Try.f9) (c := body9) (fits_cons fits20 (fits_cons fits21 fits_nil)) mixed Go.Proofs.Try.func9 Go.Proofs.Try.call9 (by kernel_rfl) (by kernel_rfl) (by kernel_rfl) tie9

/- F.pack_right -/
noncomputable def C44 : Entry := fun args w K Kp => unArgs [.agg [.int .i64, .int .i64, .int .i64], .one (.int .i64)] args.toList fun x => F.pack_right env x.1.1 x.1.2.1 x.1.2.2.1 x.2.1 (fun r1 w' => K (.bool r1) w') w
noncomputable def body44 : Code := (Go.Proofs.Try.f44.body).getD .skip
def ann44 : Ann := { loops := [], joins := [] }
theorem tie44 (x : ArgsV [.agg [.int .i64, .int .i64, .int .i64], .one (.int .i64)]) (K Kp : Value → World → Prop) (w : World) : F.pack_right env x.1.1 x.1.2.1 x.1.2.2.1 x.2.1 (fun r1 w' => K (.bool r1) w') w =
    ev Go.Proofs.Try.prog (tabC []) (ground Go.Proofs.Try.prog) ann44 body44 (finQ Go.Proofs.Try.prog Go.Proofs.Try.f44 K Kp) (initF (mkArgs [.agg [.int .i64, .int .i64, .int .i64], .one (.int .i64)] x)) w := by kernel_rfl
theorem fits44 : FitsOne Go.Proofs.Try.prog 44 C44 :=
  fits_of_tie (T := []) (A := ann44) (fn := Go.Proofs.Try.f44) (c := body44) fits_nil mixed Go.Proofs.Try.func44 Go.Proofs.Try.call44 (by kernel_rfl) (by kernel_rfl) (by kernel_rfl) tie44

/- F.pack_rights -/
noncomputable def C22 : Entry := fun args w K Kp => unArgs [.one (.sl), .one (.int .i64)] args.toList fun x => F.pack_rights env x.1 x.2.1 (fun r1 w' => K (.bool r1) w') w
noncomputable def body22 : Code := (Go.Proofs.Try.f22.body).getD .skip
def ann22 : Ann := { loops := [(4, [(20, .one (.int .i64))])], joins := [(2, [(17, .one (.bool))])] }
theorem tie22 (x : ArgsV [.one (.sl), .one (.int .i64)]) (K Kp : Value → World → Prop) (w : World) : F.pack_rights env x.1 x.2.1 (fun r1 w' => K (.bool r1) w') w =
    ev Go.Proofs.Try.prog (tabC [(44, C44)]) (ground Go.Proofs.Try.prog) ann22 body22 (finQ Go.Proofs.Try.prog Go.Proofs.Try.f22 K Kp) (initF (mkArgs [.one (.sl), .one (.int .i64)] x)) w := by kernel_rfl
theorem fits22 : FitsOne Go.Proofs.Try.prog 22 C22 :=
  fits_of_tie (T := [(44, C44)]) (A := ann22) (fn := Go.Proofs.Try.f22) (c := body22) (fits_cons fits44 fits_nil) mixed Go.Proofs.Try.func22 Go.Proofs.Try.call22 (by kernel_rfl) (by kernel_rfl) (by kernel_rfl) tie22

/- F.pack_Merge -/
noncomputable def C10 : Entry := fun args w K Kp => unArgs [.one (.sl), .one (.int .i64)] args.toList fun x => F.pack_Merge env x.1 x.2.1 (fun r1 r2 r3 r4 w' => K (.tuple ⟨[.agg ⟨[.int .i64 r1, .int .i64 r2, .int .i64 r3]⟩, .int .i64 r4]⟩) w') w
noncomputable def body10 : Code := (Go.Proofs.Try.f10.body).getD .skip
def ann10 : Ann := { loops := [(5, [(16, .one (.int .i64))])], joins := [(9, [])] }
theorem tie10 (x : ArgsV [.one (.sl), .one (.int .i64)]) (K Kp : Value → World → Prop) (w : World) : F.pack_Merge env x.1 x.2.1 (fun r1 r2 r3 r4 w' => K (.tuple ⟨[.agg ⟨[.int .i64 r1, .int .i64 r2, .int .i64 r3]⟩, .int .i64 r4]⟩) w') w =
    ev Go.Proofs.Try.prog (tabC [(22, C22)]) (ground Go.Proofs.Try.prog) ann10 body10 (finQ Go.Proofs.Try.prog Go.Proofs.Try.f10 K Kp) (initF (mkArgs [.one (.sl), .one (.int .i64)] x)) w := by kernel_rfl
theorem fits10 : FitsOne Go.Proofs.Try.prog 10 C10 :=
  fits_of_tie (T := [(22, C22)]) (A := ann10) (fn := Go.Proofs.Try.f10) (c := body10) (fits_cons fits22 fits_nil) mixed Go.Proofs.Try.func10 Go.Proofs.Try.call10 (by kernel_rfl) (by kernel_rfl) (by kernel_rfl) tie10

/- F.stretch_Set_Sum -/
noncomputable def C45 : Entry := fun args w K Kp => unArgs [.one (.ptr)] args.toList fun x => F.stretch_Set_Sum env x.1 (fun r1 w' => K (.int .u64 r1) w') w
noncomputable def body45 : Code := (Go.Proofs.Try.f45.body).getD .skip
def ann45 : Ann := { loops := [], joins := [] }
theorem tie45 (x : ArgsV [.one (.ptr)]) (K Kp : Value → World → Prop) (w : World) : F.stretch_Set_Sum env x.1 (fun r1 w' => K (.int .u64 r1) w') w =
    ev Go.Proofs.Try.prog (tabC []) (ground Go.Proofs.Try.prog) ann45 body45 (finQ Go.Proofs.Try.prog Go.Proofs.Try.f45 K Kp) (initF (mkArgs [.one (.ptr)] x)) w := by kernel_rfl
theorem fits45 : FitsOne Go.Proofs.Try.prog 45 C45 :=
  fits_of_tie (T := []) (A := ann45) (fn := Go.Proofs.Try.f45) (c := body45) fits_nil mixed Go.Proofs.Try.func45 Go.Proofs.Try.call45 (by kernel_rfl) (by kernel_rfl) (by kernel_rfl) tie45

/- F.radix_Tree_Free -/
noncomputable def C23 : Entry := fun args w K Kp => unArgs [.one (.ptr)] args.toList fun x => F.radix_Tree_Free env x.1 (fun r1 w' => K (.int .u64 r1) w') w
noncomputable def body23 : Code := (Go.Proofs.Try.f23.body).getD .skip
def ann23 : Ann := { loops := [], joins := [] }
theorem tie23 (x : ArgsV [.one (.ptr)]) (K Kp : Value → World → Prop) (w : World) : F.radix_Tree_Free env x.1 (fun r1 w' => K (.int .u64 r1) w') w =
    ev Go.Proofs.Try.prog (tabC [(45, C45)]) (ground Go.Proofs.Try.prog) ann23 body23 (finQ Go.Proofs.Try.prog Go.Proofs.Try.f23 K Kp) (initF (mkArgs [.one (.ptr)] x)) w := by kernel_rfl
theorem fits23 : FitsOne Go.Proofs.Try.prog 23 C23 :=
  fits_of_tie (T := [(45, C45)]) (A := ann23) (fn := Go.Proofs.Try.f23) (c := body23) (fits_cons fits45 fits_nil) mixed Go.Proofs.Try.func23 Go.Proofs.Try.call23 (by kernel_rfl) (by kernel_rfl) (by kernel_rfl) tie23

/- F.mallowlaw9_awake -/
noncomputable def C11 : Entry := fun args w K Kp => unArgs [] args.toList fun x => F.mallowlaw9_awake env  (fun r1 w' => K (.bool r1) w') w
noncomputable def body11 : Code := (Go.Proofs.Try.f11.body).getD .skip
def ann11 : Ann := { loops := [], joins := [] }
theorem tie11 (x : ArgsV []) (K Kp : Value → World → Prop) (w : World) : F.mallowlaw9_awake env  (fun r1 w' => K (.bool r1) w') w =
    ev Go.Proofs.Try.prog (tabC [(6, C6), (7, C7), (8, C8), (18, C18), (9, C9), (23, C23)]) (ground Go.Proofs.Try.prog) ann11 body11 (finQ Go.Proofs.Try.prog Go.Proofs.Try.f11 K Kp) (initF (mkArgs [] x)) w := by kernel_rfl
theorem fits11 : FitsOne Go.Proofs.Try.prog 11 C11 :=
  fits_of_tie (T := [(6, C6), (7, C7), (8, C8), (18, C18), (9, C9), (23, C23)]) (A := ann11) (fn := Go.Proofs.Try.f11) (c := body11) (fits_cons fits6 (fits_cons fits7 (fits_cons fits8 (fits_cons fits18 (fits_cons fits9 (fits_cons fits23 fits_nil)))))) mixed Go.Proofs.Try.func11 Go.Proofs.Try.call11 (by kernel_rfl) (by kernel_rfl) (by kernel_rfl) tie11

/- F.mallowlaw9_RadixMerges -/
noncomputable def C3 : Entry := fun args w K Kp => unArgs [.one (.sl), .one (.sl), .one (.int .i64)] args.toList fun x => F.mallowlaw9_RadixMerges env x.1 x.2.1 x.2.2.1 (fun r1 w' => K (.bool r1) w') w
noncomputable def body3 : Code := (Go.Proofs.Try.f3.body).getD .skip
def ann3 : Ann := { loops := [(7, [(8, .one (.int .i64))]), (11, [(9, .one (.int .i64))]), (18, [(10, .one (.int .i64)), (11, .one (.int .i64))]), (22, [(12, .one (.int .i64))]), (29, [(16, .one (.sl)), (17, .one (.int .u64))])], joins := [(2, [(37, .one (.bool))]), (14, [(70, .one (.bool))]), (37, [(148, .one (.bool))])] }
theorem tie3 (x : ArgsV [.one (.sl), .one (.sl), .one (.int .i64)]) (K Kp : Value → World → Prop) (w : World) : F.mallowlaw9_RadixMerges env x.1 x.2.1 x.2.2.1 (fun r1 w' => K (.bool r1) w') w =
    ev Go.Proofs.Try.prog (tabC [(6, C6), (7, C7), (8, C8), (9, C9), (10, C10), (11, C11)]) (ground Go.Proofs.Try.prog) ann3 body3 (finQ Go.Proofs.Try.prog Go.Proofs.Try.f3 K Kp) (initF (mkArgs [.one (.sl), .one (.sl), .one (.int .i64)] x)) w := by kernel_rfl
theorem fits3 : FitsOne Go.Proofs.Try.prog 3 C3 :=
  fits_of_tie (T := [(6, C6), (7, C7), (8, C8), (9, C9), (10, C10), (11, C11)]) (A := ann3) (fn := Go.Proofs.Try.f3) (c := body3) (fits_cons fits6 (fits_cons fits7 (fits_cons fits8 (fits_cons fits9 (fits_cons fits10 (fits_cons fits11 fits_nil)))))) mixed Go.Proofs.Try.func3 Go.Proofs.Try.call3 (by kernel_rfl) (by kernel_rfl) (by kernel_rfl) tie3

/- F.radix_Tree_freed -/
noncomputable def C51 : Entry := fun args w K Kp => unArgs [.one (.ptr), .one (.int .u64), .one (.int .u64), .one (.ptr)] args.toList fun x => F.radix_Tree_freed env x.1 x.2.1 x.2.2.1 x.2.2.2.1 (fun r1 w' => K (.int .i64 r1) w') w
noncomputable def body51 : Code := (Go.Proofs.Try.f51.body).getD .skip
def ann51 : Ann := { loops := [], joins := [] }
theorem tie51 (x : ArgsV [.one (.ptr), .one (.int .u64), .one (.int .u64), .one (.ptr)]) (K Kp : Value → World → Prop) (w : World) : F.radix_Tree_freed env x.1 x.2.1 x.2.2.1 x.2.2.2.1 (fun r1 w' => K (.int .i64 r1) w') w =
    ev Go.Proofs.Try.prog (tabC [(43, C43), (17, C17), (15, C15)]) (ground Go.Proofs.Try.prog) ann51 body51 (finQ Go.Proofs.Try.prog Go.Proofs.Try.f51 K Kp) (initF (mkArgs [.one (.ptr), .one (.int .u64), .one (.int .u64), .one (.ptr)] x)) w := by kernel_rfl
theorem fits51 : FitsOne Go.Proofs.Try.prog 51 C51 :=
  fits_of_tie (T := [(43, C43), (17, C17), (15, C15)]) (A := ann51) (fn := Go.Proofs.Try.f51) (c := body51) (fits_cons fits43 (fits_cons fits17 (fits_cons fits15 fits_nil))) mixed Go.Proofs.Try.func51 Go.Proofs.Try.call51 (by kernel_rfl) (by kernel_rfl) (by kernel_rfl) tie51

/- F.radix_Tree_Give -/
noncomputable def C27 : Entry := fun args w K Kp => unArgs [.one (.ptr), .one (.int .u64), .one (.int .u64)] args.toList fun x => F.radix_Tree_Give env x.1 x.2.1 x.2.2.1 (fun r1 w' => K (.int .i64 r1) w') w
noncomputable def body27 : Code := (Go.Proofs.Try.f27.body).getD .skip
def ann27 : Ann := { loops := [], joins := [] }
theorem tie27 (x : ArgsV [.one (.ptr), .one (.int .u64), .one (.int .u64)]) (K Kp : Value → World → Prop) (w : World) : F.radix_Tree_Give env x.1 x.2.1 x.2.2.1 (fun r1 w' => K (.int .i64 r1) w') w =
    ev Go.Proofs.Try.prog (tabC [(51, C51)]) (ground Go.Proofs.Try.prog) ann27 body27 (finQ Go.Proofs.Try.prog Go.Proofs.Try.f27 K Kp) (initF (mkArgs [.one (.ptr), .one (.int .u64), .one (.int .u64)] x)) w := by kernel_rfl
theorem fits27 : FitsOne Go.Proofs.Try.prog 27 C27 :=
  fits_of_tie (T := [(51, C51)]) (A := ann27) (fn := Go.Proofs.Try.f27) (c := body27) (fits_cons fits51 fits_nil) mixed Go.Proofs.Try.func27 Go.Proofs.Try.call27 (by kernel_rfl) (by kernel_rfl) (by kernel_rfl) tie27

/- F.radix_Tree_Back -/
noncomputable def C29 : Entry := fun args w K Kp => unArgs [.one (.ptr), .one (.int .u64), .one (.int .u64)] args.toList fun x => F.radix_Tree_Back env x.1 x.2.1 x.2.2.1 (fun r1 w' => K (.int .i64 r1) w') w
noncomputable def body29 : Code := (Go.Proofs.Try.f29.body).getD .skip
def ann29 : Ann := { loops := [], joins := [] }
theorem tie29 (x : ArgsV [.one (.ptr), .one (.int .u64), .one (.int .u64)]) (K Kp : Value → World → Prop) (w : World) : F.radix_Tree_Back env x.1 x.2.1 x.2.2.1 (fun r1 w' => K (.int .i64 r1) w') w =
    ev Go.Proofs.Try.prog (tabC [(51, C51)]) (ground Go.Proofs.Try.prog) ann29 body29 (finQ Go.Proofs.Try.prog Go.Proofs.Try.f29 K Kp) (initF (mkArgs [.one (.ptr), .one (.int .u64), .one (.int .u64)] x)) w := by kernel_rfl
theorem fits29 : FitsOne Go.Proofs.Try.prog 29 C29 :=
  fits_of_tie (T := [(51, C51)]) (A := ann29) (fn := Go.Proofs.Try.f29) (c := body29) (fits_cons fits51 fits_nil) mixed Go.Proofs.Try.func29 Go.Proofs.Try.call29 (by kernel_rfl) (by kernel_rfl) (by kernel_rfl) tie29

/- F.radix_Tree_Scavenge -/
noncomputable def C31 : Entry := fun args w K Kp => unArgs [.one (.ptr), .one (.int .u64)] args.toList fun x => F.radix_Tree_Scavenge env x.1 x.2.1 (fun r1 r2 w' => K (.tuple ⟨[.int .u64 r1, .int .u64 r2]⟩) w') w
noncomputable def body31 : Code := (Go.Proofs.Try.f31.body).getD .skip
def ann31 : Ann := { loops := [], joins := [(3, [(20, .one (.bool))])] }
theorem tie31 (x : ArgsV [.one (.ptr), .one (.int .u64)]) (K Kp : Value → World → Prop) (w : World) : F.radix_Tree_Scavenge env x.1 x.2.1 (fun r1 r2 w' => K (.tuple ⟨[.int .u64 r1, .int .u64 r2]⟩) w') w =
    ev Go.Proofs.Try.prog (tabC [(42, C42), (41, C41), (17, C17)]) (ground Go.Proofs.Try.prog) ann31 body31 (finQ Go.Proofs.Try.prog Go.Proofs.Try.f31 K Kp) (initF (mkArgs [.one (.ptr), .one (.int .u64)] x)) w := by kernel_rfl
theorem fits31 : FitsOne Go.Proofs.Try.prog 31 C31 :=
  fits_of_tie (T := [(42, C42), (41, C41), (17, C17)]) (A := ann31) (fn := Go.Proofs.Try.f31) (c := body31) (fits_cons fits42 (fits_cons fits41 (fits_cons fits17 fits_nil))) mixed Go.Proofs.Try.func31 Go.Proofs.Try.call31 (by kernel_rfl) (by kernel_rfl) (by kernel_rfl) tie31

/- F.stretch_Set_Has -/
noncomputable def C64 : Entry := fun args w K Kp => unArgs [.one (.ptr), .one (.int .u64)] args.toList fun x => F.stretch_Set_Has env x.1 x.2.1 (fun r1 w' => K (.bool r1) w') w
noncomputable def body64 : Code := (Go.Proofs.Try.f64.body).getD .skip
def ann64 : Ann := { loops := [], joins := [] }
theorem tie64 (x : ArgsV [.one (.ptr), .one (.int .u64)]) (K Kp : Value → World → Prop) (w : World) : F.stretch_Set_Has env x.1 x.2.1 (fun r1 w' => K (.bool r1) w') w =
    ev Go.Proofs.Try.prog (tabC [(40, C40)]) (ground Go.Proofs.Try.prog) ann64 body64 (finQ Go.Proofs.Try.prog Go.Proofs.Try.f64 K Kp) (initF (mkArgs [.one (.ptr), .one (.int .u64)] x)) w := by kernel_rfl
theorem fits64 : FitsOne Go.Proofs.Try.prog 64 C64 :=
  fits_of_tie (T := [(40, C40)]) (A := ann64) (fn := Go.Proofs.Try.f64) (c := body64) (fits_cons fits40 fits_nil) mixed Go.Proofs.Try.func64 Go.Proofs.Try.call64 (by kernel_rfl) (by kernel_rfl) (by kernel_rfl) tie64

/- F.radix_Tree_State -/
noncomputable def C55 : Entry := fun args w K Kp => unArgs [.one (.ptr), .one (.int .u64)] args.toList fun x => F.radix_Tree_State env x.1 x.2.1 (fun r1 r2 r3 w' => K (.tuple ⟨[.bool r1, .bool r2, .bool r3]⟩) w') w
noncomputable def body55 : Code := (Go.Proofs.Try.f55.body).getD .skip
def ann55 : Ann := { loops := [], joins := [] }
theorem tie55 (x : ArgsV [.one (.ptr), .one (.int .u64)]) (K Kp : Value → World → Prop) (w : World) : F.radix_Tree_State env x.1 x.2.1 (fun r1 r2 r3 w' => K (.tuple ⟨[.bool r1, .bool r2, .bool r3]⟩) w') w =
    ev Go.Proofs.Try.prog (tabC [(64, C64)]) (ground Go.Proofs.Try.prog) ann55 body55 (finQ Go.Proofs.Try.prog Go.Proofs.Try.f55 K Kp) (initF (mkArgs [.one (.ptr), .one (.int .u64)] x)) w := by kernel_rfl
theorem fits55 : FitsOne Go.Proofs.Try.prog 55 C55 :=
  fits_of_tie (T := [(64, C64)]) (A := ann55) (fn := Go.Proofs.Try.f55) (c := body55) (fits_cons fits64 fits_nil) mixed Go.Proofs.Try.func55 Go.Proofs.Try.call55 (by kernel_rfl) (by kernel_rfl) (by kernel_rfl) tie55

/- F.radix_Tree_Released -/
noncomputable def C36 : Entry := fun args w K Kp => unArgs [.one (.ptr)] args.toList fun x => F.radix_Tree_Released env x.1 (fun r1 w' => K (.int .u64 r1) w') w
noncomputable def body36 : Code := (Go.Proofs.Try.f36.body).getD .skip
def ann36 : Ann := { loops := [], joins := [] }
theorem tie36 (x : ArgsV [.one (.ptr)]) (K Kp : Value → World → Prop) (w : World) : F.radix_Tree_Released env x.1 (fun r1 w' => K (.int .u64 r1) w') w =
    ev Go.Proofs.Try.prog (tabC [(45, C45)]) (ground Go.Proofs.Try.prog) ann36 body36 (finQ Go.Proofs.Try.prog Go.Proofs.Try.f36 K Kp) (initF (mkArgs [.one (.ptr)] x)) w := by kernel_rfl
theorem fits36 : FitsOne Go.Proofs.Try.prog 36 C36 :=
  fits_of_tie (T := [(45, C45)]) (A := ann36) (fn := Go.Proofs.Try.f36) (c := body36) (fits_cons fits45 fits_nil) mixed Go.Proofs.Try.func36 Go.Proofs.Try.call36 (by kernel_rfl) (by kernel_rfl) (by kernel_rfl) tie36

/- F.radix_Tree_Hint -/
noncomputable def C38 : Entry := fun args w K Kp => unArgs [.one (.ptr)] args.toList fun x => F.radix_Tree_Hint env x.1 (fun r1 w' => K (.int .u64 r1) w') w
noncomputable def body38 : Code := (Go.Proofs.Try.f38.body).getD .skip
def ann38 : Ann := { loops := [], joins := [] }
theorem tie38 (x : ArgsV [.one (.ptr)]) (K Kp : Value → World → Prop) (w : World) : F.radix_Tree_Hint env x.1 (fun r1 w' => K (.int .u64 r1) w') w =
    ev Go.Proofs.Try.prog (tabC [(42, C42)]) (ground Go.Proofs.Try.prog) ann38 body38 (finQ Go.Proofs.Try.prog Go.Proofs.Try.f38 K Kp) (initF (mkArgs [.one (.ptr)] x)) w := by kernel_rfl
theorem fits38 : FitsOne Go.Proofs.Try.prog 38 C38 :=
  fits_of_tie (T := [(42, C42)]) (A := ann38) (fn := Go.Proofs.Try.f38) (c := body38) (fits_cons fits42 fits_nil) mixed Go.Proofs.Try.func38 Go.Proofs.Try.call38 (by kernel_rfl) (by kernel_rfl) (by kernel_rfl) tie38

/- F.stretch_Set_at_1 -/
noncomputable def C60 : Entry := fun args w K Kp => unArgs [.one (.int .i64), .one (.ptr), .one (.ptr)] args.toList fun x => F.stretch_Set_at_1 env x.1 x.2.1 x.2.2.1 (fun r1 w' => K (.bool r1) w') w
noncomputable def body60 : Code := (Go.Proofs.Try.f60.body).getD .skip
def ann60 : Ann := { loops := [], joins := [] }
theorem tie60 (x : ArgsV [.one (.int .i64), .one (.ptr), .one (.ptr)]) (K Kp : Value → World → Prop) (w : World) : F.stretch_Set_at_1 env x.1 x.2.1 x.2.2.1 (fun r1 w' => K (.bool r1) w') w =
    ev Go.Proofs.Try.prog (tabC []) (ground Go.Proofs.Try.prog) ann60 body60 (finQ Go.Proofs.Try.prog Go.Proofs.Try.f60 K Kp) (initF (mkArgs [.one (.int .i64), .one (.ptr), .one (.ptr)] x)) w := by kernel_rfl
theorem fits60 : FitsOne Go.Proofs.Try.prog 60 C60 :=
  fits_of_tie (T := []) (A := ann60) (fn := Go.Proofs.Try.f60) (c := body60) fits_nil mixed Go.Proofs.Try.func60 Go.Proofs.Try.call60 (by kernel_rfl) (by kernel_rfl) (by kernel_rfl) tie60

end Go.Sh

set_option linter.all false
namespace Go.Sh

theorem at1_mono {E : Env} {i : Int} {p1 p2 : Option Addr} {w : World} {K K' : Bool → World → Prop} (hk : ∀ b w', K b w' → K' b w') (h : F.stretch_Set_at_1 E i p1 p2 K w) : F.stretch_Set_at_1 E i p1 p2 K' w := by
  unfold F.stretch_Set_at_1 at h ⊢
  obtain ⟨q1, rfl, x2, h2, h⟩ := NC_elim h
  obtain ⟨q3, rfl, x4, h4, h⟩ := NC_elim h
  obtain ⟨q5, h5, hi, x6, h6, h⟩ := NC_elim h
  obtain ⟨q7, rfl, x8, h8, h⟩ := NC_elim h
  refine ⟨some q3, h2, x4, h4, ?_⟩
  rw [h5]
  exact ⟨hi, x6, h6, x8, h8, hk _ _ h⟩

theorem ground_mono {P : Program} (g : FuncId) (args : Array Value) (w : World) (K K' : Value → World → Prop) (hk : ∀ v w', K v w' → K' v w') (h : ground P g args w K noP) : ground P g args w K' noP :=
  ⟨h.1, h.2.mono fun e w' hE => let ⟨v, hv, h⟩ := hE.val; .inl ⟨v, hv, hk v w' h⟩⟩

end Go.Sh

set_option linter.all false
namespace Go.Sh
open Go.Proofs

theorem envS : EnvS env where
  at1 := by
    intro i p1 p2 K w h
    refine ⟨(fits60 #[.int .i64 i, .pointer p1, .pointer p2] w (fun v w' => ∃ b, v = .bool b ∧ K b w') noP ?_).1, (fits60 #[.int .i64 i, .pointer p1, .pointer p2] w (fun v w' => ∃ b, v = .bool b ∧ K b w') noP ?_).2⟩ <;>
    exact (show F.stretch_Set_at_1 env i p1 p2 (fun b w' => ∃ b', Value.bool b = .bool b' ∧ K b' w') w from at1_mono (fun b w' h => ⟨b, rfl, h⟩) h)
  mono := ground_mono

end Go.Sh
