/- Each shallow form is what the code of its function comes to. No further condition. -/
import Derived.Test.YtgpepagjkejimaaPlF
import Derived.Test.YtgpepagjkejimaaProg
import Derived.KernelRfl
import Derived.Test.YtgpepagjkejimaaPlS
import Derived.Test.YtgpepagjkejimaaPlA
import Derived.Calls
set_option linter.all false
set_option maxRecDepth 100000
set_option maxHeartbeats 4000000
namespace Go.Sh
open Go.Proofs

theorem mixed : Go.Proofs.Try.prog.follows .mixedOrders = true := by kernel_rfl
noncomputable def env : Env := { call := ground Go.Proofs.Try.prog, t_map_uint64_api_Sum := 64, t_radix_Tree := 55, t__stretch_Set := 78, t_uint64 := 27, t_stretch_One := 67, t_api_Sum := 31, t_mallowref8_Chunk := 93, t_mallowref9_Part := 77, t_mallowref6_Row := 91, t_mallowlaw9_Act := 46, t_mallowref9_Tree := 43, f_stretch_Set_at_1 := 60 }

/- F.radix_Tree_changed -/
noncomputable def C15 : Entry := fun args w K Kp => unArgs [.one (.ptr)] args.toList fun x => F.radix_Tree_changed env x.1 (fun  w' => K (.tuple ⟨[]⟩) w') w
noncomputable def body15 : Code := (Go.Proofs.Try.f15.body).getD .skip
def ann15 : Ann := { loops := [(2, [(5, .one (.int .i64))])], joins := [] }
theorem tie15 (x : ArgsV [.one (.ptr)]) (K Kp : Value → World → Prop) (w : World) : F.radix_Tree_changed env x.1 (fun  w' => K (.tuple ⟨[]⟩) w') w =
    ev Go.Proofs.Try.prog (tabC []) (ground Go.Proofs.Try.prog) ann15 body15 (finQ Go.Proofs.Try.prog Go.Proofs.Try.f15 K Kp) (initF (mkArgs [.one (.ptr)] x)) w := by kernel_rfl
theorem fits15 : FitsOne Go.Proofs.Try.prog 15 C15 :=
  fits_of_tie (T := []) (A := ann15) (fn := Go.Proofs.Try.f15) (c := body15) fits_nil mixed Go.Proofs.Try.func15 Go.Proofs.Try.call15 (by kernel_rfl) (by kernel_rfl) (by kernel_rfl) tie15

/- F.radix_New -/
noncomputable def C6 : Entry := fun args w K Kp => unArgs [] args.toList fun x => F.radix_New env  (fun r1 w' => K (.pointer r1) w') w
noncomputable def body6 : Code := (Go.Proofs.Try.f6.body).getD .skip
def ann6 : Ann := { loops := [], joins := [] }
theorem tie6 (x : ArgsV []) (K Kp : Value → World → Prop) (w : World) : F.radix_New env  (fun r1 w' => K (.pointer r1) w') w =
    ev Go.Proofs.Try.prog (tabC [(15, C15)]) (ground Go.Proofs.Try.prog) ann6 body6 (finQ Go.Proofs.Try.prog Go.Proofs.Try.f6 K Kp) (initF (mkArgs [] x)) w := by kernel_rfl
theorem fits6 : FitsOne Go.Proofs.Try.prog 6 C6 :=
  fits_of_tie (T := [(15, C15)]) (A := ann6) (fn := Go.Proofs.Try.f6) (c := body6) (fits_cons fits15 fits_nil) mixed Go.Proofs.Try.func6 Go.Proofs.Try.call6 (by kernel_rfl) (by kernel_rfl) (by kernel_rfl) tie6

/- F.sort_Search -/
noncomputable def C59 : Entry := fun args w K Kp => unArgs [.one (.int .i64), .one (.any)] args.toList fun x => F.sort_Search env x.1 x.2.1 (fun r1 w' => K (.int .i64 r1) w') w
noncomputable def body59 : Code := (Go.Proofs.Try.f59.body).getD .skip
def ann59 : Ann := { loops := [(2, [(5, .one (.int .i64)), (6, .one (.int .i64))])], joins := [] }
theorem tie59 (x : ArgsV [.one (.int .i64), .one (.any)]) (K Kp : Value → World → Prop) (w : World) : F.sort_Search env x.1 x.2.1 (fun r1 w' => K (.int .i64 r1) w') w =
    ev Go.Proofs.Try.prog (tabC []) (ground Go.Proofs.Try.prog) ann59 body59 (finQ Go.Proofs.Try.prog Go.Proofs.Try.f59 K Kp) (initF (mkArgs [.one (.int .i64), .one (.any)] x)) w := by kernel_rfl
theorem fits59 : FitsOne Go.Proofs.Try.prog 59 C59 :=
  fits_of_tie (T := []) (A := ann59) (fn := Go.Proofs.Try.f59) (c := body59) fits_nil mixed Go.Proofs.Try.func59 Go.Proofs.Try.call59 (by kernel_rfl) (by kernel_rfl) (by kernel_rfl) tie59

/- F.stretch_Set_at -/
noncomputable def C40 : Entry := fun args w K Kp => unArgs [.one (.ptr), .one (.int .u64)] args.toList fun x => F.stretch_Set_at env x.1 x.2.1 (fun r1 w' => K (.int .i64 r1) w') w
noncomputable def body40 : Code := (Go.Proofs.Try.f40.body).getD .skip
def ann40 : Ann := { loops := [], joins := [] }
theorem tie40 (x : ArgsV [.one (.ptr), .one (.int .u64)]) (K Kp : Value → World → Prop) (w : World) : F.stretch_Set_at env x.1 x.2.1 (fun r1 w' => K (.int .i64 r1) w') w =
    ev Go.Proofs.Try.prog (tabC [(59, C59)]) (ground Go.Proofs.Try.prog) ann40 body40 (finQ Go.Proofs.Try.prog Go.Proofs.Try.f40 K Kp) (initF (mkArgs [.one (.ptr), .one (.int .u64)] x)) w := by kernel_rfl
theorem fits40 : FitsOne Go.Proofs.Try.prog 40 C40 :=
  fits_of_tie (T := [(59, C59)]) (A := ann40) (fn := Go.Proofs.Try.f40) (c := body40) (fits_cons fits59 fits_nil) mixed Go.Proofs.Try.func40 Go.Proofs.Try.call40 (by kernel_rfl) (by kernel_rfl) (by kernel_rfl) tie40

/- F.stretch_Set_Count -/
noncomputable def C16 : Entry := fun args w K Kp => unArgs [.one (.ptr), .one (.int .u64), .one (.int .u64)] args.toList fun x => F.stretch_Set_Count env x.1 x.2.1 x.2.2.1 (fun r1 w' => K (.int .u64 r1) w') w
noncomputable def body16 : Code := (Go.Proofs.Try.f16.body).getD .skip
def ann16 : Ann := { loops := [(3, [(7, .one (.int .u64)), (8, .one (.int .i64))])], joins := [] }
theorem tie16 (x : ArgsV [.one (.ptr), .one (.int .u64), .one (.int .u64)]) (K Kp : Value → World → Prop) (w : World) : F.stretch_Set_Count env x.1 x.2.1 x.2.2.1 (fun r1 w' => K (.int .u64 r1) w') w =
    ev Go.Proofs.Try.prog (tabC [(40, C40)]) (ground Go.Proofs.Try.prog) ann16 body16 (finQ Go.Proofs.Try.prog Go.Proofs.Try.f16 K Kp) (initF (mkArgs [.one (.ptr), .one (.int .u64), .one (.int .u64)] x)) w := by kernel_rfl
theorem fits16 : FitsOne Go.Proofs.Try.prog 16 C16 :=
  fits_of_tie (T := [(40, C40)]) (A := ann16) (fn := Go.Proofs.Try.f16) (c := body16) (fits_cons fits40 fits_nil) mixed Go.Proofs.Try.func16 Go.Proofs.Try.call16 (by kernel_rfl) (by kernel_rfl) (by kernel_rfl) tie16

/- F.stretch_Set_Cut -/
noncomputable def C41 : Entry := fun args w K Kp => unArgs [.one (.ptr), .one (.int .u64), .one (.int .u64)] args.toList fun x => F.stretch_Set_Cut env x.1 x.2.1 x.2.2.1 (fun  w' => K (.tuple ⟨[]⟩) w') w
noncomputable def body41 : Code := (Go.Proofs.Try.f41.body).getD .skip
def ann41 : Ann := { loops := [(5, [(7, .one (.int .i64)), (8, .one (.sl))])], joins := [(10, [(8, .one (.sl))]), (12, [(7, .one (.int .i64)), (8, .one (.sl))])] }
theorem tie41 (x : ArgsV [.one (.ptr), .one (.int .u64), .one (.int .u64)]) (K Kp : Value → World → Prop) (w : World) : F.stretch_Set_Cut env x.1 x.2.1 x.2.2.1 (fun  w' => K (.tuple ⟨[]⟩) w') w =
    ev Go.Proofs.Try.prog (tabC [(16, C16), (40, C40)]) (ground Go.Proofs.Try.prog) ann41 body41 (finQ Go.Proofs.Try.prog Go.Proofs.Try.f41 K Kp) (initF (mkArgs [.one (.ptr), .one (.int .u64), .one (.int .u64)] x)) w := by kernel_rfl
theorem fits41 : FitsOne Go.Proofs.Try.prog 41 C41 :=
  fits_of_tie (T := [(16, C16), (40, C40)]) (A := ann41) (fn := Go.Proofs.Try.f41) (c := body41) (fits_cons fits16 (fits_cons fits40 fits_nil)) mixed Go.Proofs.Try.func41 Go.Proofs.Try.call41 (by kernel_rfl) (by kernel_rfl) (by kernel_rfl) tie41

/- F.stretch_Set_Add -/
noncomputable def C17 : Entry := fun args w K Kp => unArgs [.one (.ptr), .one (.int .u64), .one (.int .u64)] args.toList fun x => F.stretch_Set_Add env x.1 x.2.1 x.2.2.1 (fun  w' => K (.tuple ⟨[]⟩) w') w
noncomputable def body17 : Code := (Go.Proofs.Try.f17.body).getD .skip
def ann17 : Ann := { loops := [], joins := [(7, [(51, .one (.bool))]), (9, [(8, .one (.int .i64))]), (10, [(77, .one (.bool))]), (12, [(6, .one (.int .i64))])] }
theorem tie17 (x : ArgsV [.one (.ptr), .one (.int .u64), .one (.int .u64)]) (K Kp : Value → World → Prop) (w : World) : F.stretch_Set_Add env x.1 x.2.1 x.2.2.1 (fun  w' => K (.tuple ⟨[]⟩) w') w =
    ev Go.Proofs.Try.prog (tabC [(41, C41), (40, C40)]) (ground Go.Proofs.Try.prog) ann17 body17 (finQ Go.Proofs.Try.prog Go.Proofs.Try.f17 K Kp) (initF (mkArgs [.one (.ptr), .one (.int .u64), .one (.int .u64)] x)) w := by kernel_rfl
theorem fits17 : FitsOne Go.Proofs.Try.prog 17 C17 :=
  fits_of_tie (T := [(41, C41), (40, C40)]) (A := ann17) (fn := Go.Proofs.Try.f17) (c := body17) (fits_cons fits41 (fits_cons fits40 fits_nil)) mixed Go.Proofs.Try.func17 Go.Proofs.Try.call17 (by kernel_rfl) (by kernel_rfl) (by kernel_rfl) tie17

/- F.radix_Tree_Grow -/
noncomputable def C7 : Entry := fun args w K Kp => unArgs [.one (.ptr), .one (.int .u64), .one (.int .u64)] args.toList fun x => F.radix_Tree_Grow env x.1 x.2.1 x.2.2.1 (fun r1 w' => K (.int .i64 r1) w') w
noncomputable def body7 : Code := (Go.Proofs.Try.f7.body).getD .skip
def ann7 : Ann := { loops := [], joins := [(2, [(24, .one (.bool))])] }
theorem tie7 (x : ArgsV [.one (.ptr), .one (.int .u64), .one (.int .u64)]) (K Kp : Value → World → Prop) (w : World) : F.radix_Tree_Grow env x.1 x.2.1 x.2.2.1 (fun r1 w' => K (.int .i64 r1) w') w =
    ev Go.Proofs.Try.prog (tabC [(16, C16), (17, C17), (15, C15)]) (ground Go.Proofs.Try.prog) ann7 body7 (finQ Go.Proofs.Try.prog Go.Proofs.Try.f7 K Kp) (initF (mkArgs [.one (.ptr), .one (.int .u64), .one (.int .u64)] x)) w := by kernel_rfl
theorem fits7 : FitsOne Go.Proofs.Try.prog 7 C7 :=
  fits_of_tie (T := [(16, C16), (17, C17), (15, C15)]) (A := ann7) (fn := Go.Proofs.Try.f7) (c := body7) (fits_cons fits16 (fits_cons fits17 (fits_cons fits15 fits_nil))) mixed Go.Proofs.Try.func7 Go.Proofs.Try.call7 (by kernel_rfl) (by kernel_rfl) (by kernel_rfl) tie7

/- F.stretch_Set_All -/
noncomputable def C42 : Entry := fun args w K Kp => unArgs [.one (.ptr)] args.toList fun x => F.stretch_Set_All env x.1 (fun r1 w' => K (.slice r1.base r1.len r1.cap) w') w
noncomputable def body42 : Code := (Go.Proofs.Try.f42.body).getD .skip
def ann42 : Ann := { loops := [], joins := [] }
theorem tie42 (x : ArgsV [.one (.ptr)]) (K Kp : Value → World → Prop) (w : World) : F.stretch_Set_All env x.1 (fun r1 w' => K (.slice r1.base r1.len r1.cap) w') w =
    ev Go.Proofs.Try.prog (tabC []) (ground Go.Proofs.Try.prog) ann42 body42 (finQ Go.Proofs.Try.prog Go.Proofs.Try.f42 K Kp) (initF (mkArgs [.one (.ptr)] x)) w := by kernel_rfl
theorem fits42 : FitsOne Go.Proofs.Try.prog 42 C42 :=
  fits_of_tie (T := []) (A := ann42) (fn := Go.Proofs.Try.f42) (c := body42) fits_nil mixed Go.Proofs.Try.func42 Go.Proofs.Try.call42 (by kernel_rfl) (by kernel_rfl) (by kernel_rfl) tie42

/- F.radix_Tree_Find -/
noncomputable def C18 : Entry := fun args w K Kp => unArgs [.one (.ptr), .one (.int .u64)] args.toList fun x => F.radix_Tree_Find env x.1 x.2.1 (fun r1 r2 w' => K (.tuple ⟨[.int .u64 r1, .bool r2]⟩) w') w
noncomputable def body18 : Code := (Go.Proofs.Try.f18.body).getD .skip
def ann18 : Ann := { loops := [(4, [(15, .one (.int .i64))])], joins := [] }
theorem tie18 (x : ArgsV [.one (.ptr), .one (.int .u64)]) (K Kp : Value → World → Prop) (w : World) : F.radix_Tree_Find env x.1 x.2.1 (fun r1 r2 w' => K (.tuple ⟨[.int .u64 r1, .bool r2]⟩) w') w =
    ev Go.Proofs.Try.prog (tabC [(42, C42)]) (ground Go.Proofs.Try.prog) ann18 body18 (finQ Go.Proofs.Try.prog Go.Proofs.Try.f18 K Kp) (initF (mkArgs [.one (.ptr), .one (.int .u64)] x)) w := by kernel_rfl
theorem fits18 : FitsOne Go.Proofs.Try.prog 18 C18 :=
  fits_of_tie (T := [(42, C42)]) (A := ann18) (fn := Go.Proofs.Try.f18) (c := body18) (fits_cons fits42 fits_nil) mixed Go.Proofs.Try.func18 Go.Proofs.Try.call18 (by kernel_rfl) (by kernel_rfl) (by kernel_rfl) tie18

/- F.radix_Tree_looked -/
noncomputable def C43 : Entry := fun args w K Kp => unArgs [.one (.ptr), .one (.int .u64), .one (.int .u64), .one (.bool), .one (.int .i64)] args.toList fun x => F.radix_Tree_looked env x.1 x.2.1 x.2.2.1 x.2.2.2.1 x.2.2.2.2.1 (fun r1 w' => K (.int .i64 r1) w') w
noncomputable def body43 : Code := (Go.Proofs.Try.f43.body).getD .skip
def ann43 : Ann := { loops := [], joins := [(4, [(11, .one (.int .u64))]), (5, [(14, .one (.bool))])] }
theorem tie43 (x : ArgsV [.one (.ptr), .one (.int .u64), .one (.int .u64), .one (.bool), .one (.int .i64)]) (K Kp : Value → World → Prop) (w : World) : F.radix_Tree_looked env x.1 x.2.1 x.2.2.1 x.2.2.2.1 x.2.2.2.2.1 (fun r1 w' => K (.int .i64 r1) w') w =
    ev Go.Proofs.Try.prog (tabC [(16, C16)]) (ground Go.Proofs.Try.prog) ann43 body43 (finQ Go.Proofs.Try.prog Go.Proofs.Try.f43 K Kp) (initF (mkArgs [.one (.ptr), .one (.int .u64), .one (.int .u64), .one (.bool), .one (.int .i64)] x)) w := by kernel_rfl
theorem fits43 : FitsOne Go.Proofs.Try.prog 43 C43 :=
  fits_of_tie (T := [(16, C16)]) (A := ann43) (fn := Go.Proofs.Try.f43) (c := body43) (fits_cons fits16 fits_nil) mixed Go.Proofs.Try.func43 Go.Proofs.Try.call43 (by kernel_rfl) (by kernel_rfl) (by kernel_rfl) tie43

/- F.radix_Tree_Take -/
noncomputable def C19 : Entry := fun args w K Kp => unArgs [.one (.ptr), .one (.int .u64), .one (.int .u64)] args.toList fun x => F.radix_Tree_Take env x.1 x.2.1 x.2.2.1 (fun r1 r2 w' => K (.tuple ⟨[.int .u64 r1, .int .i64 r2]⟩) w') w
noncomputable def body19 : Code := (Go.Proofs.Try.f19.body).getD .skip
def ann19 : Ann := { loops := [], joins := [] }
theorem tie19 (x : ArgsV [.one (.ptr), .one (.int .u64), .one (.int .u64)]) (K Kp : Value → World → Prop) (w : World) : F.radix_Tree_Take env x.1 x.2.1 x.2.2.1 (fun r1 r2 w' => K (.tuple ⟨[.int .u64 r1, .int .i64 r2]⟩) w') w =
    ev Go.Proofs.Try.prog (tabC [(43, C43), (16, C16), (41, C41), (15, C15)]) (ground Go.Proofs.Try.prog) ann19 body19 (finQ Go.Proofs.Try.prog Go.Proofs.Try.f19 K Kp) (initF (mkArgs [.one (.ptr), .one (.int .u64), .one (.int .u64)] x)) w := by kernel_rfl
theorem fits19 : FitsOne Go.Proofs.Try.prog 19 C19 :=
  fits_of_tie (T := [(43, C43), (16, C16), (41, C41), (15, C15)]) (A := ann19) (fn := Go.Proofs.Try.f19) (c := body19) (fits_cons fits43 (fits_cons fits16 (fits_cons fits41 (fits_cons fits15 fits_nil)))) mixed Go.Proofs.Try.func19 Go.Proofs.Try.call19 (by kernel_rfl) (by kernel_rfl) (by kernel_rfl) tie19

/- F.radix_Tree_Alloc -/
noncomputable def C8 : Entry := fun args w K Kp => unArgs [.one (.ptr), .one (.int .u64)] args.toList fun x => F.radix_Tree_Alloc env x.1 x.2.1 (fun r1 r2 r3 w' => K (.tuple ⟨[.int .u64 r1, .int .u64 r2, .int .i64 r3]⟩) w') w
noncomputable def body8 : Code := (Go.Proofs.Try.f8.body).getD .skip
def ann8 : Ann := { loops := [], joins := [] }
theorem tie8 (x : ArgsV [.one (.ptr), .one (.int .u64)]) (K Kp : Value → World → Prop) (w : World) : F.radix_Tree_Alloc env x.1 x.2.1 (fun r1 r2 r3 w' => K (.tuple ⟨[.int .u64 r1, .int .u64 r2, .int .i64 r3]⟩) w') w =
    ev Go.Proofs.Try.prog (tabC [(18, C18), (19, C19)]) (ground Go.Proofs.Try.prog) ann8 body8 (finQ Go.Proofs.Try.prog Go.Proofs.Try.f8 K Kp) (initF (mkArgs [.one (.ptr), .one (.int .u64)] x)) w := by kernel_rfl
theorem fits8 : FitsOne Go.Proofs.Try.prog 8 C8 :=
  fits_of_tie (T := [(18, C18), (19, C19)]) (A := ann8) (fn := Go.Proofs.Try.f8) (c := body8) (fits_cons fits18 (fits_cons fits19 fits_nil)) mixed Go.Proofs.Try.func8 Go.Proofs.Try.call8 (by kernel_rfl) (by kernel_rfl) (by kernel_rfl) tie8

/- F.radix_pages -/
noncomputable def C20 : Entry := fun args w K Kp => unArgs [.one (.int .i64)] args.toList fun x => F.radix_pages env x.1 (fun r1 w' => K (.int .u64 r1) w') w
noncomputable def body20 : Code := (Go.Proofs.Try.f20.body).getD .skip
def ann20 : Ann := { loops := [(3, [(3, .one (.int .u64)), (6, .one (.int .i64))])], joins := [] }
theorem tie20 (x : ArgsV [.one (.int .i64)]) (K Kp : Value → World → Prop) (w : World) : F.radix_pages env x.1 (fun r1 w' => K (.int .u64 r1) w') w =
    ev Go.Proofs.Try.prog (tabC []) (ground Go.Proofs.Try.prog) ann20 body20 (finQ Go.Proofs.Try.prog Go.Proofs.Try.f20 K Kp) (initF (mkArgs [.one (.int .i64)] x)) w := by kernel_rfl
theorem fits20 : FitsOne Go.Proofs.Try.prog 20 C20 :=
  fits_of_tie (T := []) (A := ann20) (fn := Go.Proofs.Try.f20) (c := body20) fits_nil mixed Go.Proofs.Try.func20 Go.Proofs.Try.call20 (by kernel_rfl) (by kernel_rfl) (by kernel_rfl) tie20

/- F.stretch_Set_Within -/
noncomputable def C21 : Entry := fun args w K Kp => unArgs [.one (.ptr), .one (.int .u64), .one (.int .u64)] args.toList fun x => F.stretch_Set_Within env x.1 x.2.1 x.2.2.1 (fun r1 w' => K (.slice r1.base r1.len r1.cap) w') w
noncomputable def body21 : Code := (Go.Proofs.Try.f21.body).getD .skip
def ann21 : Ann := { loops := [(3, [(7, .one (.sl)), (8, .one (.int .i64))])], joins := [] }
theorem tie21 (x : ArgsV [.one (.ptr), .one (.int .u64), .one (.int .u64)]) (K Kp : Value → World → Prop) (w : World) : F.stretch_Set_Within env x.1 x.2.1 x.2.2.1 (fun r1 w' => K (.slice r1.base r1.len r1.cap) w') w =
    ev Go.Proofs.Try.prog (tabC [(40, C40)]) (ground Go.Proofs.Try.prog) ann21 body21 (finQ Go.Proofs.Try.prog Go.Proofs.Try.f21 K Kp) (initF (mkArgs [.one (.ptr), .one (.int .u64), .one (.int .u64)] x)) w := by kernel_rfl
theorem fits21 : FitsOne Go.Proofs.Try.prog 21 C21 :=
  fits_of_tie (T := [(40, C40)]) (A := ann21) (fn := Go.Proofs.Try.f21) (c := body21) (fits_cons fits40 fits_nil) mixed Go.Proofs.Try.func21 Go.Proofs.Try.call21 (by kernel_rfl) (by kernel_rfl) (by kernel_rfl) tie21

/- F.radix_Tree_Sum -/
noncomputable def C9 : Entry := fun args w K Kp => unArgs [.one (.ptr), .one (.int .i64), .one (.int .u64)] args.toList fun x => F.radix_Tree_Sum env x.1 x.2.1 x.2.2.1 (fun r1 r2 r3 r4 w' => K (.tuple ⟨[.agg ⟨[.int .i64 r1, .int .i64 r2, .int .i64 r3]⟩, .int .i64 r4]⟩) w') w
noncomputable def body9 : Code := (Go.Proofs.Try.f9.body).getD .skip
def ann9 : Ann := { loops := [(10, [(59, .one (.int .i64))])], joins := [(2, [(28, .one (.bool))]), (16, [])] }
theorem tie9 (x : ArgsV [.one (.ptr), .one (.int .i64), .one (.int .u64)]) (K Kp : Value → World → Prop) (w : World) : F.radix_Tree_Sum env x.1 x.2.1 x.2.2.1 (fun r1 r2 r3 r4 w' => K (.tuple ⟨[.agg ⟨[.int .i64 r1, .int .i64 r2, .int .i64 r3]⟩, .int .i64 r4]⟩) w') w =
    ev Go.Proofs.Try.prog (tabC [(20, C20), (21, C21)]) (ground Go.Proofs.Try.prog) ann9 body9 (finQ Go.Proofs.Try.prog Go.Proofs.Try.f9 K Kp) (initF (mkArgs [.one (.ptr), .one (.int .i64), .one (.int .u64)] x)) w := by kernel_rfl
theorem fits9 : FitsOne Go.Proofs.Try.prog 9 C9 :=
  fits_of_tie (T := [(20, C20), (21, C21)]) (A := ann9) (fn := Go.Proofs.Try.f9) (c := body9) (fits_cons fits20 (fits_cons fits21 fits_nil)) mixed Go.Proofs.Try.func9 Go.Proofs.Try.call9 (by kernel_rfl) (by kernel_rfl) (by kernel_rfl) tie9

/- F.pack_right -/
noncomputable def C44 : Entry := fun args w K Kp => unArgs [.agg [.int .i64, .int .i64, .int .i64], .one (.int .i64)] args.toList fun x => F.pack_right env x.1.1 x.1.2.1 x.1.2.2.1 x.2.1 (fun r1 w' => K (.bool r1) w') w
noncomputable def body44 : Code := (Go.Proofs.Try.f44.body).getD .skip
def ann44 : Ann := { loops := [], joins := [] }
theorem tie44 (x : ArgsV [.agg [.int .i64, .int .i64, .int .i64], .one (.int .i64)]) (K Kp : Value → World → Prop) (w : World) : F.pack_right env x.1.1 x.1.2.1 x.1.2.2.1 x.2.1 (fun r1 w' => K (.bool r1) w') w =
    ev Go.Proofs.Try.prog (tabC []) (ground Go.Proofs.Try.prog) ann44 body44 (finQ Go.Proofs.Try.prog Go.Proofs.Try.f44 K Kp) (initF (mkArgs [.agg [.int .i64, .int .i64, .int .i64], .one (.int .i64)] x)) w := by kernel_rfl
theorem fits44 : FitsOne Go.Proofs.Try.prog 44 C44 :=
  fits_of_tie (T := []) (A := ann44) (fn := Go.Proofs.Try.f44) (c := body44) fits_nil mixed Go.Proofs.Try.func44 Go.Proofs.Try.call44 (by kernel_rfl) (by kernel_rfl) (by kernel_rfl) tie44

/- F.pack_rights -/
noncomputable def C22 : Entry := fun args w K Kp => unArgs [.one (.sl), .one (.int .i64)] args.toList fun x => F.pack_rights env x.1 x.2.1 (fun r1 w' => K (.bool r1) w') w
noncomputable def body22 : Code := (Go.Proofs.Try.f22.body).getD .skip
def ann22 : Ann := { loops := [(4, [(20, .one (.int .i64))])], joins := [(2, [(17, .one (.bool))])] }
theorem tie22 (x : ArgsV [.one (.sl), .one (.int .i64)]) (K Kp : Value → World → Prop) (w : World) : F.pack_rights env x.1 x.2.1 (fun r1 w' => K (.bool r1) w') w =
    ev Go.Proofs.Try.prog (tabC [(44, C44)]) (ground Go.Proofs.Try.prog) ann22 body22 (finQ Go.Proofs.Try.prog Go.Proofs.Try.f22 K Kp) (initF (mkArgs [.one (.sl), .one (.int .i64)] x)) w := by kernel_rfl
theorem fits22 : FitsOne Go.Proofs.Try.prog 22 C22 :=
  fits_of_tie (T := [(44, C44)]) (A := ann22) (fn := Go.Proofs.Try.f22) (c := body22) (fits_cons fits44 fits_nil) mixed Go.Proofs.Try.func22 Go.Proofs.Try.call22 (by kernel_rfl) (by kernel_rfl) (by kernel_rfl) tie22

/- F.pack_Merge -/
noncomputable def C10 : Entry := fun args w K Kp => unArgs [.one (.sl), .one (.int .i64)] args.toList fun x => F.pack_Merge env x.1 x.2.1 (fun r1 r2 r3 r4 w' => K (.tuple ⟨[.agg ⟨[.int .i64 r1, .int .i64 r2, .int .i64 r3]⟩, .int .i64 r4]⟩) w') w
noncomputable def body10 : Code := (Go.Proofs.Try.f10.body).getD .skip
def ann10 : Ann := { loops := [(5, [(16, .one (.int .i64))])], joins := [(9, [])] }
theorem tie10 (x : ArgsV [.one (.sl), .one (.int .i64)]) (K Kp : Value → World → Prop) (w : World) : F.pack_Merge env x.1 x.2.1 (fun r1 r2 r3 r4 w' => K (.tuple ⟨[.agg ⟨[.int .i64 r1, .int .i64 r2, .int .i64 r3]⟩, .int .i64 r4]⟩) w') w =
    ev Go.Proofs.Try.prog (tabC [(22, C22)]) (ground Go.Proofs.Try.prog) ann10 body10 (finQ Go.Proofs.Try.prog Go.Proofs.Try.f10 K Kp) (initF (mkArgs [.one (.sl), .one (.int .i64)] x)) w := by kernel_rfl
theorem fits10 : FitsOne Go.Proofs.Try.prog 10 C10 :=
  fits_of_tie (T := [(22, C22)]) (A := ann10) (fn := Go.Proofs.Try.f10) (c := body10) (fits_cons fits22 fits_nil) mixed Go.Proofs.Try.func10 Go.Proofs.Try.call10 (by kernel_rfl) (by kernel_rfl) (by kernel_rfl) tie10

/- F.stretch_Set_Sum -/
noncomputable def C45 : Entry := fun args w K Kp => unArgs [.one (.ptr)] args.toList fun x => F.stretch_Set_Sum env x.1 (fun r1 w' => K (.int .u64 r1) w') w
noncomputable def body45 : Code := (Go.Proofs.Try.f45.body).getD .skip
def ann45 : Ann := { loops := [], joins := [] }
theorem tie45 (x : ArgsV [.one (.ptr)]) (K Kp : Value → World → Prop) (w : World) : F.stretch_Set_Sum env x.1 (fun r1 w' => K (.int .u64 r1) w') w =
    ev Go.Proofs.Try.prog (tabC []) (ground Go.Proofs.Try.prog) ann45 body45 (finQ Go.Proofs.Try.prog Go.Proofs.Try.f45 K Kp) (initF (mkArgs [.one (.ptr)] x)) w := by kernel_rfl
theorem fits45 : FitsOne Go.Proofs.Try.prog 45 C45 :=
  fits_of_tie (T := []) (A := ann45) (fn := Go.Proofs.Try.f45) (c := body45) fits_nil mixed Go.Proofs.Try.func45 Go.Proofs.Try.call45 (by kernel_rfl) (by kernel_rfl) (by kernel_rfl) tie45

/- F.radix_Tree_Free -/
noncomputable def C23 : Entry := fun args w K Kp => unArgs [.one (.ptr)] args.toList fun x => F.radix_Tree_Free env x.1 (fun r1 w' => K (.int .u64 r1) w') w
noncomputable def body23 : Code := (Go.Proofs.Try.f23.body).getD .skip
def ann23 : Ann := { loops := [], joins := [] }
theorem tie23 (x : ArgsV [.one (.ptr)]) (K Kp : Value → World → Prop) (w : World) : F.radix_Tree_Free env x.1 (fun r1 w' => K (.int .u64 r1) w') w =
    ev Go.Proofs.Try.prog (tabC [(45, C45)]) (ground Go.Proofs.Try.prog) ann23 body23 (finQ Go.Proofs.Try.prog Go.Proofs.Try.f23 K Kp) (initF (mkArgs [.one (.ptr)] x)) w := by kernel_rfl
theorem fits23 : FitsOne Go.Proofs.Try.prog 23 C23 :=
  fits_of_tie (T := [(45, C45)]) (A := ann23) (fn := Go.Proofs.Try.f23) (c := body23) (fits_cons fits45 fits_nil) mixed Go.Proofs.Try.func23 Go.Proofs.Try.call23 (by kernel_rfl) (by kernel_rfl) (by kernel_rfl) tie23

/- F.mallowlaw9_awake -/
noncomputable def C11 : Entry := fun args w K Kp => unArgs [] args.toList fun x => F.mallowlaw9_awake env  (fun r1 w' => K (.bool r1) w') w
noncomputable def body11 : Code := (Go.Proofs.Try.f11.body).getD .skip
def ann11 : Ann := { loops := [], joins := [] }
theorem tie11 (x : ArgsV []) (K Kp : Value → World → Prop) (w : World) : F.mallowlaw9_awake env  (fun r1 w' => K (.bool r1) w') w =
    ev Go.Proofs.Try.prog (tabC [(6, C6), (7, C7), (8, C8), (18, C18), (9, C9), (23, C23)]) (ground Go.Proofs.Try.prog) ann11 body11 (finQ Go.Proofs.Try.prog Go.Proofs.Try.f11 K Kp) (initF (mkArgs [] x)) w := by kernel_rfl
theorem fits11 : FitsOne Go.Proofs.Try.prog 11 C11 :=
  fits_of_tie (T := [(6, C6), (7, C7), (8, C8), (18, C18), (9, C9), (23, C23)]) (A := ann11) (fn := Go.Proofs.Try.f11) (c := body11) (fits_cons fits6 (fits_cons fits7 (fits_cons fits8 (fits_cons fits18 (fits_cons fits9 (fits_cons fits23 fits_nil)))))) mixed Go.Proofs.Try.func11 Go.Proofs.Try.call11 (by kernel_rfl) (by kernel_rfl) (by kernel_rfl) tie11

/- F.mallowlaw9_RadixMerges -/
noncomputable def C3 : Entry := fun args w K Kp => unArgs [.one (.sl), .one (.sl), .one (.int .i64)] args.toList fun x => F.mallowlaw9_RadixMerges env x.1 x.2.1 x.2.2.1 (fun r1 w' => K (.bool r1) w') w
noncomputable def body3 : Code := (Go.Proofs.Try.f3.body).getD .skip
def ann3 : Ann := { loops := [(7, [(8, .one (.int .i64))]), (11, [(9, .one (.int .i64))]), (18, [(10, .one (.int .i64)), (11, .one (.int .i64))]), (22, [(12, .one (.int .i64))]), (29, [(16, .one (.sl)), (17, .one (.int .u64))])], joins := [(2, [(37, .one (.bool))]), (14, [(70, .one (.bool))]), (37, [(148, .one (.bool))])] }
theorem tie3 (x : ArgsV [.one (.sl), .one (.sl), .one (.int .i64)]) (K Kp : Value → World → Prop) (w : World) : F.mallowlaw9_RadixMerges env x.1 x.2.1 x.2.2.1 (fun r1 w' => K (.bool r1) w') w =
    ev Go.Proofs.Try.prog (tabC [(6, C6), (7, C7), (8, C8), (9, C9), (10, C10), (11, C11)]) (ground Go.Proofs.Try.prog) ann3 body3 (finQ Go.Proofs.Try.prog Go.Proofs.Try.f3 K Kp) (initF (mkArgs [.one (.sl), .one (.sl), .one (.int .i64)] x)) w := by kernel_rfl
theorem fits3 : FitsOne Go.Proofs.Try.prog 3 C3 :=
  fits_of_tie (T := [(6, C6), (7, C7), (8, C8), (9, C9), (10, C10), (11, C11)]) (A := ann3) (fn := Go.Proofs.Try.f3) (c := body3) (fits_cons fits6 (fits_cons fits7 (fits_cons fits8 (fits_cons fits9 (fits_cons fits10 (fits_cons fits11 fits_nil)))))) mixed Go.Proofs.Try.func3 Go.Proofs.Try.call3 (by kernel_rfl) (by kernel_rfl) (by kernel_rfl) tie3

/- F.mallowlaw9_heavy -/
noncomputable def C12 : Entry := fun args w K Kp => unArgs [.one (.sl)] args.toList fun x => F.mallowlaw9_heavy env x.1 (fun r1 w' => K (.bool r1) w') w
noncomputable def body12 : Code := (Go.Proofs.Try.f12.body).getD .skip
def ann12 : Ann := { loops := [(5, [(3, .one (.int .u64)), (4, .one (.int .i64))])], joins := [(8, [(27, .one (.bool))]), (11, [(3, .one (.int .u64))])] }
theorem tie12 (x : ArgsV [.one (.sl)]) (K Kp : Value → World → Prop) (w : World) : F.mallowlaw9_heavy env x.1 (fun r1 w' => K (.bool r1) w') w =
    ev Go.Proofs.Try.prog (tabC []) (ground Go.Proofs.Try.prog) ann12 body12 (finQ Go.Proofs.Try.prog Go.Proofs.Try.f12 K Kp) (initF (mkArgs [.one (.sl)] x)) w := by kernel_rfl
theorem fits12 : FitsOne Go.Proofs.Try.prog 12 C12 :=
  fits_of_tie (T := []) (A := ann12) (fn := Go.Proofs.Try.f12) (c := body12) fits_nil mixed Go.Proofs.Try.func12 Go.Proofs.Try.call12 (by kernel_rfl) (by kernel_rfl) (by kernel_rfl) tie12

/- F.mallowref9_Tree_find -/
noncomputable def C46 : Entry := fun args w K Kp => unArgs [.one (.ptr), .one (.int .u64)] args.toList fun x => F.mallowref9_Tree_find env x.1 x.2.1 (fun r1 r2 w' => K (.tuple ⟨[.int .i64 r1, .bool r2]⟩) w') w
noncomputable def body46 : Code := (Go.Proofs.Try.f46.body).getD .skip
def ann46 : Ann := { loops := [(2, [(6, .one (.int .i64))])], joins := [(4, [(6, .one (.int .i64))])] }
theorem tie46 (x : ArgsV [.one (.ptr), .one (.int .u64)]) (K Kp : Value → World → Prop) (w : World) : F.mallowref9_Tree_find env x.1 x.2.1 (fun r1 r2 w' => K (.tuple ⟨[.int .i64 r1, .bool r2]⟩) w') w =
    ev Go.Proofs.Try.prog (tabC []) (ground Go.Proofs.Try.prog) ann46 body46 (finQ Go.Proofs.Try.prog Go.Proofs.Try.f46 K Kp) (initF (mkArgs [.one (.ptr), .one (.int .u64)] x)) w := by kernel_rfl
theorem fits46 : FitsOne Go.Proofs.Try.prog 46 C46 :=
  fits_of_tie (T := []) (A := ann46) (fn := Go.Proofs.Try.f46) (c := body46) fits_nil mixed Go.Proofs.Try.func46 Go.Proofs.Try.call46 (by kernel_rfl) (by kernel_rfl) (by kernel_rfl) tie46

/- F.mallowref6_Right -/
noncomputable def C66 : Entry := fun args w K Kp => unArgs [.one (.int .i64), .one (.int .i64)] args.toList fun x => F.mallowref6_Right env x.1 x.2.1 (fun r1 w' => K (.bool r1) w') w
noncomputable def body66 : Code := (Go.Proofs.Try.f66.body).getD .skip
def ann66 : Ann := { loops := [], joins := [] }
theorem tie66 (x : ArgsV [.one (.int .i64), .one (.int .i64)]) (K Kp : Value → World → Prop) (w : World) : F.mallowref6_Right env x.1 x.2.1 (fun r1 w' => K (.bool r1) w') w =
    ev Go.Proofs.Try.prog (tabC []) (ground Go.Proofs.Try.prog) ann66 body66 (finQ Go.Proofs.Try.prog Go.Proofs.Try.f66 K Kp) (initF (mkArgs [.one (.int .i64), .one (.int .i64)] x)) w := by kernel_rfl
theorem fits66 : FitsOne Go.Proofs.Try.prog 66 C66 :=
  fits_of_tie (T := []) (A := ann66) (fn := Go.Proofs.Try.f66) (c := body66) fits_nil mixed Go.Proofs.Try.func66 Go.Proofs.Try.call66 (by kernel_rfl) (by kernel_rfl) (by kernel_rfl) tie66

/- F.mallowref6_Row_Put -/
noncomputable def C61 : Entry := fun args w K Kp => unArgs [.one (.ptr), .one (.int .i64), .one (.int .i64), .one (.bool)] args.toList fun x => F.mallowref6_Row_Put env x.1 x.2.1 x.2.2.1 x.2.2.2.1 (fun r1 w' => K (.int .i64 r1) w') w
noncomputable def body61 : Code := (Go.Proofs.Try.f61.body).getD .skip
def ann61 : Ann := { loops := [(4, [(9, .one (.int .i64))])], joins := [] }
theorem tie61 (x : ArgsV [.one (.ptr), .one (.int .i64), .one (.int .i64), .one (.bool)]) (K Kp : Value → World → Prop) (w : World) : F.mallowref6_Row_Put env x.1 x.2.1 x.2.2.1 x.2.2.2.1 (fun r1 w' => K (.int .i64 r1) w') w =
    ev Go.Proofs.Try.prog (tabC [(66, C66)]) (ground Go.Proofs.Try.prog) ann61 body61 (finQ Go.Proofs.Try.prog Go.Proofs.Try.f61 K Kp) (initF (mkArgs [.one (.ptr), .one (.int .i64), .one (.int .i64), .one (.bool)] x)) w := by kernel_rfl
theorem fits61 : FitsOne Go.Proofs.Try.prog 61 C61 :=
  fits_of_tie (T := [(66, C66)]) (A := ann61) (fn := Go.Proofs.Try.f61) (c := body61) (fits_cons fits66 fits_nil) mixed Go.Proofs.Try.func61 Go.Proofs.Try.call61 (by kernel_rfl) (by kernel_rfl) (by kernel_rfl) tie61

/- F.mallowref8_New -/
noncomputable def C47 : Entry := fun args w K Kp => unArgs [] args.toList fun x => F.mallowref8_New env  (fun r1 w' => K (.pointer r1) w') w
noncomputable def body47 : Code := (Go.Proofs.Try.f47.body).getD .skip
def ann47 : Ann := { loops := [], joins := [] }
theorem tie47 (x : ArgsV []) (K Kp : Value → World → Prop) (w : World) : F.mallowref8_New env  (fun r1 w' => K (.pointer r1) w') w =
    ev Go.Proofs.Try.prog (tabC [(61, C61)]) (ground Go.Proofs.Try.prog) ann47 body47 (finQ Go.Proofs.Try.prog Go.Proofs.Try.f47 K Kp) (initF (mkArgs [] x)) w := by kernel_rfl
theorem fits47 : FitsOne Go.Proofs.Try.prog 47 C47 :=
  fits_of_tie (T := [(61, C61)]) (A := ann47) (fn := Go.Proofs.Try.f47) (c := body47) (fits_cons fits61 fits_nil) mixed Go.Proofs.Try.func47 Go.Proofs.Try.call47 (by kernel_rfl) (by kernel_rfl) (by kernel_rfl) tie47

/- F.mallowref9_Tree_Grow -/
noncomputable def C24 : Entry := fun args w K Kp => unArgs [.one (.ptr), .one (.int .u64), .one (.int .u64)] args.toList fun x => F.mallowref9_Tree_Grow env x.1 x.2.1 x.2.2.1 (fun r1 w' => K (.int .i64 r1) w') w
noncomputable def body24 : Code := (Go.Proofs.Try.f24.body).getD .skip
def ann24 : Ann := { loops := [(8, [(9, .one (.sl)), (10, .one (.int .u64))])], joins := [(2, [(26, .one (.bool))]), (5, [(53, .one (.bool))])] }
theorem tie24 (x : ArgsV [.one (.ptr), .one (.int .u64), .one (.int .u64)]) (K Kp : Value → World → Prop) (w : World) : F.mallowref9_Tree_Grow env x.1 x.2.1 x.2.2.1 (fun r1 w' => K (.int .i64 r1) w') w =
    ev Go.Proofs.Try.prog (tabC [(46, C46), (47, C47)]) (ground Go.Proofs.Try.prog) ann24 body24 (finQ Go.Proofs.Try.prog Go.Proofs.Try.f24 K Kp) (initF (mkArgs [.one (.ptr), .one (.int .u64), .one (.int .u64)] x)) w := by kernel_rfl
theorem fits24 : FitsOne Go.Proofs.Try.prog 24 C24 :=
  fits_of_tie (T := [(46, C46), (47, C47)]) (A := ann24) (fn := Go.Proofs.Try.f24) (c := body24) (fits_cons fits46 (fits_cons fits47 fits_nil)) mixed Go.Proofs.Try.func24 Go.Proofs.Try.call24 (by kernel_rfl) (by kernel_rfl) (by kernel_rfl) tie24

/- F.mallowref9_Tree_Find -/
noncomputable def C30 : Entry := fun args w K Kp => unArgs [.one (.ptr), .one (.int .u64)] args.toList fun x => F.mallowref9_Tree_Find env x.1 x.2.1 (fun r1 r2 w' => K (.tuple ⟨[.int .u64 r1, .bool r2]⟩) w') w
noncomputable def body30 : Code := (Go.Proofs.Try.f30.body).getD .skip
def ann30 : Ann := { loops := [(3, [(6, .one (.int .u64)), (7, .one (.int .u64)), (8, .one (.int .i64))]), (9, [(6, .one (.int .u64)), (9, .one (.int .u64))])], joins := [(6, [(37, .one (.bool))]), (7, [(6, .one (.int .u64))]), (14, [(6, .one (.int .u64))])] }
theorem tie30 (x : ArgsV [.one (.ptr), .one (.int .u64)]) (K Kp : Value → World → Prop) (w : World) : F.mallowref9_Tree_Find env x.1 x.2.1 (fun r1 r2 w' => K (.tuple ⟨[.int .u64 r1, .bool r2]⟩) w') w =
    ev Go.Proofs.Try.prog (tabC []) (ground Go.Proofs.Try.prog) ann30 body30 (finQ Go.Proofs.Try.prog Go.Proofs.Try.f30 K Kp) (initF (mkArgs [.one (.ptr), .one (.int .u64)] x)) w := by kernel_rfl
theorem fits30 : FitsOne Go.Proofs.Try.prog 30 C30 :=
  fits_of_tie (T := []) (A := ann30) (fn := Go.Proofs.Try.f30) (c := body30) fits_nil mixed Go.Proofs.Try.func30 Go.Proofs.Try.call30 (by kernel_rfl) (by kernel_rfl) (by kernel_rfl) tie30

/- F.mallowref9_Tree_lies -/
noncomputable def C48 : Entry := fun args w K Kp => unArgs [.one (.ptr), .one (.int .u64), .one (.int .u64)] args.toList fun x => F.mallowref9_Tree_lies env x.1 x.2.1 x.2.2.1 (fun r1 w' => K (.bool r1) w') w
noncomputable def body48 : Code := (Go.Proofs.Try.f48.body).getD .skip
def ann48 : Ann := { loops := [(5, [(7, .one (.int .i64)), (9, .one (.int .u64))])], joins := [(2, [(21, .one (.bool))]), (8, [(58, .one (.bool))])] }
theorem tie48 (x : ArgsV [.one (.ptr), .one (.int .u64), .one (.int .u64)]) (K Kp : Value → World → Prop) (w : World) : F.mallowref9_Tree_lies env x.1 x.2.1 x.2.2.1 (fun r1 w' => K (.bool r1) w') w =
    ev Go.Proofs.Try.prog (tabC [(46, C46)]) (ground Go.Proofs.Try.prog) ann48 body48 (finQ Go.Proofs.Try.prog Go.Proofs.Try.f48 K Kp) (initF (mkArgs [.one (.ptr), .one (.int .u64), .one (.int .u64)] x)) w := by kernel_rfl
theorem fits48 : FitsOne Go.Proofs.Try.prog 48 C48 :=
  fits_of_tie (T := [(46, C46)]) (A := ann48) (fn := Go.Proofs.Try.f48) (c := body48) (fits_cons fits46 fits_nil) mixed Go.Proofs.Try.func48 Go.Proofs.Try.call48 (by kernel_rfl) (by kernel_rfl) (by kernel_rfl) tie48

/- F.mallowref9_Tree_State -/
noncomputable def C56 : Entry := fun args w K Kp => unArgs [.one (.ptr), .one (.int .u64)] args.toList fun x => F.mallowref9_Tree_State env x.1 x.2.1 (fun r1 r2 r3 w' => K (.tuple ⟨[.bool r1, .bool r2, .bool r3]⟩) w') w
noncomputable def body56 : Code := (Go.Proofs.Try.f56.body).getD .skip
def ann56 : Ann := { loops := [], joins := [] }
theorem tie56 (x : ArgsV [.one (.ptr), .one (.int .u64)]) (K Kp : Value → World → Prop) (w : World) : F.mallowref9_Tree_State env x.1 x.2.1 (fun r1 r2 r3 w' => K (.tuple ⟨[.bool r1, .bool r2, .bool r3]⟩) w') w =
    ev Go.Proofs.Try.prog (tabC [(46, C46)]) (ground Go.Proofs.Try.prog) ann56 body56 (finQ Go.Proofs.Try.prog Go.Proofs.Try.f56 K Kp) (initF (mkArgs [.one (.ptr), .one (.int .u64)] x)) w := by kernel_rfl
theorem fits56 : FitsOne Go.Proofs.Try.prog 56 C56 :=
  fits_of_tie (T := [(46, C46)]) (A := ann56) (fn := Go.Proofs.Try.f56) (c := body56) (fits_cons fits46 fits_nil) mixed Go.Proofs.Try.func56 Go.Proofs.Try.call56 (by kernel_rfl) (by kernel_rfl) (by kernel_rfl) tie56

/- F.mallowref9_Tree_count -/
noncomputable def C49 : Entry := fun args w K Kp => unArgs [.one (.ptr), .one (.int .u64), .one (.int .u64)] args.toList fun x => F.mallowref9_Tree_count env x.1 x.2.1 x.2.2.1 (fun r1 r2 w' => K (.tuple ⟨[.int .u64 r1, .int .u64 r2]⟩) w') w
noncomputable def body49 : Code := (Go.Proofs.Try.f49.body).getD .skip
def ann49 : Ann := { loops := [(3, [(8, .one (.int .u64)), (9, .one (.int .u64)), (10, .one (.int .u64))])], joins := [(8, [(8, .one (.int .u64))])] }
theorem tie49 (x : ArgsV [.one (.ptr), .one (.int .u64), .one (.int .u64)]) (K Kp : Value → World → Prop) (w : World) : F.mallowref9_Tree_count env x.1 x.2.1 x.2.2.1 (fun r1 r2 w' => K (.tuple ⟨[.int .u64 r1, .int .u64 r2]⟩) w') w =
    ev Go.Proofs.Try.prog (tabC [(56, C56)]) (ground Go.Proofs.Try.prog) ann49 body49 (finQ Go.Proofs.Try.prog Go.Proofs.Try.f49 K Kp) (initF (mkArgs [.one (.ptr), .one (.int .u64), .one (.int .u64)] x)) w := by kernel_rfl
theorem fits49 : FitsOne Go.Proofs.Try.prog 49 C49 :=
  fits_of_tie (T := [(56, C56)]) (A := ann49) (fn := Go.Proofs.Try.f49) (c := body49) (fits_cons fits56 fits_nil) mixed Go.Proofs.Try.func49 Go.Proofs.Try.call49 (by kernel_rfl) (by kernel_rfl) (by kernel_rfl) tie49

/- F.mallowref9_Tree_put -/
noncomputable def C50 : Entry := fun args w K Kp => unArgs [.one (.ptr), .one (.int .u64), .one (.int .u64), .one (.bool), .one (.bool)] args.toList fun x => F.mallowref9_Tree_put env x.1 x.2.1 x.2.2.1 x.2.2.2.1 x.2.2.2.2.1 (fun  w' => K (.tuple ⟨[]⟩) w') w
noncomputable def body50 : Code := (Go.Proofs.Try.f50.body).getD .skip
def ann50 : Ann := { loops := [(1, [(10, .one (.int .u64))])], joins := [] }
theorem tie50 (x : ArgsV [.one (.ptr), .one (.int .u64), .one (.int .u64), .one (.bool), .one (.bool)]) (K Kp : Value → World → Prop) (w : World) : F.mallowref9_Tree_put env x.1 x.2.1 x.2.2.1 x.2.2.2.1 x.2.2.2.2.1 (fun  w' => K (.tuple ⟨[]⟩) w') w =
    ev Go.Proofs.Try.prog (tabC [(46, C46)]) (ground Go.Proofs.Try.prog) ann50 body50 (finQ Go.Proofs.Try.prog Go.Proofs.Try.f50 K Kp) (initF (mkArgs [.one (.ptr), .one (.int .u64), .one (.int .u64), .one (.bool), .one (.bool)] x)) w := by kernel_rfl
theorem fits50 : FitsOne Go.Proofs.Try.prog 50 C50 :=
  fits_of_tie (T := [(46, C46)]) (A := ann50) (fn := Go.Proofs.Try.f50) (c := body50) (fits_cons fits46 fits_nil) mixed Go.Proofs.Try.func50 Go.Proofs.Try.call50 (by kernel_rfl) (by kernel_rfl) (by kernel_rfl) tie50

/- F.mallowref9_Tree_Take -/
noncomputable def C26 : Entry := fun args w K Kp => unArgs [.one (.ptr), .one (.int .u64), .one (.int .u64)] args.toList fun x => F.mallowref9_Tree_Take env x.1 x.2.1 x.2.2.1 (fun r1 r2 w' => K (.tuple ⟨[.int .u64 r1, .int .i64 r2]⟩) w') w
noncomputable def body26 : Code := (Go.Proofs.Try.f26.body).getD .skip
def ann26 : Ann := { loops := [], joins := [] }
theorem tie26 (x : ArgsV [.one (.ptr), .one (.int .u64), .one (.int .u64)]) (K Kp : Value → World → Prop) (w : World) : F.mallowref9_Tree_Take env x.1 x.2.1 x.2.2.1 (fun r1 r2 w' => K (.tuple ⟨[.int .u64 r1, .int .i64 r2]⟩) w') w =
    ev Go.Proofs.Try.prog (tabC [(48, C48), (49, C49), (50, C50)]) (ground Go.Proofs.Try.prog) ann26 body26 (finQ Go.Proofs.Try.prog Go.Proofs.Try.f26 K Kp) (initF (mkArgs [.one (.ptr), .one (.int .u64), .one (.int .u64)] x)) w := by kernel_rfl
theorem fits26 : FitsOne Go.Proofs.Try.prog 26 C26 :=
  fits_of_tie (T := [(48, C48), (49, C49), (50, C50)]) (A := ann26) (fn := Go.Proofs.Try.f26) (c := body26) (fits_cons fits48 (fits_cons fits49 (fits_cons fits50 fits_nil))) mixed Go.Proofs.Try.func26 Go.Proofs.Try.call26 (by kernel_rfl) (by kernel_rfl) (by kernel_rfl) tie26

/- F.mallowref9_Tree_Alloc -/
noncomputable def C25 : Entry := fun args w K Kp => unArgs [.one (.ptr), .one (.int .u64)] args.toList fun x => F.mallowref9_Tree_Alloc env x.1 x.2.1 (fun r1 r2 r3 w' => K (.tuple ⟨[.int .u64 r1, .int .u64 r2, .int .i64 r3]⟩) w') w
noncomputable def body25 : Code := (Go.Proofs.Try.f25.body).getD .skip
def ann25 : Ann := { loops := [], joins := [] }
theorem tie25 (x : ArgsV [.one (.ptr), .one (.int .u64)]) (K Kp : Value → World → Prop) (w : World) : F.mallowref9_Tree_Alloc env x.1 x.2.1 (fun r1 r2 r3 w' => K (.tuple ⟨[.int .u64 r1, .int .u64 r2, .int .i64 r3]⟩) w') w =
    ev Go.Proofs.Try.prog (tabC [(30, C30), (26, C26)]) (ground Go.Proofs.Try.prog) ann25 body25 (finQ Go.Proofs.Try.prog Go.Proofs.Try.f25 K Kp) (initF (mkArgs [.one (.ptr), .one (.int .u64)] x)) w := by kernel_rfl
theorem fits25 : FitsOne Go.Proofs.Try.prog 25 C25 :=
  fits_of_tie (T := [(30, C30), (26, C26)]) (A := ann25) (fn := Go.Proofs.Try.f25) (c := body25) (fits_cons fits30 (fits_cons fits26 fits_nil)) mixed Go.Proofs.Try.func25 Go.Proofs.Try.call25 (by kernel_rfl) (by kernel_rfl) (by kernel_rfl) tie25

/- F.radix_Tree_freed -/
noncomputable def C51 : Entry := fun args w K Kp => unArgs [.one (.ptr), .one (.int .u64), .one (.int .u64), .one (.ptr)] args.toList fun x => F.radix_Tree_freed env x.1 x.2.1 x.2.2.1 x.2.2.2.1 (fun r1 w' => K (.int .i64 r1) w') w
noncomputable def body51 : Code := (Go.Proofs.Try.f51.body).getD .skip
def ann51 : Ann := { loops := [], joins := [] }
theorem tie51 (x : ArgsV [.one (.ptr), .one (.int .u64), .one (.int .u64), .one (.ptr)]) (K Kp : Value → World → Prop) (w : World) : F.radix_Tree_freed env x.1 x.2.1 x.2.2.1 x.2.2.2.1 (fun r1 w' => K (.int .i64 r1) w') w =
    ev Go.Proofs.Try.prog (tabC [(43, C43), (17, C17), (15, C15)]) (ground Go.Proofs.Try.prog) ann51 body51 (finQ Go.Proofs.Try.prog Go.Proofs.Try.f51 K Kp) (initF (mkArgs [.one (.ptr), .one (.int .u64), .one (.int .u64), .one (.ptr)] x)) w := by kernel_rfl
theorem fits51 : FitsOne Go.Proofs.Try.prog 51 C51 :=
  fits_of_tie (T := [(43, C43), (17, C17), (15, C15)]) (A := ann51) (fn := Go.Proofs.Try.f51) (c := body51) (fits_cons fits43 (fits_cons fits17 (fits_cons fits15 fits_nil))) mixed Go.Proofs.Try.func51 Go.Proofs.Try.call51 (by kernel_rfl) (by kernel_rfl) (by kernel_rfl) tie51

/- F.radix_Tree_Give -/
noncomputable def C27 : Entry := fun args w K Kp => unArgs [.one (.ptr), .one (.int .u64), .one (.int .u64)] args.toList fun x => F.radix_Tree_Give env x.1 x.2.1 x.2.2.1 (fun r1 w' => K (.int .i64 r1) w') w
noncomputable def body27 : Code := (Go.Proofs.Try.f27.body).getD .skip
def ann27 : Ann := { loops := [], joins := [] }
theorem tie27 (x : ArgsV [.one (.ptr), .one (.int .u64), .one (.int .u64)]) (K Kp : Value → World → Prop) (w : World) : F.radix_Tree_Give env x.1 x.2.1 x.2.2.1 (fun r1 w' => K (.int .i64 r1) w') w =
    ev Go.Proofs.Try.prog (tabC [(51, C51)]) (ground Go.Proofs.Try.prog) ann27 body27 (finQ Go.Proofs.Try.prog Go.Proofs.Try.f27 K Kp) (initF (mkArgs [.one (.ptr), .one (.int .u64), .one (.int .u64)] x)) w := by kernel_rfl
theorem fits27 : FitsOne Go.Proofs.Try.prog 27 C27 :=
  fits_of_tie (T := [(51, C51)]) (A := ann27) (fn := Go.Proofs.Try.f27) (c := body27) (fits_cons fits51 fits_nil) mixed Go.Proofs.Try.func27 Go.Proofs.Try.call27 (by kernel_rfl) (by kernel_rfl) (by kernel_rfl) tie27

/- F.mallowref9_Tree_Give -/
noncomputable def C28 : Entry := fun args w K Kp => unArgs [.one (.ptr), .one (.int .u64), .one (.int .u64), .one (.bool)] args.toList fun x => F.mallowref9_Tree_Give env x.1 x.2.1 x.2.2.1 x.2.2.2.1 (fun r1 w' => K (.int .i64 r1) w') w
noncomputable def body28 : Code := (Go.Proofs.Try.f28.body).getD .skip
def ann28 : Ann := { loops := [], joins := [] }
theorem tie28 (x : ArgsV [.one (.ptr), .one (.int .u64), .one (.int .u64), .one (.bool)]) (K Kp : Value → World → Prop) (w : World) : F.mallowref9_Tree_Give env x.1 x.2.1 x.2.2.1 x.2.2.2.1 (fun r1 w' => K (.int .i64 r1) w') w =
    ev Go.Proofs.Try.prog (tabC [(48, C48), (49, C49), (50, C50)]) (ground Go.Proofs.Try.prog) ann28 body28 (finQ Go.Proofs.Try.prog Go.Proofs.Try.f28 K Kp) (initF (mkArgs [.one (.ptr), .one (.int .u64), .one (.int .u64), .one (.bool)] x)) w := by kernel_rfl
theorem fits28 : FitsOne Go.Proofs.Try.prog 28 C28 :=
  fits_of_tie (T := [(48, C48), (49, C49), (50, C50)]) (A := ann28) (fn := Go.Proofs.Try.f28) (c := body28) (fits_cons fits48 (fits_cons fits49 (fits_cons fits50 fits_nil))) mixed Go.Proofs.Try.func28 Go.Proofs.Try.call28 (by kernel_rfl) (by kernel_rfl) (by kernel_rfl) tie28

/- F.radix_Tree_Back -/
noncomputable def C29 : Entry := fun args w K Kp => unArgs [.one (.ptr), .one (.int .u64), .one (.int .u64)] args.toList fun x => F.radix_Tree_Back env x.1 x.2.1 x.2.2.1 (fun r1 w' => K (.int .i64 r1) w') w
noncomputable def body29 : Code := (Go.Proofs.Try.f29.body).getD .skip
def ann29 : Ann := { loops := [], joins := [] }
theorem tie29 (x : ArgsV [.one (.ptr), .one (.int .u64), .one (.int .u64)]) (K Kp : Value → World → Prop) (w : World) : F.radix_Tree_Back env x.1 x.2.1 x.2.2.1 (fun r1 w' => K (.int .i64 r1) w') w =
    ev Go.Proofs.Try.prog (tabC [(51, C51)]) (ground Go.Proofs.Try.prog) ann29 body29 (finQ Go.Proofs.Try.prog Go.Proofs.Try.f29 K Kp) (initF (mkArgs [.one (.ptr), .one (.int .u64), .one (.int .u64)] x)) w := by kernel_rfl
theorem fits29 : FitsOne Go.Proofs.Try.prog 29 C29 :=
  fits_of_tie (T := [(51, C51)]) (A := ann29) (fn := Go.Proofs.Try.f29) (c := body29) (fits_cons fits51 fits_nil) mixed Go.Proofs.Try.func29 Go.Proofs.Try.call29 (by kernel_rfl) (by kernel_rfl) (by kernel_rfl) tie29

/- F.radix_Tree_Scavenge -/
noncomputable def C31 : Entry := fun args w K Kp => unArgs [.one (.ptr), .one (.int .u64)] args.toList fun x => F.radix_Tree_Scavenge env x.1 x.2.1 (fun r1 r2 w' => K (.tuple ⟨[.int .u64 r1, .int .u64 r2]⟩) w') w
noncomputable def body31 : Code := (Go.Proofs.Try.f31.body).getD .skip
def ann31 : Ann := { loops := [], joins := [(3, [(20, .one (.bool))])] }
theorem tie31 (x : ArgsV [.one (.ptr), .one (.int .u64)]) (K Kp : Value → World → Prop) (w : World) : F.radix_Tree_Scavenge env x.1 x.2.1 (fun r1 r2 w' => K (.tuple ⟨[.int .u64 r1, .int .u64 r2]⟩) w') w =
    ev Go.Proofs.Try.prog (tabC [(42, C42), (41, C41), (17, C17)]) (ground Go.Proofs.Try.prog) ann31 body31 (finQ Go.Proofs.Try.prog Go.Proofs.Try.f31 K Kp) (initF (mkArgs [.one (.ptr), .one (.int .u64)] x)) w := by kernel_rfl
theorem fits31 : FitsOne Go.Proofs.Try.prog 31 C31 :=
  fits_of_tie (T := [(42, C42), (41, C41), (17, C17)]) (A := ann31) (fn := Go.Proofs.Try.f31) (c := body31) (fits_cons fits42 (fits_cons fits41 (fits_cons fits17 fits_nil))) mixed Go.Proofs.Try.func31 Go.Proofs.Try.call31 (by kernel_rfl) (by kernel_rfl) (by kernel_rfl) tie31

/- F.mallowref6_Row_Last -/
noncomputable def C62 : Entry := fun args w K Kp => unArgs [.one (.ptr), .one (.int .i64), .one (.int .i64)] args.toList fun x => F.mallowref6_Row_Last env x.1 x.2.1 x.2.2.1 (fun r1 r2 w' => K (.tuple ⟨[.int .i64 r1, .int .i64 r2]⟩) w') w
noncomputable def body62 : Code := (Go.Proofs.Try.f62.body).getD .skip
def ann62 : Ann := { loops := [(6, [(8, .one (.int .i64))]), (11, [(9, .one (.int .i64))])], joins := [(3, [(2, .one (.int .i64))]), (4, [(17, .one (.bool))]), (8, [(8, .one (.int .i64))])] }
theorem tie62 (x : ArgsV [.one (.ptr), .one (.int .i64), .one (.int .i64)]) (K Kp : Value → World → Prop) (w : World) : F.mallowref6_Row_Last env x.1 x.2.1 x.2.2.1 (fun r1 r2 w' => K (.tuple ⟨[.int .i64 r1, .int .i64 r2]⟩) w') w =
    ev Go.Proofs.Try.prog (tabC []) (ground Go.Proofs.Try.prog) ann62 body62 (finQ Go.Proofs.Try.prog Go.Proofs.Try.f62 K Kp) (initF (mkArgs [.one (.ptr), .one (.int .i64), .one (.int .i64)] x)) w := by kernel_rfl
theorem fits62 : FitsOne Go.Proofs.Try.prog 62 C62 :=
  fits_of_tie (T := []) (A := ann62) (fn := Go.Proofs.Try.f62) (c := body62) fits_nil mixed Go.Proofs.Try.func62 Go.Proofs.Try.call62 (by kernel_rfl) (by kernel_rfl) (by kernel_rfl) tie62

/- F.mallowref8_Chunk_Scavenge -/
noncomputable def C52 : Entry := fun args w K Kp => unArgs [.one (.ptr), .one (.int .i64)] args.toList fun x => F.mallowref8_Chunk_Scavenge env x.1 x.2.1 (fun r1 r2 w' => K (.tuple ⟨[.int .i64 r1, .int .i64 r2]⟩) w') w
noncomputable def body52 : Code := (Go.Proofs.Try.f52.body).getD .skip
def ann52 : Ann := { loops := [(3, [(7, .one (.int .i64))])], joins := [] }
theorem tie52 (x : ArgsV [.one (.ptr), .one (.int .i64)]) (K Kp : Value → World → Prop) (w : World) : F.mallowref8_Chunk_Scavenge env x.1 x.2.1 (fun r1 r2 w' => K (.tuple ⟨[.int .i64 r1, .int .i64 r2]⟩) w') w =
    ev Go.Proofs.Try.prog (tabC [(62, C62), (61, C61)]) (ground Go.Proofs.Try.prog) ann52 body52 (finQ Go.Proofs.Try.prog Go.Proofs.Try.f52 K Kp) (initF (mkArgs [.one (.ptr), .one (.int .i64)] x)) w := by kernel_rfl
theorem fits52 : FitsOne Go.Proofs.Try.prog 52 C52 :=
  fits_of_tie (T := [(62, C62), (61, C61)]) (A := ann52) (fn := Go.Proofs.Try.f52) (c := body52) (fits_cons fits62 (fits_cons fits61 fits_nil)) mixed Go.Proofs.Try.func52 Go.Proofs.Try.call52 (by kernel_rfl) (by kernel_rfl) (by kernel_rfl) tie52

/- F.mallowref9_Tree_Scavenge -/
noncomputable def C32 : Entry := fun args w K Kp => unArgs [.one (.ptr), .one (.int .u64)] args.toList fun x => F.mallowref9_Tree_Scavenge env x.1 x.2.1 (fun r1 r2 w' => K (.tuple ⟨[.int .u64 r1, .int .u64 r2]⟩) w') w
noncomputable def body32 : Code := (Go.Proofs.Try.f32.body).getD .skip
def ann32 : Ann := { loops := [(4, [(6, .one (.int .i64))])], joins := [(3, [(1, .one (.int .u64))])] }
theorem tie32 (x : ArgsV [.one (.ptr), .one (.int .u64)]) (K Kp : Value → World → Prop) (w : World) : F.mallowref9_Tree_Scavenge env x.1 x.2.1 (fun r1 r2 w' => K (.tuple ⟨[.int .u64 r1, .int .u64 r2]⟩) w') w =
    ev Go.Proofs.Try.prog (tabC [(52, C52)]) (ground Go.Proofs.Try.prog) ann32 body32 (finQ Go.Proofs.Try.prog Go.Proofs.Try.f32 K Kp) (initF (mkArgs [.one (.ptr), .one (.int .u64)] x)) w := by kernel_rfl
theorem fits32 : FitsOne Go.Proofs.Try.prog 32 C32 :=
  fits_of_tie (T := [(52, C52)]) (A := ann32) (fn := Go.Proofs.Try.f32) (c := body32) (fits_cons fits52 fits_nil) mixed Go.Proofs.Try.func32 Go.Proofs.Try.call32 (by kernel_rfl) (by kernel_rfl) (by kernel_rfl) tie32

/- F.mallowref6_Row_Sum -/
noncomputable def C53 : Entry := fun args w K Kp => unArgs [.one (.ptr)] args.toList fun x => F.mallowref6_Row_Sum env x.1 (fun r1 r2 r3 w' => K (.agg ⟨[.int .i64 r1, .int .i64 r2, .int .i64 r3]⟩) w') w
noncomputable def body53 : Code := (Go.Proofs.Try.f53.body).getD .skip
def ann53 : Ann := { loops := [(2, []), (4, []), (8, [(4, .one (.int .i64)), (5, .one (.int .i64))])], joins := [(4, []), (6, []), (13, [(4, .one (.int .i64))])] }
theorem tie53 (x : ArgsV [.one (.ptr)]) (K Kp : Value → World → Prop) (w : World) : F.mallowref6_Row_Sum env x.1 (fun r1 r2 r3 w' => K (.agg ⟨[.int .i64 r1, .int .i64 r2, .int .i64 r3]⟩) w') w =
    ev Go.Proofs.Try.prog (tabC []) (ground Go.Proofs.Try.prog) ann53 body53 (finQ Go.Proofs.Try.prog Go.Proofs.Try.f53 K Kp) (initF (mkArgs [.one (.ptr)] x)) w := by kernel_rfl
theorem fits53 : FitsOne Go.Proofs.Try.prog 53 C53 :=
  fits_of_tie (T := []) (A := ann53) (fn := Go.Proofs.Try.f53) (c := body53) fits_nil mixed Go.Proofs.Try.func53 Go.Proofs.Try.call53 (by kernel_rfl) (by kernel_rfl) (by kernel_rfl) tie53

/- F.mallowref7_Right -/
noncomputable def C67 : Entry := fun args w K Kp => unArgs [.agg [.int .i64, .int .i64, .int .i64], .one (.int .i64)] args.toList fun x => F.mallowref7_Right env x.1.1 x.1.2.1 x.1.2.2.1 x.2.1 (fun r1 w' => K (.bool r1) w') w
noncomputable def body67 : Code := (Go.Proofs.Try.f67.body).getD .skip
def ann67 : Ann := { loops := [], joins := [(2, [(37, .one (.bool))]), (4, [(62, .one (.bool))])] }
theorem tie67 (x : ArgsV [.agg [.int .i64, .int .i64, .int .i64], .one (.int .i64)]) (K Kp : Value → World → Prop) (w : World) : F.mallowref7_Right env x.1.1 x.1.2.1 x.1.2.2.1 x.2.1 (fun r1 w' => K (.bool r1) w') w =
    ev Go.Proofs.Try.prog (tabC []) (ground Go.Proofs.Try.prog) ann67 body67 (finQ Go.Proofs.Try.prog Go.Proofs.Try.f67 K Kp) (initF (mkArgs [.agg [.int .i64, .int .i64, .int .i64], .one (.int .i64)] x)) w := by kernel_rfl
theorem fits67 : FitsOne Go.Proofs.Try.prog 67 C67 :=
  fits_of_tie (T := []) (A := ann67) (fn := Go.Proofs.Try.f67) (c := body67) fits_nil mixed Go.Proofs.Try.func67 Go.Proofs.Try.call67 (by kernel_rfl) (by kernel_rfl) (by kernel_rfl) tie67

/- F.mallowref7_right -/
noncomputable def C63 : Entry := fun args w K Kp => unArgs [.one (.sl), .one (.int .i64)] args.toList fun x => F.mallowref7_right env x.1 x.2.1 (fun r1 w' => K (.bool r1) w') w
noncomputable def body63 : Code := (Go.Proofs.Try.f63.body).getD .skip
def ann63 : Ann := { loops := [(4, [(5, .one (.int .i64))])], joins := [(2, [(16, .one (.bool))])] }
theorem tie63 (x : ArgsV [.one (.sl), .one (.int .i64)]) (K Kp : Value → World → Prop) (w : World) : F.mallowref7_right env x.1 x.2.1 (fun r1 w' => K (.bool r1) w') w =
    ev Go.Proofs.Try.prog (tabC [(67, C67)]) (ground Go.Proofs.Try.prog) ann63 body63 (finQ Go.Proofs.Try.prog Go.Proofs.Try.f63 K Kp) (initF (mkArgs [.one (.sl), .one (.int .i64)] x)) w := by kernel_rfl
theorem fits63 : FitsOne Go.Proofs.Try.prog 63 C63 :=
  fits_of_tie (T := [(67, C67)]) (A := ann63) (fn := Go.Proofs.Try.f63) (c := body63) (fits_cons fits67 fits_nil) mixed Go.Proofs.Try.func63 Go.Proofs.Try.call63 (by kernel_rfl) (by kernel_rfl) (by kernel_rfl) tie63

/- F.mallowref7_Merge -/
noncomputable def C54 : Entry := fun args w K Kp => unArgs [.one (.sl), .one (.int .i64)] args.toList fun x => F.mallowref7_Merge env x.1 x.2.1 (fun r1 r2 r3 r4 w' => K (.tuple ⟨[.agg ⟨[.int .i64 r1, .int .i64 r2, .int .i64 r3]⟩, .int .i64 r4]⟩) w') w
noncomputable def body54 : Code := (Go.Proofs.Try.f54.body).getD .skip
def ann54 : Ann := { loops := [(6, [(7, .one (.int .i64)), (8, .one (.bool)), (9, .one (.int .i64))])], joins := [(10, []), (12, []), (14, []), (17, [(7, .one (.int .i64)), (8, .one (.bool))])] }
theorem tie54 (x : ArgsV [.one (.sl), .one (.int .i64)]) (K Kp : Value → World → Prop) (w : World) : F.mallowref7_Merge env x.1 x.2.1 (fun r1 r2 r3 r4 w' => K (.tuple ⟨[.agg ⟨[.int .i64 r1, .int .i64 r2, .int .i64 r3]⟩, .int .i64 r4]⟩) w') w =
    ev Go.Proofs.Try.prog (tabC [(63, C63)]) (ground Go.Proofs.Try.prog) ann54 body54 (finQ Go.Proofs.Try.prog Go.Proofs.Try.f54 K Kp) (initF (mkArgs [.one (.sl), .one (.int .i64)] x)) w := by kernel_rfl
theorem fits54 : FitsOne Go.Proofs.Try.prog 54 C54 :=
  fits_of_tie (T := [(63, C63)]) (A := ann54) (fn := Go.Proofs.Try.f54) (c := body54) (fits_cons fits63 fits_nil) mixed Go.Proofs.Try.func54 Go.Proofs.Try.call54 (by kernel_rfl) (by kernel_rfl) (by kernel_rfl) tie54

/- F.mallowref9_Tree_Sum -/
noncomputable def Cn33 (n : Nat) : Entry := fun args w K Kp => unArgs [.one (.ptr), .one (.int .i64), .one (.int .u64)] args.toList fun x => F.mallowref9_Tree_Sum env n x.1 x.2.1 x.2.2.1 (fun r1 r2 r3 r4 w' => K (.tuple ⟨[.agg ⟨[.int .i64 r1, .int .i64 r2, .int .i64 r3]⟩, .int .i64 r4]⟩) w') w
noncomputable def C33 : Entry := fun args w K Kp => ∃ n, Cn33 n args w K Kp
noncomputable def body33 : Code := (Go.Proofs.Try.f33.body).getD .skip
def ann33 : Ann := { loops := [(5, [(8, .one (.int .u64)), (9, .one (.int .i64)), (10, .one (.int .i64))]), (18, [(13, .one (.sl)), (14, .one (.int .u64))])], joins := [(2, [(22, .one (.bool))])] }
theorem tie33 (n : Nat) (x : ArgsV [.one (.ptr), .one (.int .i64), .one (.int .u64)]) (K Kp : Value → World → Prop) (w : World) : F.mallowref9_Tree_Sum env (n + 1) x.1 x.2.1 x.2.2.1 (fun r1 r2 r3 r4 w' => K (.tuple ⟨[.agg ⟨[.int .i64 r1, .int .i64 r2, .int .i64 r3]⟩, .int .i64 r4]⟩) w') w =
    ev Go.Proofs.Try.prog (tabC [(46, C46), (53, C53), (33, Cn33 n), (54, C54)]) (ground Go.Proofs.Try.prog) ann33 body33 (finQ Go.Proofs.Try.prog Go.Proofs.Try.f33 K Kp) (initF (mkArgs [.one (.ptr), .one (.int .i64), .one (.int .u64)] x)) w := by kernel_rfl
theorem fitsN33 (n : Nat) : FitsOne Go.Proofs.Try.prog 33 (Cn33 n) := by
  induction n with
  | zero => intro args w K Kp h; obtain ⟨x, _, h⟩ := unArgs_elim h; exact h.elim
  | succ n ih => exact fits_of_tie (T := [(46, C46), (53, C53), (33, Cn33 n), (54, C54)]) (A := ann33) (fn := Go.Proofs.Try.f33) (c := body33) (fits_cons fits46 (fits_cons fits53 (fits_cons ih (fits_cons fits54 fits_nil)))) mixed Go.Proofs.Try.func33 Go.Proofs.Try.call33 (by kernel_rfl) (by kernel_rfl) (by kernel_rfl) (tie33 n)
theorem fits33 : FitsOne Go.Proofs.Try.prog 33 C33 := fits_some fitsN33

/- F.stretch_Set_Has -/
noncomputable def C64 : Entry := fun args w K Kp => unArgs [.one (.ptr), .one (.int .u64)] args.toList fun x => F.stretch_Set_Has env x.1 x.2.1 (fun r1 w' => K (.bool r1) w') w
noncomputable def body64 : Code := (Go.Proofs.Try.f64.body).getD .skip
def ann64 : Ann := { loops := [], joins := [] }
theorem tie64 (x : ArgsV [.one (.ptr), .one (.int .u64)]) (K Kp : Value → World → Prop) (w : World) : F.stretch_Set_Has env x.1 x.2.1 (fun r1 w' => K (.bool r1) w') w =
    ev Go.Proofs.Try.prog (tabC [(40, C40)]) (ground Go.Proofs.Try.prog) ann64 body64 (finQ Go.Proofs.Try.prog Go.Proofs.Try.f64 K Kp) (initF (mkArgs [.one (.ptr), .one (.int .u64)] x)) w := by kernel_rfl
theorem fits64 : FitsOne Go.Proofs.Try.prog 64 C64 :=
  fits_of_tie (T := [(40, C40)]) (A := ann64) (fn := Go.Proofs.Try.f64) (c := body64) (fits_cons fits40 fits_nil) mixed Go.Proofs.Try.func64 Go.Proofs.Try.call64 (by kernel_rfl) (by kernel_rfl) (by kernel_rfl) tie64

/- F.radix_Tree_State -/
noncomputable def C55 : Entry := fun args w K Kp => unArgs [.one (.ptr), .one (.int .u64)] args.toList fun x => F.radix_Tree_State env x.1 x.2.1 (fun r1 r2 r3 w' => K (.tuple ⟨[.bool r1, .bool r2, .bool r3]⟩) w') w
noncomputable def body55 : Code := (Go.Proofs.Try.f55.body).getD .skip
def ann55 : Ann := { loops := [], joins := [] }
theorem tie55 (x : ArgsV [.one (.ptr), .one (.int .u64)]) (K Kp : Value → World → Prop) (w : World) : F.radix_Tree_State env x.1 x.2.1 (fun r1 r2 r3 w' => K (.tuple ⟨[.bool r1, .bool r2, .bool r3]⟩) w') w =
    ev Go.Proofs.Try.prog (tabC [(64, C64)]) (ground Go.Proofs.Try.prog) ann55 body55 (finQ Go.Proofs.Try.prog Go.Proofs.Try.f55 K Kp) (initF (mkArgs [.one (.ptr), .one (.int .u64)] x)) w := by kernel_rfl
theorem fits55 : FitsOne Go.Proofs.Try.prog 55 C55 :=
  fits_of_tie (T := [(64, C64)]) (A := ann55) (fn := Go.Proofs.Try.f55) (c := body55) (fits_cons fits64 fits_nil) mixed Go.Proofs.Try.func55 Go.Proofs.Try.call55 (by kernel_rfl) (by kernel_rfl) (by kernel_rfl) tie55

/- F.mallowlaw9_page -/
noncomputable def C34 : Entry := fun args w K Kp => unArgs [.one (.ptr), .one (.ptr), .one (.int .u64)] args.toList fun x => F.mallowlaw9_page env x.1 x.2.1 x.2.2.1 (fun r1 w' => K (.bool r1) w') w
noncomputable def body34 : Code := (Go.Proofs.Try.f34.body).getD .skip
def ann34 : Ann := { loops := [], joins := [] }
theorem tie34 (x : ArgsV [.one (.ptr), .one (.ptr), .one (.int .u64)]) (K Kp : Value → World → Prop) (w : World) : F.mallowlaw9_page env x.1 x.2.1 x.2.2.1 (fun r1 w' => K (.bool r1) w') w =
    ev Go.Proofs.Try.prog (tabC [(55, C55), (56, C56)]) (ground Go.Proofs.Try.prog) ann34 body34 (finQ Go.Proofs.Try.prog Go.Proofs.Try.f34 K Kp) (initF (mkArgs [.one (.ptr), .one (.ptr), .one (.int .u64)] x)) w := by kernel_rfl
theorem fits34 : FitsOne Go.Proofs.Try.prog 34 C34 :=
  fits_of_tie (T := [(55, C55), (56, C56)]) (A := ann34) (fn := Go.Proofs.Try.f34) (c := body34) (fits_cons fits55 (fits_cons fits56 fits_nil)) mixed Go.Proofs.Try.func34 Go.Proofs.Try.call34 (by kernel_rfl) (by kernel_rfl) (by kernel_rfl) tie34

/- F.mallowlaw9_act -/
noncomputable def C13 : Entry := fun args w K Kp => unArgs [.one (.ptr), .one (.ptr), .agg [.int .i64, .int .u64, .int .u64]] args.toList fun x => F.mallowlaw9_act env x.1 x.2.1 x.2.2.1.1 x.2.2.1.2.1 x.2.2.1.2.2.1 (fun r1 w' => K (.bool r1) w') w
noncomputable def body13 : Code := (Go.Proofs.Try.f13.body).getD .skip
def ann13 : Ann := { loops := [], joins := [] }
theorem tie13 (x : ArgsV [.one (.ptr), .one (.ptr), .agg [.int .i64, .int .u64, .int .u64]]) (K Kp : Value → World → Prop) (w : World) : F.mallowlaw9_act env x.1 x.2.1 x.2.2.1.1 x.2.2.1.2.1 x.2.2.1.2.2.1 (fun r1 w' => K (.bool r1) w') w =
    ev Go.Proofs.Try.prog (tabC [(7, C7), (24, C24), (8, C8), (25, C25), (19, C19), (26, C26), (27, C27), (28, C28), (29, C29), (18, C18), (30, C30), (31, C31), (32, C32), (9, C9), (33, C33), (34, C34)]) (ground Go.Proofs.Try.prog) ann13 body13 (finQ Go.Proofs.Try.prog Go.Proofs.Try.f13 K Kp) (initF (mkArgs [.one (.ptr), .one (.ptr), .agg [.int .i64, .int .u64, .int .u64]] x)) w := by kernel_rfl
theorem fits13 : FitsOne Go.Proofs.Try.prog 13 C13 :=
  fits_of_tie (T := [(7, C7), (24, C24), (8, C8), (25, C25), (19, C19), (26, C26), (27, C27), (28, C28), (29, C29), (18, C18), (30, C30), (31, C31), (32, C32), (9, C9), (33, C33), (34, C34)]) (A := ann13) (fn := Go.Proofs.Try.f13) (c := body13) (fits_cons fits7 (fits_cons fits24 (fits_cons fits8 (fits_cons fits25 (fits_cons fits19 (fits_cons fits26 (fits_cons fits27 (fits_cons fits28 (fits_cons fits29 (fits_cons fits18 (fits_cons fits30 (fits_cons fits31 (fits_cons fits32 (fits_cons fits9 (fits_cons fits33 (fits_cons fits34 fits_nil)))))))))))))))) mixed Go.Proofs.Try.func13 Go.Proofs.Try.call13 (by kernel_rfl) (by kernel_rfl) (by kernel_rfl) tie13

/- F.mallowref6_Row_Count -/
noncomputable def C65 : Entry := fun args w K Kp => unArgs [.one (.ptr), .one (.int .i64), .one (.int .i64)] args.toList fun x => F.mallowref6_Row_Count env x.1 x.2.1 x.2.2.1 (fun r1 w' => K (.int .i64 r1) w') w
noncomputable def body65 : Code := (Go.Proofs.Try.f65.body).getD .skip
def ann65 : Ann := { loops := [(5, [(7, .one (.int .i64)), (8, .one (.int .i64))])], joins := [] }
theorem tie65 (x : ArgsV [.one (.ptr), .one (.int .i64), .one (.int .i64)]) (K Kp : Value → World → Prop) (w : World) : F.mallowref6_Row_Count env x.1 x.2.1 x.2.2.1 (fun r1 w' => K (.int .i64 r1) w') w =
    ev Go.Proofs.Try.prog (tabC [(66, C66)]) (ground Go.Proofs.Try.prog) ann65 body65 (finQ Go.Proofs.Try.prog Go.Proofs.Try.f65 K Kp) (initF (mkArgs [.one (.ptr), .one (.int .i64), .one (.int .i64)] x)) w := by kernel_rfl
theorem fits65 : FitsOne Go.Proofs.Try.prog 65 C65 :=
  fits_of_tie (T := [(66, C66)]) (A := ann65) (fn := Go.Proofs.Try.f65) (c := body65) (fits_cons fits66 fits_nil) mixed Go.Proofs.Try.func65 Go.Proofs.Try.call65 (by kernel_rfl) (by kernel_rfl) (by kernel_rfl) tie65

/- F.mallowref8_Chunk_Free -/
noncomputable def C57 : Entry := fun args w K Kp => unArgs [.one (.ptr)] args.toList fun x => F.mallowref8_Chunk_Free env x.1 (fun r1 w' => K (.int .i64 r1) w') w
noncomputable def body57 : Code := (Go.Proofs.Try.f57.body).getD .skip
def ann57 : Ann := { loops := [], joins := [] }
theorem tie57 (x : ArgsV [.one (.ptr)]) (K Kp : Value → World → Prop) (w : World) : F.mallowref8_Chunk_Free env x.1 (fun r1 w' => K (.int .i64 r1) w') w =
    ev Go.Proofs.Try.prog (tabC [(65, C65)]) (ground Go.Proofs.Try.prog) ann57 body57 (finQ Go.Proofs.Try.prog Go.Proofs.Try.f57 K Kp) (initF (mkArgs [.one (.ptr)] x)) w := by kernel_rfl
theorem fits57 : FitsOne Go.Proofs.Try.prog 57 C57 :=
  fits_of_tie (T := [(65, C65)]) (A := ann57) (fn := Go.Proofs.Try.f57) (c := body57) (fits_cons fits65 fits_nil) mixed Go.Proofs.Try.func57 Go.Proofs.Try.call57 (by kernel_rfl) (by kernel_rfl) (by kernel_rfl) tie57

/- F.mallowref9_Tree_Free -/
noncomputable def C35 : Entry := fun args w K Kp => unArgs [.one (.ptr)] args.toList fun x => F.mallowref9_Tree_Free env x.1 (fun r1 w' => K (.int .u64 r1) w') w
noncomputable def body35 : Code := (Go.Proofs.Try.f35.body).getD .skip
def ann35 : Ann := { loops := [(3, [(3, .one (.int .i64)), (4, .one (.int .i64))])], joins := [] }
theorem tie35 (x : ArgsV [.one (.ptr)]) (K Kp : Value → World → Prop) (w : World) : F.mallowref9_Tree_Free env x.1 (fun r1 w' => K (.int .u64 r1) w') w =
    ev Go.Proofs.Try.prog (tabC [(57, C57)]) (ground Go.Proofs.Try.prog) ann35 body35 (finQ Go.Proofs.Try.prog Go.Proofs.Try.f35 K Kp) (initF (mkArgs [.one (.ptr)] x)) w := by kernel_rfl
theorem fits35 : FitsOne Go.Proofs.Try.prog 35 C35 :=
  fits_of_tie (T := [(57, C57)]) (A := ann35) (fn := Go.Proofs.Try.f35) (c := body35) (fits_cons fits57 fits_nil) mixed Go.Proofs.Try.func35 Go.Proofs.Try.call35 (by kernel_rfl) (by kernel_rfl) (by kernel_rfl) tie35

/- F.radix_Tree_Released -/
noncomputable def C36 : Entry := fun args w K Kp => unArgs [.one (.ptr)] args.toList fun x => F.radix_Tree_Released env x.1 (fun r1 w' => K (.int .u64 r1) w') w
noncomputable def body36 : Code := (Go.Proofs.Try.f36.body).getD .skip
def ann36 : Ann := { loops := [], joins := [] }
theorem tie36 (x : ArgsV [.one (.ptr)]) (K Kp : Value → World → Prop) (w : World) : F.radix_Tree_Released env x.1 (fun r1 w' => K (.int .u64 r1) w') w =
    ev Go.Proofs.Try.prog (tabC [(45, C45)]) (ground Go.Proofs.Try.prog) ann36 body36 (finQ Go.Proofs.Try.prog Go.Proofs.Try.f36 K Kp) (initF (mkArgs [.one (.ptr)] x)) w := by kernel_rfl
theorem fits36 : FitsOne Go.Proofs.Try.prog 36 C36 :=
  fits_of_tie (T := [(45, C45)]) (A := ann36) (fn := Go.Proofs.Try.f36) (c := body36) (fits_cons fits45 fits_nil) mixed Go.Proofs.Try.func36 Go.Proofs.Try.call36 (by kernel_rfl) (by kernel_rfl) (by kernel_rfl) tie36

/- F.mallowref8_Chunk_Released -/
noncomputable def C58 : Entry := fun args w K Kp => unArgs [.one (.ptr)] args.toList fun x => F.mallowref8_Chunk_Released env x.1 (fun r1 w' => K (.int .i64 r1) w') w
noncomputable def body58 : Code := (Go.Proofs.Try.f58.body).getD .skip
def ann58 : Ann := { loops := [], joins := [] }
theorem tie58 (x : ArgsV [.one (.ptr)]) (K Kp : Value → World → Prop) (w : World) : F.mallowref8_Chunk_Released env x.1 (fun r1 w' => K (.int .i64 r1) w') w =
    ev Go.Proofs.Try.prog (tabC [(65, C65)]) (ground Go.Proofs.Try.prog) ann58 body58 (finQ Go.Proofs.Try.prog Go.Proofs.Try.f58 K Kp) (initF (mkArgs [.one (.ptr)] x)) w := by kernel_rfl
theorem fits58 : FitsOne Go.Proofs.Try.prog 58 C58 :=
  fits_of_tie (T := [(65, C65)]) (A := ann58) (fn := Go.Proofs.Try.f58) (c := body58) (fits_cons fits65 fits_nil) mixed Go.Proofs.Try.func58 Go.Proofs.Try.call58 (by kernel_rfl) (by kernel_rfl) (by kernel_rfl) tie58

/- F.mallowref9_Tree_Released -/
noncomputable def C37 : Entry := fun args w K Kp => unArgs [.one (.ptr)] args.toList fun x => F.mallowref9_Tree_Released env x.1 (fun r1 w' => K (.int .u64 r1) w') w
noncomputable def body37 : Code := (Go.Proofs.Try.f37.body).getD .skip
def ann37 : Ann := { loops := [(3, [(3, .one (.int .i64)), (4, .one (.int .i64))])], joins := [] }
theorem tie37 (x : ArgsV [.one (.ptr)]) (K Kp : Value → World → Prop) (w : World) : F.mallowref9_Tree_Released env x.1 (fun r1 w' => K (.int .u64 r1) w') w =
    ev Go.Proofs.Try.prog (tabC [(58, C58)]) (ground Go.Proofs.Try.prog) ann37 body37 (finQ Go.Proofs.Try.prog Go.Proofs.Try.f37 K Kp) (initF (mkArgs [.one (.ptr)] x)) w := by kernel_rfl
theorem fits37 : FitsOne Go.Proofs.Try.prog 37 C37 :=
  fits_of_tie (T := [(58, C58)]) (A := ann37) (fn := Go.Proofs.Try.f37) (c := body37) (fits_cons fits58 fits_nil) mixed Go.Proofs.Try.func37 Go.Proofs.Try.call37 (by kernel_rfl) (by kernel_rfl) (by kernel_rfl) tie37

/- F.radix_Tree_Hint -/
noncomputable def C38 : Entry := fun args w K Kp => unArgs [.one (.ptr)] args.toList fun x => F.radix_Tree_Hint env x.1 (fun r1 w' => K (.int .u64 r1) w') w
noncomputable def body38 : Code := (Go.Proofs.Try.f38.body).getD .skip
def ann38 : Ann := { loops := [], joins := [] }
theorem tie38 (x : ArgsV [.one (.ptr)]) (K Kp : Value → World → Prop) (w : World) : F.radix_Tree_Hint env x.1 (fun r1 w' => K (.int .u64 r1) w') w =
    ev Go.Proofs.Try.prog (tabC [(42, C42)]) (ground Go.Proofs.Try.prog) ann38 body38 (finQ Go.Proofs.Try.prog Go.Proofs.Try.f38 K Kp) (initF (mkArgs [.one (.ptr)] x)) w := by kernel_rfl
theorem fits38 : FitsOne Go.Proofs.Try.prog 38 C38 :=
  fits_of_tie (T := [(42, C42)]) (A := ann38) (fn := Go.Proofs.Try.f38) (c := body38) (fits_cons fits42 fits_nil) mixed Go.Proofs.Try.func38 Go.Proofs.Try.call38 (by kernel_rfl) (by kernel_rfl) (by kernel_rfl) tie38

/- F.mallowref9_Tree_First -/
noncomputable def C39 : Entry := fun args w K Kp => unArgs [.one (.ptr)] args.toList fun x => F.mallowref9_Tree_First env x.1 (fun r1 r2 w' => K (.tuple ⟨[.int .u64 r1, .bool r2]⟩) w') w
noncomputable def body39 : Code := (Go.Proofs.Try.f39.body).getD .skip
def ann39 : Ann := { loops := [], joins := [] }
theorem tie39 (x : ArgsV [.one (.ptr)]) (K Kp : Value → World → Prop) (w : World) : F.mallowref9_Tree_First env x.1 (fun r1 r2 w' => K (.tuple ⟨[.int .u64 r1, .bool r2]⟩) w') w =
    ev Go.Proofs.Try.prog (tabC [(30, C30)]) (ground Go.Proofs.Try.prog) ann39 body39 (finQ Go.Proofs.Try.prog Go.Proofs.Try.f39 K Kp) (initF (mkArgs [.one (.ptr)] x)) w := by kernel_rfl
theorem fits39 : FitsOne Go.Proofs.Try.prog 39 C39 :=
  fits_of_tie (T := [(30, C30)]) (A := ann39) (fn := Go.Proofs.Try.f39) (c := body39) (fits_cons fits30 fits_nil) mixed Go.Proofs.Try.func39 Go.Proofs.Try.call39 (by kernel_rfl) (by kernel_rfl) (by kernel_rfl) tie39

/- F.mallowlaw9_same -/
noncomputable def C14 : Entry := fun args w K Kp => unArgs [.one (.ptr), .one (.ptr), .one (.int .i64)] args.toList fun x => F.mallowlaw9_same env x.1 x.2.1 x.2.2.1 (fun r1 w' => K (.bool r1) w') w
noncomputable def body14 : Code := (Go.Proofs.Try.f14.body).getD .skip
def ann14 : Ann := { loops := [(8, [(10, .one (.int .i64))]), (11, [(11, .one (.int .i64))]), (16, [(12, .one (.int .i64))])], joins := [(2, [(29, .one (.bool))]), (6, [(42, .one (.bool))]), (22, [(110, .one (.bool))])] }
theorem tie14 (x : ArgsV [.one (.ptr), .one (.ptr), .one (.int .i64)]) (K Kp : Value → World → Prop) (w : World) : F.mallowlaw9_same env x.1 x.2.1 x.2.2.1 (fun r1 w' => K (.bool r1) w') w =
    ev Go.Proofs.Try.prog (tabC [(23, C23), (35, C35), (36, C36), (37, C37), (38, C38), (39, C39), (34, C34), (9, C9), (33, C33)]) (ground Go.Proofs.Try.prog) ann14 body14 (finQ Go.Proofs.Try.prog Go.Proofs.Try.f14 K Kp) (initF (mkArgs [.one (.ptr), .one (.ptr), .one (.int .i64)] x)) w := by kernel_rfl
theorem fits14 : FitsOne Go.Proofs.Try.prog 14 C14 :=
  fits_of_tie (T := [(23, C23), (35, C35), (36, C36), (37, C37), (38, C38), (39, C39), (34, C34), (9, C9), (33, C33)]) (A := ann14) (fn := Go.Proofs.Try.f14) (c := body14) (fits_cons fits23 (fits_cons fits35 (fits_cons fits36 (fits_cons fits37 (fits_cons fits38 (fits_cons fits39 (fits_cons fits34 (fits_cons fits9 (fits_cons fits33 fits_nil))))))))) mixed Go.Proofs.Try.func14 Go.Proofs.Try.call14 (by kernel_rfl) (by kernel_rfl) (by kernel_rfl) tie14

/- F.mallowlaw9_RadixPlays -/
noncomputable def C4 : Entry := fun args w K Kp => unArgs [.one (.sl)] args.toList fun x => F.mallowlaw9_RadixPlays env x.1 (fun r1 w' => K (.bool r1) w') w
noncomputable def body4 : Code := (Go.Proofs.Try.f4.body).getD .skip
def ann4 : Ann := { loops := [(8, [(5, .one (.int .i64))])], joins := [(11, [(37, .one (.bool))])] }
theorem tie4 (x : ArgsV [.one (.sl)]) (K Kp : Value → World → Prop) (w : World) : F.mallowlaw9_RadixPlays env x.1 (fun r1 w' => K (.bool r1) w') w =
    ev Go.Proofs.Try.prog (tabC [(12, C12), (6, C6), (13, C13), (14, C14), (11, C11)]) (ground Go.Proofs.Try.prog) ann4 body4 (finQ Go.Proofs.Try.prog Go.Proofs.Try.f4 K Kp) (initF (mkArgs [.one (.sl)] x)) w := by kernel_rfl
theorem fits4 : FitsOne Go.Proofs.Try.prog 4 C4 :=
  fits_of_tie (T := [(12, C12), (6, C6), (13, C13), (14, C14), (11, C11)]) (A := ann4) (fn := Go.Proofs.Try.f4) (c := body4) (fits_cons fits12 (fits_cons fits6 (fits_cons fits13 (fits_cons fits14 (fits_cons fits11 fits_nil))))) mixed Go.Proofs.Try.func4 Go.Proofs.Try.call4 (by kernel_rfl) (by kernel_rfl) (by kernel_rfl) tie4

/- F.mallowlaw9_RadixApart -/
noncomputable def C5 : Entry := fun args w K Kp => unArgs [.one (.sl), .one (.sl)] args.toList fun x => F.mallowlaw9_RadixApart env x.1 x.2.1 (fun r1 w' => K (.bool r1) w') w
noncomputable def body5 : Code := (Go.Proofs.Try.f5.body).getD .skip
def ann5 : Ann := { loops := [(8, [(9, .one (.int .i64))])], joins := [(6, [(23, .one (.bool))]), (11, [(39, .one (.bool))])] }
theorem tie5 (x : ArgsV [.one (.sl), .one (.sl)]) (K Kp : Value → World → Prop) (w : World) : F.mallowlaw9_RadixApart env x.1 x.2.1 (fun r1 w' => K (.bool r1) w') w =
    ev Go.Proofs.Try.prog (tabC [(12, C12), (6, C6), (13, C13), (14, C14), (11, C11)]) (ground Go.Proofs.Try.prog) ann5 body5 (finQ Go.Proofs.Try.prog Go.Proofs.Try.f5 K Kp) (initF (mkArgs [.one (.sl), .one (.sl)] x)) w := by kernel_rfl
theorem fits5 : FitsOne Go.Proofs.Try.prog 5 C5 :=
  fits_of_tie (T := [(12, C12), (6, C6), (13, C13), (14, C14), (11, C11)]) (A := ann5) (fn := Go.Proofs.Try.f5) (c := body5) (fits_cons fits12 (fits_cons fits6 (fits_cons fits13 (fits_cons fits14 (fits_cons fits11 fits_nil))))) mixed Go.Proofs.Try.func5 Go.Proofs.Try.call5 (by kernel_rfl) (by kernel_rfl) (by kernel_rfl) tie5

/- F.stretch_Set_at_1 -/
noncomputable def C60 : Entry := fun args w K Kp => unArgs [.one (.int .i64), .one (.ptr), .one (.ptr)] args.toList fun x => F.stretch_Set_at_1 env x.1 x.2.1 x.2.2.1 (fun r1 w' => K (.bool r1) w') w
noncomputable def body60 : Code := (Go.Proofs.Try.f60.body).getD .skip
def ann60 : Ann := { loops := [], joins := [] }
theorem tie60 (x : ArgsV [.one (.int .i64), .one (.ptr), .one (.ptr)]) (K Kp : Value → World → Prop) (w : World) : F.stretch_Set_at_1 env x.1 x.2.1 x.2.2.1 (fun r1 w' => K (.bool r1) w') w =
    ev Go.Proofs.Try.prog (tabC []) (ground Go.Proofs.Try.prog) ann60 body60 (finQ Go.Proofs.Try.prog Go.Proofs.Try.f60 K Kp) (initF (mkArgs [.one (.int .i64), .one (.ptr), .one (.ptr)] x)) w := by kernel_rfl
theorem fits60 : FitsOne Go.Proofs.Try.prog 60 C60 :=
  fits_of_tie (T := []) (A := ann60) (fn := Go.Proofs.Try.f60) (c := body60) fits_nil mixed Go.Proofs.Try.func60 Go.Proofs.Try.call60 (by kernel_rfl) (by kernel_rfl) (by kernel_rfl) tie60

end Go.Sh

set_option linter.all false
namespace Go.Sh

theorem at1_mono {E : Env} {i : Int} {p1 p2 : Option Addr} {w : World} {K K' : Bool → World → Prop} (hk : ∀ b w', K b w' → K' b w') (h : F.stretch_Set_at_1 E i p1 p2 K w) : F.stretch_Set_at_1 E i p1 p2 K' w := by
  unfold F.stretch_Set_at_1 at h ⊢
  obtain ⟨q1, rfl, x2, h2, h⟩ := NC_elim h
  obtain ⟨q3, rfl, x4, h4, h⟩ := NC_elim h
  obtain ⟨q5, h5, hi, x6, h6, h⟩ := NC_elim h
  obtain ⟨q7, rfl, x8, h8, h⟩ := NC_elim h
  refine ⟨some q3, h2, x4, h4, ?_⟩
  rw [h5]
  exact ⟨hi, x6, h6, x8, h8, hk _ _ h⟩

theorem ground_mono {P : Program} (g : FuncId) (args : Array Value) (w : World) (K K' : Value → World → Prop) (hk : ∀ v w', K v w' → K' v w') (h : ground P g args w K noP) : ground P g args w K' noP :=
  ⟨h.1, h.2.mono fun e w' hE => let ⟨v, hv, h⟩ := hE.val; .inl ⟨v, hv, hk v w' h⟩⟩

end Go.Sh

set_option linter.all false
namespace Go.Sh
open Go.Proofs

theorem envS : EnvS env where
  at1 := by
    intro i p1 p2 K w h
    refine ⟨(fits60 #[.int .i64 i, .pointer p1, .pointer p2] w (fun v w' => ∃ b, v = .bool b ∧ K b w') noP ?_).1, (fits60 #[.int .i64 i, .pointer p1, .pointer p2] w (fun v w' => ∃ b, v = .bool b ∧ K b w') noP ?_).2⟩ <;>
    exact (show F.stretch_Set_at_1 env i p1 p2 (fun b w' => ∃ b', Value.bool b = .bool b' ∧ K b' w') w from at1_mono (fun b w' h => ⟨b, rfl, h⟩) h)
  mono := ground_mono

end Go.Sh
