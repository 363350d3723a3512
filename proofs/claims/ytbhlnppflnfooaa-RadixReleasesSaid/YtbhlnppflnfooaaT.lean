/- Each shallow form is what the code of its function comes to. No further condition. -/
import Derived.Test.YtbhlnppflnfooaaF
import Derived.Test.YtbhlnppflnfooaaProg
import Derived.KernelRfl
import Derived.Test.YtbhlnppflnfooaaS
import Derived.Test.YtbhlnppflnfooaaA
import Derived.Calls
set_option linter.all false
set_option maxRecDepth 100000
set_option maxHeartbeats 4000000
namespace Go.Sh
open Go.Proofs

theorem mixed : Go.Proofs.Try.prog.follows .mixedOrders = true := by kernel_rfl
noncomputable def env : Env := { call := ground Go.Proofs.Try.prog, t_map_uint64_api_Sum := 69, t_radix_Tree := 57, t__stretch_Set := 66, t_uint64 := 22, t_stretch_One := 62, t_api_Sum := 45, t_bool := 4, f_stretch_Set_at_1 := 35 }

/- F.radix_Tree_changed -/
noncomputable def C22 : Entry := fun args w K => unArgs [.one (.ptr)] args.toList fun x => F.radix_Tree_changed env x.1 (fun  w' => K (.tuple ⟨[]⟩) w') w
noncomputable def body22 : Code := (Go.Proofs.Try.f22.body).getD .skip
def ann22 : Ann := { loops := [(2, [(5, .one (.int .i64))])], joins := [] }
theorem tie22 (x : ArgsV [.one (.ptr)]) (K : Value → World → Prop) (w : World) : F.radix_Tree_changed env x.1 (fun  w' => K (.tuple ⟨[]⟩) w') w =
    ev Go.Proofs.Try.prog (tabC []) (ground Go.Proofs.Try.prog) ann22 body22 (finQ Go.Proofs.Try.prog Go.Proofs.Try.f22 K) (initF (mkArgs [.one (.ptr)] x)) w := by kernel_rfl
theorem fits22 : FitsOne Go.Proofs.Try.prog 22 C22 :=
  fits_of_tie (T := []) (A := ann22) (fn := Go.Proofs.Try.f22) (c := body22) fits_nil mixed Go.Proofs.Try.func22 Go.Proofs.Try.call22 (by kernel_rfl) (by kernel_rfl) (by kernel_rfl) tie22

/- F.radix_New -/
noncomputable def C9 : Entry := fun args w K => unArgs [] args.toList fun x => F.radix_New env  (fun r1 w' => K (.pointer r1) w') w
noncomputable def body9 : Code := (Go.Proofs.Try.f9.body).getD .skip
def ann9 : Ann := { loops := [], joins := [] }
theorem tie9 (x : ArgsV []) (K : Value → World → Prop) (w : World) : F.radix_New env  (fun r1 w' => K (.pointer r1) w') w =
    ev Go.Proofs.Try.prog (tabC [(22, C22)]) (ground Go.Proofs.Try.prog) ann9 body9 (finQ Go.Proofs.Try.prog Go.Proofs.Try.f9 K) (initF (mkArgs [] x)) w := by kernel_rfl
theorem fits9 : FitsOne Go.Proofs.Try.prog 9 C9 :=
  fits_of_tie (T := [(22, C22)]) (A := ann9) (fn := Go.Proofs.Try.f9) (c := body9) (fits_cons fits22 fits_nil) mixed Go.Proofs.Try.func9 Go.Proofs.Try.call9 (by kernel_rfl) (by kernel_rfl) (by kernel_rfl) tie9

/- F.sort_Search -/
noncomputable def C34 : Entry := fun args w K => unArgs [.one (.int .i64), .one (.any)] args.toList fun x => F.sort_Search env x.1 x.2.1 (fun r1 w' => K (.int .i64 r1) w') w
noncomputable def body34 : Code := (Go.Proofs.Try.f34.body).getD .skip
def ann34 : Ann := { loops := [(2, [(5, .one (.int .i64)), (6, .one (.int .i64))])], joins := [] }
theorem tie34 (x : ArgsV [.one (.int .i64), .one (.any)]) (K : Value → World → Prop) (w : World) : F.sort_Search env x.1 x.2.1 (fun r1 w' => K (.int .i64 r1) w') w =
    ev Go.Proofs.Try.prog (tabC []) (ground Go.Proofs.Try.prog) ann34 body34 (finQ Go.Proofs.Try.prog Go.Proofs.Try.f34 K) (initF (mkArgs [.one (.int .i64), .one (.any)] x)) w := by kernel_rfl
theorem fits34 : FitsOne Go.Proofs.Try.prog 34 C34 :=
  fits_of_tie (T := []) (A := ann34) (fn := Go.Proofs.Try.f34) (c := body34) fits_nil mixed Go.Proofs.Try.func34 Go.Proofs.Try.call34 (by kernel_rfl) (by kernel_rfl) (by kernel_rfl) tie34

/- F.stretch_Set_at -/
noncomputable def C33 : Entry := fun args w K => unArgs [.one (.ptr), .one (.int .u64)] args.toList fun x => F.stretch_Set_at env x.1 x.2.1 (fun r1 w' => K (.int .i64 r1) w') w
noncomputable def body33 : Code := (Go.Proofs.Try.f33.body).getD .skip
def ann33 : Ann := { loops := [], joins := [] }
theorem tie33 (x : ArgsV [.one (.ptr), .one (.int .u64)]) (K : Value → World → Prop) (w : World) : F.stretch_Set_at env x.1 x.2.1 (fun r1 w' => K (.int .i64 r1) w') w =
    ev Go.Proofs.Try.prog (tabC [(34, C34)]) (ground Go.Proofs.Try.prog) ann33 body33 (finQ Go.Proofs.Try.prog Go.Proofs.Try.f33 K) (initF (mkArgs [.one (.ptr), .one (.int .u64)] x)) w := by kernel_rfl
theorem fits33 : FitsOne Go.Proofs.Try.prog 33 C33 :=
  fits_of_tie (T := [(34, C34)]) (A := ann33) (fn := Go.Proofs.Try.f33) (c := body33) (fits_cons fits34 fits_nil) mixed Go.Proofs.Try.func33 Go.Proofs.Try.call33 (by kernel_rfl) (by kernel_rfl) (by kernel_rfl) tie33

/- F.stretch_Set_Count -/
noncomputable def C23 : Entry := fun args w K => unArgs [.one (.ptr), .one (.int .u64), .one (.int .u64)] args.toList fun x => F.stretch_Set_Count env x.1 x.2.1 x.2.2.1 (fun r1 w' => K (.int .u64 r1) w') w
noncomputable def body23 : Code := (Go.Proofs.Try.f23.body).getD .skip
def ann23 : Ann := { loops := [(3, [(7, .one (.int .u64)), (8, .one (.int .i64))])], joins := [] }
theorem tie23 (x : ArgsV [.one (.ptr), .one (.int .u64), .one (.int .u64)]) (K : Value → World → Prop) (w : World) : F.stretch_Set_Count env x.1 x.2.1 x.2.2.1 (fun r1 w' => K (.int .u64 r1) w') w =
    ev Go.Proofs.Try.prog (tabC [(33, C33)]) (ground Go.Proofs.Try.prog) ann23 body23 (finQ Go.Proofs.Try.prog Go.Proofs.Try.f23 K) (initF (mkArgs [.one (.ptr), .one (.int .u64), .one (.int .u64)] x)) w := by kernel_rfl
theorem fits23 : FitsOne Go.Proofs.Try.prog 23 C23 :=
  fits_of_tie (T := [(33, C33)]) (A := ann23) (fn := Go.Proofs.Try.f23) (c := body23) (fits_cons fits33 fits_nil) mixed Go.Proofs.Try.func23 Go.Proofs.Try.call23 (by kernel_rfl) (by kernel_rfl) (by kernel_rfl) tie23

/- F.stretch_Set_Cut -/
noncomputable def C27 : Entry := fun args w K => unArgs [.one (.ptr), .one (.int .u64), .one (.int .u64)] args.toList fun x => F.stretch_Set_Cut env x.1 x.2.1 x.2.2.1 (fun  w' => K (.tuple ⟨[]⟩) w') w
noncomputable def body27 : Code := (Go.Proofs.Try.f27.body).getD .skip
def ann27 : Ann := { loops := [(5, [(7, .one (.int .i64)), (8, .one (.sl))])], joins := [(10, [(8, .one (.sl))]), (12, [(7, .one (.int .i64)), (8, .one (.sl))])] }
theorem tie27 (x : ArgsV [.one (.ptr), .one (.int .u64), .one (.int .u64)]) (K : Value → World → Prop) (w : World) : F.stretch_Set_Cut env x.1 x.2.1 x.2.2.1 (fun  w' => K (.tuple ⟨[]⟩) w') w =
    ev Go.Proofs.Try.prog (tabC [(23, C23), (33, C33)]) (ground Go.Proofs.Try.prog) ann27 body27 (finQ Go.Proofs.Try.prog Go.Proofs.Try.f27 K) (initF (mkArgs [.one (.ptr), .one (.int .u64), .one (.int .u64)] x)) w := by kernel_rfl
theorem fits27 : FitsOne Go.Proofs.Try.prog 27 C27 :=
  fits_of_tie (T := [(23, C23), (33, C33)]) (A := ann27) (fn := Go.Proofs.Try.f27) (c := body27) (fits_cons fits23 (fits_cons fits33 fits_nil)) mixed Go.Proofs.Try.func27 Go.Proofs.Try.call27 (by kernel_rfl) (by kernel_rfl) (by kernel_rfl) tie27

/- F.stretch_Set_Add -/
noncomputable def C24 : Entry := fun args w K => unArgs [.one (.ptr), .one (.int .u64), .one (.int .u64)] args.toList fun x => F.stretch_Set_Add env x.1 x.2.1 x.2.2.1 (fun  w' => K (.tuple ⟨[]⟩) w') w
noncomputable def body24 : Code := (Go.Proofs.Try.f24.body).getD .skip
def ann24 : Ann := { loops := [], joins := [(7, [(51, .one (.bool))]), (9, [(8, .one (.int .i64))]), (10, [(77, .one (.bool))]), (12, [(6, .one (.int .i64))])] }
theorem tie24 (x : ArgsV [.one (.ptr), .one (.int .u64), .one (.int .u64)]) (K : Value → World → Prop) (w : World) : F.stretch_Set_Add env x.1 x.2.1 x.2.2.1 (fun  w' => K (.tuple ⟨[]⟩) w') w =
    ev Go.Proofs.Try.prog (tabC [(27, C27), (33, C33)]) (ground Go.Proofs.Try.prog) ann24 body24 (finQ Go.Proofs.Try.prog Go.Proofs.Try.f24 K) (initF (mkArgs [.one (.ptr), .one (.int .u64), .one (.int .u64)] x)) w := by kernel_rfl
theorem fits24 : FitsOne Go.Proofs.Try.prog 24 C24 :=
  fits_of_tie (T := [(27, C27), (33, C33)]) (A := ann24) (fn := Go.Proofs.Try.f24) (c := body24) (fits_cons fits27 (fits_cons fits33 fits_nil)) mixed Go.Proofs.Try.func24 Go.Proofs.Try.call24 (by kernel_rfl) (by kernel_rfl) (by kernel_rfl) tie24

/- F.radix_Tree_Grow -/
noncomputable def C10 : Entry := fun args w K => unArgs [.one (.ptr), .one (.int .u64), .one (.int .u64)] args.toList fun x => F.radix_Tree_Grow env x.1 x.2.1 x.2.2.1 (fun r1 w' => K (.int .i64 r1) w') w
noncomputable def body10 : Code := (Go.Proofs.Try.f10.body).getD .skip
def ann10 : Ann := { loops := [], joins := [(2, [(24, .one (.bool))])] }
theorem tie10 (x : ArgsV [.one (.ptr), .one (.int .u64), .one (.int .u64)]) (K : Value → World → Prop) (w : World) : F.radix_Tree_Grow env x.1 x.2.1 x.2.2.1 (fun r1 w' => K (.int .i64 r1) w') w =
    ev Go.Proofs.Try.prog (tabC [(23, C23), (24, C24), (22, C22)]) (ground Go.Proofs.Try.prog) ann10 body10 (finQ Go.Proofs.Try.prog Go.Proofs.Try.f10 K) (initF (mkArgs [.one (.ptr), .one (.int .u64), .one (.int .u64)] x)) w := by kernel_rfl
theorem fits10 : FitsOne Go.Proofs.Try.prog 10 C10 :=
  fits_of_tie (T := [(23, C23), (24, C24), (22, C22)]) (A := ann10) (fn := Go.Proofs.Try.f10) (c := body10) (fits_cons fits23 (fits_cons fits24 (fits_cons fits22 fits_nil))) mixed Go.Proofs.Try.func10 Go.Proofs.Try.call10 (by kernel_rfl) (by kernel_rfl) (by kernel_rfl) tie10

/- F.stretch_Set_All -/
noncomputable def C25 : Entry := fun args w K => unArgs [.one (.ptr)] args.toList fun x => F.stretch_Set_All env x.1 (fun r1 w' => K (.slice r1.base r1.len r1.cap) w') w
noncomputable def body25 : Code := (Go.Proofs.Try.f25.body).getD .skip
def ann25 : Ann := { loops := [], joins := [] }
theorem tie25 (x : ArgsV [.one (.ptr)]) (K : Value → World → Prop) (w : World) : F.stretch_Set_All env x.1 (fun r1 w' => K (.slice r1.base r1.len r1.cap) w') w =
    ev Go.Proofs.Try.prog (tabC []) (ground Go.Proofs.Try.prog) ann25 body25 (finQ Go.Proofs.Try.prog Go.Proofs.Try.f25 K) (initF (mkArgs [.one (.ptr)] x)) w := by kernel_rfl
theorem fits25 : FitsOne Go.Proofs.Try.prog 25 C25 :=
  fits_of_tie (T := []) (A := ann25) (fn := Go.Proofs.Try.f25) (c := body25) fits_nil mixed Go.Proofs.Try.func25 Go.Proofs.Try.call25 (by kernel_rfl) (by kernel_rfl) (by kernel_rfl) tie25

/- F.radix_Tree_Find -/
noncomputable def C11 : Entry := fun args w K => unArgs [.one (.ptr), .one (.int .u64)] args.toList fun x => F.radix_Tree_Find env x.1 x.2.1 (fun r1 r2 w' => K (.tuple ⟨[.int .u64 r1, .bool r2]⟩) w') w
noncomputable def body11 : Code := (Go.Proofs.Try.f11.body).getD .skip
def ann11 : Ann := { loops := [(4, [(15, .one (.int .i64))])], joins := [] }
theorem tie11 (x : ArgsV [.one (.ptr), .one (.int .u64)]) (K : Value → World → Prop) (w : World) : F.radix_Tree_Find env x.1 x.2.1 (fun r1 r2 w' => K (.tuple ⟨[.int .u64 r1, .bool r2]⟩) w') w =
    ev Go.Proofs.Try.prog (tabC [(25, C25)]) (ground Go.Proofs.Try.prog) ann11 body11 (finQ Go.Proofs.Try.prog Go.Proofs.Try.f11 K) (initF (mkArgs [.one (.ptr), .one (.int .u64)] x)) w := by kernel_rfl
theorem fits11 : FitsOne Go.Proofs.Try.prog 11 C11 :=
  fits_of_tie (T := [(25, C25)]) (A := ann11) (fn := Go.Proofs.Try.f11) (c := body11) (fits_cons fits25 fits_nil) mixed Go.Proofs.Try.func11 Go.Proofs.Try.call11 (by kernel_rfl) (by kernel_rfl) (by kernel_rfl) tie11

/- F.radix_Tree_looked -/
noncomputable def C26 : Entry := fun args w K => unArgs [.one (.ptr), .one (.int .u64), .one (.int .u64), .one (.bool), .one (.int .i64)] args.toList fun x => F.radix_Tree_looked env x.1 x.2.1 x.2.2.1 x.2.2.2.1 x.2.2.2.2.1 (fun r1 w' => K (.int .i64 r1) w') w
noncomputable def body26 : Code := (Go.Proofs.Try.f26.body).getD .skip
def ann26 : Ann := { loops := [], joins := [(4, [(11, .one (.int .u64))]), (5, [(14, .one (.bool))])] }
theorem tie26 (x : ArgsV [.one (.ptr), .one (.int .u64), .one (.int .u64), .one (.bool), .one (.int .i64)]) (K : Value → World → Prop) (w : World) : F.radix_Tree_looked env x.1 x.2.1 x.2.2.1 x.2.2.2.1 x.2.2.2.2.1 (fun r1 w' => K (.int .i64 r1) w') w =
    ev Go.Proofs.Try.prog (tabC [(23, C23)]) (ground Go.Proofs.Try.prog) ann26 body26 (finQ Go.Proofs.Try.prog Go.Proofs.Try.f26 K) (initF (mkArgs [.one (.ptr), .one (.int .u64), .one (.int .u64), .one (.bool), .one (.int .i64)] x)) w := by kernel_rfl
theorem fits26 : FitsOne Go.Proofs.Try.prog 26 C26 :=
  fits_of_tie (T := [(23, C23)]) (A := ann26) (fn := Go.Proofs.Try.f26) (c := body26) (fits_cons fits23 fits_nil) mixed Go.Proofs.Try.func26 Go.Proofs.Try.call26 (by kernel_rfl) (by kernel_rfl) (by kernel_rfl) tie26

/- F.radix_Tree_Take -/
noncomputable def C13 : Entry := fun args w K => unArgs [.one (.ptr), .one (.int .u64), .one (.int .u64)] args.toList fun x => F.radix_Tree_Take env x.1 x.2.1 x.2.2.1 (fun r1 r2 w' => K (.tuple ⟨[.int .u64 r1, .int .i64 r2]⟩) w') w
noncomputable def body13 : Code := (Go.Proofs.Try.f13.body).getD .skip
def ann13 : Ann := { loops := [], joins := [] }
theorem tie13 (x : ArgsV [.one (.ptr), .one (.int .u64), .one (.int .u64)]) (K : Value → World → Prop) (w : World) : F.radix_Tree_Take env x.1 x.2.1 x.2.2.1 (fun r1 r2 w' => K (.tuple ⟨[.int .u64 r1, .int .i64 r2]⟩) w') w =
    ev Go.Proofs.Try.prog (tabC [(26, C26), (23, C23), (27, C27), (22, C22)]) (ground Go.Proofs.Try.prog) ann13 body13 (finQ Go.Proofs.Try.prog Go.Proofs.Try.f13 K) (initF (mkArgs [.one (.ptr), .one (.int .u64), .one (.int .u64)] x)) w := by kernel_rfl
theorem fits13 : FitsOne Go.Proofs.Try.prog 13 C13 :=
  fits_of_tie (T := [(26, C26), (23, C23), (27, C27), (22, C22)]) (A := ann13) (fn := Go.Proofs.Try.f13) (c := body13) (fits_cons fits26 (fits_cons fits23 (fits_cons fits27 (fits_cons fits22 fits_nil)))) mixed Go.Proofs.Try.func13 Go.Proofs.Try.call13 (by kernel_rfl) (by kernel_rfl) (by kernel_rfl) tie13

/- F.radix_Tree_Alloc -/
noncomputable def C12 : Entry := fun args w K => unArgs [.one (.ptr), .one (.int .u64)] args.toList fun x => F.radix_Tree_Alloc env x.1 x.2.1 (fun r1 r2 r3 w' => K (.tuple ⟨[.int .u64 r1, .int .u64 r2, .int .i64 r3]⟩) w') w
noncomputable def body12 : Code := (Go.Proofs.Try.f12.body).getD .skip
def ann12 : Ann := { loops := [], joins := [] }
theorem tie12 (x : ArgsV [.one (.ptr), .one (.int .u64)]) (K : Value → World → Prop) (w : World) : F.radix_Tree_Alloc env x.1 x.2.1 (fun r1 r2 r3 w' => K (.tuple ⟨[.int .u64 r1, .int .u64 r2, .int .i64 r3]⟩) w') w =
    ev Go.Proofs.Try.prog (tabC [(11, C11), (13, C13)]) (ground Go.Proofs.Try.prog) ann12 body12 (finQ Go.Proofs.Try.prog Go.Proofs.Try.f12 K) (initF (mkArgs [.one (.ptr), .one (.int .u64)] x)) w := by kernel_rfl
theorem fits12 : FitsOne Go.Proofs.Try.prog 12 C12 :=
  fits_of_tie (T := [(11, C11), (13, C13)]) (A := ann12) (fn := Go.Proofs.Try.f12) (c := body12) (fits_cons fits11 (fits_cons fits13 fits_nil)) mixed Go.Proofs.Try.func12 Go.Proofs.Try.call12 (by kernel_rfl) (by kernel_rfl) (by kernel_rfl) tie12

/- F.stretch_Set_Sum -/
noncomputable def C28 : Entry := fun args w K => unArgs [.one (.ptr)] args.toList fun x => F.stretch_Set_Sum env x.1 (fun r1 w' => K (.int .u64 r1) w') w
noncomputable def body28 : Code := (Go.Proofs.Try.f28.body).getD .skip
def ann28 : Ann := { loops := [], joins := [] }
theorem tie28 (x : ArgsV [.one (.ptr)]) (K : Value → World → Prop) (w : World) : F.stretch_Set_Sum env x.1 (fun r1 w' => K (.int .u64 r1) w') w =
    ev Go.Proofs.Try.prog (tabC []) (ground Go.Proofs.Try.prog) ann28 body28 (finQ Go.Proofs.Try.prog Go.Proofs.Try.f28 K) (initF (mkArgs [.one (.ptr)] x)) w := by kernel_rfl
theorem fits28 : FitsOne Go.Proofs.Try.prog 28 C28 :=
  fits_of_tie (T := []) (A := ann28) (fn := Go.Proofs.Try.f28) (c := body28) fits_nil mixed Go.Proofs.Try.func28 Go.Proofs.Try.call28 (by kernel_rfl) (by kernel_rfl) (by kernel_rfl) tie28

/- F.radix_Tree_Free -/
noncomputable def C14 : Entry := fun args w K => unArgs [.one (.ptr)] args.toList fun x => F.radix_Tree_Free env x.1 (fun r1 w' => K (.int .u64 r1) w') w
noncomputable def body14 : Code := (Go.Proofs.Try.f14.body).getD .skip
def ann14 : Ann := { loops := [], joins := [] }
theorem tie14 (x : ArgsV [.one (.ptr)]) (K : Value → World → Prop) (w : World) : F.radix_Tree_Free env x.1 (fun r1 w' => K (.int .u64 r1) w') w =
    ev Go.Proofs.Try.prog (tabC [(28, C28)]) (ground Go.Proofs.Try.prog) ann14 body14 (finQ Go.Proofs.Try.prog Go.Proofs.Try.f14 K) (initF (mkArgs [.one (.ptr)] x)) w := by kernel_rfl
theorem fits14 : FitsOne Go.Proofs.Try.prog 14 C14 :=
  fits_of_tie (T := [(28, C28)]) (A := ann14) (fn := Go.Proofs.Try.f14) (c := body14) (fits_cons fits28 fits_nil) mixed Go.Proofs.Try.func14 Go.Proofs.Try.call14 (by kernel_rfl) (by kernel_rfl) (by kernel_rfl) tie14

/- F.radix_pages -/
noncomputable def C31 : Entry := fun args w K => unArgs [.one (.int .i64)] args.toList fun x => F.radix_pages env x.1 (fun r1 w' => K (.int .u64 r1) w') w
noncomputable def body31 : Code := (Go.Proofs.Try.f31.body).getD .skip
def ann31 : Ann := { loops := [(3, [(3, .one (.int .u64)), (6, .one (.int .i64))])], joins := [] }
theorem tie31 (x : ArgsV [.one (.int .i64)]) (K : Value → World → Prop) (w : World) : F.radix_pages env x.1 (fun r1 w' => K (.int .u64 r1) w') w =
    ev Go.Proofs.Try.prog (tabC []) (ground Go.Proofs.Try.prog) ann31 body31 (finQ Go.Proofs.Try.prog Go.Proofs.Try.f31 K) (initF (mkArgs [.one (.int .i64)] x)) w := by kernel_rfl
theorem fits31 : FitsOne Go.Proofs.Try.prog 31 C31 :=
  fits_of_tie (T := []) (A := ann31) (fn := Go.Proofs.Try.f31) (c := body31) fits_nil mixed Go.Proofs.Try.func31 Go.Proofs.Try.call31 (by kernel_rfl) (by kernel_rfl) (by kernel_rfl) tie31

/- F.stretch_Set_Within -/
noncomputable def C32 : Entry := fun args w K => unArgs [.one (.ptr), .one (.int .u64), .one (.int .u64)] args.toList fun x => F.stretch_Set_Within env x.1 x.2.1 x.2.2.1 (fun r1 w' => K (.slice r1.base r1.len r1.cap) w') w
noncomputable def body32 : Code := (Go.Proofs.Try.f32.body).getD .skip
def ann32 : Ann := { loops := [(3, [(7, .one (.sl)), (8, .one (.int .i64))])], joins := [] }
theorem tie32 (x : ArgsV [.one (.ptr), .one (.int .u64), .one (.int .u64)]) (K : Value → World → Prop) (w : World) : F.stretch_Set_Within env x.1 x.2.1 x.2.2.1 (fun r1 w' => K (.slice r1.base r1.len r1.cap) w') w =
    ev Go.Proofs.Try.prog (tabC [(33, C33)]) (ground Go.Proofs.Try.prog) ann32 body32 (finQ Go.Proofs.Try.prog Go.Proofs.Try.f32 K) (initF (mkArgs [.one (.ptr), .one (.int .u64), .one (.int .u64)] x)) w := by kernel_rfl
theorem fits32 : FitsOne Go.Proofs.Try.prog 32 C32 :=
  fits_of_tie (T := [(33, C33)]) (A := ann32) (fn := Go.Proofs.Try.f32) (c := body32) (fits_cons fits33 fits_nil) mixed Go.Proofs.Try.func32 Go.Proofs.Try.call32 (by kernel_rfl) (by kernel_rfl) (by kernel_rfl) tie32

/- F.radix_Tree_Sum -/
noncomputable def C20 : Entry := fun args w K => unArgs [.one (.ptr), .one (.int .i64), .one (.int .u64)] args.toList fun x => F.radix_Tree_Sum env x.1 x.2.1 x.2.2.1 (fun r1 r2 r3 r4 w' => K (.tuple ⟨[.agg ⟨[.int .i64 r1, .int .i64 r2, .int .i64 r3]⟩, .int .i64 r4]⟩) w') w
noncomputable def body20 : Code := (Go.Proofs.Try.f20.body).getD .skip
def ann20 : Ann := { loops := [(10, [(59, .one (.int .i64))])], joins := [(2, [(28, .one (.bool))]), (16, [])] }
theorem tie20 (x : ArgsV [.one (.ptr), .one (.int .i64), .one (.int .u64)]) (K : Value → World → Prop) (w : World) : F.radix_Tree_Sum env x.1 x.2.1 x.2.2.1 (fun r1 r2 r3 r4 w' => K (.tuple ⟨[.agg ⟨[.int .i64 r1, .int .i64 r2, .int .i64 r3]⟩, .int .i64 r4]⟩) w') w =
    ev Go.Proofs.Try.prog (tabC [(31, C31), (32, C32)]) (ground Go.Proofs.Try.prog) ann20 body20 (finQ Go.Proofs.Try.prog Go.Proofs.Try.f20 K) (initF (mkArgs [.one (.ptr), .one (.int .i64), .one (.int .u64)] x)) w := by kernel_rfl
theorem fits20 : FitsOne Go.Proofs.Try.prog 20 C20 :=
  fits_of_tie (T := [(31, C31), (32, C32)]) (A := ann20) (fn := Go.Proofs.Try.f20) (c := body20) (fits_cons fits31 (fits_cons fits32 fits_nil)) mixed Go.Proofs.Try.func20 Go.Proofs.Try.call20 (by kernel_rfl) (by kernel_rfl) (by kernel_rfl) tie20

/- F.mallowlaw9_awake -/
noncomputable def C15 : Entry := fun args w K => unArgs [] args.toList fun x => F.mallowlaw9_awake env  (fun r1 w' => K (.bool r1) w') w
noncomputable def body15 : Code := (Go.Proofs.Try.f15.body).getD .skip
def ann15 : Ann := { loops := [], joins := [] }
theorem tie15 (x : ArgsV []) (K : Value → World → Prop) (w : World) : F.mallowlaw9_awake env  (fun r1 w' => K (.bool r1) w') w =
    ev Go.Proofs.Try.prog (tabC [(9, C9), (10, C10), (12, C12), (11, C11), (20, C20), (14, C14)]) (ground Go.Proofs.Try.prog) ann15 body15 (finQ Go.Proofs.Try.prog Go.Proofs.Try.f15 K) (initF (mkArgs [] x)) w := by kernel_rfl
theorem fits15 : FitsOne Go.Proofs.Try.prog 15 C15 :=
  fits_of_tie (T := [(9, C9), (10, C10), (12, C12), (11, C11), (20, C20), (14, C14)]) (A := ann15) (fn := Go.Proofs.Try.f15) (c := body15) (fits_cons fits9 (fits_cons fits10 (fits_cons fits12 (fits_cons fits11 (fits_cons fits20 (fits_cons fits14 fits_nil)))))) mixed Go.Proofs.Try.func15 Go.Proofs.Try.call15 (by kernel_rfl) (by kernel_rfl) (by kernel_rfl) tie15

/- F.mallowlaw9_RadixGaps -/
noncomputable def C3 : Entry := fun args w K => unArgs [.one (.int .u64), .one (.bool), .one (.int .u64)] args.toList fun x => F.mallowlaw9_RadixGaps env x.1 x.2.1 x.2.2.1 (fun r1 w' => K (.bool r1) w') w
noncomputable def body3 : Code := (Go.Proofs.Try.f3.body).getD .skip
def ann3 : Ann := { loops := [], joins := [(2, [(29, .one (.bool))]), (9, [(8, .one (.int .u64))]), (10, [(47, .one (.bool))])] }
theorem tie3 (x : ArgsV [.one (.int .u64), .one (.bool), .one (.int .u64)]) (K : Value → World → Prop) (w : World) : F.mallowlaw9_RadixGaps env x.1 x.2.1 x.2.2.1 (fun r1 w' => K (.bool r1) w') w =
    ev Go.Proofs.Try.prog (tabC [(9, C9), (10, C10), (11, C11), (12, C12), (13, C13), (14, C14), (15, C15)]) (ground Go.Proofs.Try.prog) ann3 body3 (finQ Go.Proofs.Try.prog Go.Proofs.Try.f3 K) (initF (mkArgs [.one (.int .u64), .one (.bool), .one (.int .u64)] x)) w := by kernel_rfl
theorem fits3 : FitsOne Go.Proofs.Try.prog 3 C3 :=
  fits_of_tie (T := [(9, C9), (10, C10), (11, C11), (12, C12), (13, C13), (14, C14), (15, C15)]) (A := ann3) (fn := Go.Proofs.Try.f3) (c := body3) (fits_cons fits9 (fits_cons fits10 (fits_cons fits11 (fits_cons fits12 (fits_cons fits13 (fits_cons fits14 (fits_cons fits15 fits_nil))))))) mixed Go.Proofs.Try.func3 Go.Proofs.Try.call3 (by kernel_rfl) (by kernel_rfl) (by kernel_rfl) tie3

/- F.mallowlaw9_RadixEdges -/
noncomputable def C4 : Entry := fun args w K => unArgs [.one (.int .u64), .one (.int .u64)] args.toList fun x => F.mallowlaw9_RadixEdges env x.1 x.2.1 (fun r1 w' => K (.bool r1) w') w
noncomputable def body4 : Code := (Go.Proofs.Try.f4.body).getD .skip
def ann4 : Ann := { loops := [], joins := [(2, [(31, .one (.bool))]), (7, [(54, .one (.bool))]), (11, [(71, .one (.bool))])] }
theorem tie4 (x : ArgsV [.one (.int .u64), .one (.int .u64)]) (K : Value → World → Prop) (w : World) : F.mallowlaw9_RadixEdges env x.1 x.2.1 (fun r1 w' => K (.bool r1) w') w =
    ev Go.Proofs.Try.prog (tabC [(9, C9), (10, C10), (12, C12), (13, C13), (11, C11), (15, C15)]) (ground Go.Proofs.Try.prog) ann4 body4 (finQ Go.Proofs.Try.prog Go.Proofs.Try.f4 K) (initF (mkArgs [.one (.int .u64), .one (.int .u64)] x)) w := by kernel_rfl
theorem fits4 : FitsOne Go.Proofs.Try.prog 4 C4 :=
  fits_of_tie (T := [(9, C9), (10, C10), (12, C12), (13, C13), (11, C11), (15, C15)]) (A := ann4) (fn := Go.Proofs.Try.f4) (c := body4) (fits_cons fits9 (fits_cons fits10 (fits_cons fits12 (fits_cons fits13 (fits_cons fits11 (fits_cons fits15 fits_nil)))))) mixed Go.Proofs.Try.func4 Go.Proofs.Try.call4 (by kernel_rfl) (by kernel_rfl) (by kernel_rfl) tie4

/- F.radix_Tree_Released -/
noncomputable def C16 : Entry := fun args w K => unArgs [.one (.ptr)] args.toList fun x => F.radix_Tree_Released env x.1 (fun r1 w' => K (.int .u64 r1) w') w
noncomputable def body16 : Code := (Go.Proofs.Try.f16.body).getD .skip
def ann16 : Ann := { loops := [], joins := [] }
theorem tie16 (x : ArgsV [.one (.ptr)]) (K : Value → World → Prop) (w : World) : F.radix_Tree_Released env x.1 (fun r1 w' => K (.int .u64 r1) w') w =
    ev Go.Proofs.Try.prog (tabC [(28, C28)]) (ground Go.Proofs.Try.prog) ann16 body16 (finQ Go.Proofs.Try.prog Go.Proofs.Try.f16 K) (initF (mkArgs [.one (.ptr)] x)) w := by kernel_rfl
theorem fits16 : FitsOne Go.Proofs.Try.prog 16 C16 :=
  fits_of_tie (T := [(28, C28)]) (A := ann16) (fn := Go.Proofs.Try.f16) (c := body16) (fits_cons fits28 fits_nil) mixed Go.Proofs.Try.func16 Go.Proofs.Try.call16 (by kernel_rfl) (by kernel_rfl) (by kernel_rfl) tie16

/- F.stretch_Set_Has -/
noncomputable def C29 : Entry := fun args w K => unArgs [.one (.ptr), .one (.int .u64)] args.toList fun x => F.stretch_Set_Has env x.1 x.2.1 (fun r1 w' => K (.bool r1) w') w
noncomputable def body29 : Code := (Go.Proofs.Try.f29.body).getD .skip
def ann29 : Ann := { loops := [], joins := [] }
theorem tie29 (x : ArgsV [.one (.ptr), .one (.int .u64)]) (K : Value → World → Prop) (w : World) : F.stretch_Set_Has env x.1 x.2.1 (fun r1 w' => K (.bool r1) w') w =
    ev Go.Proofs.Try.prog (tabC [(33, C33)]) (ground Go.Proofs.Try.prog) ann29 body29 (finQ Go.Proofs.Try.prog Go.Proofs.Try.f29 K) (initF (mkArgs [.one (.ptr), .one (.int .u64)] x)) w := by kernel_rfl
theorem fits29 : FitsOne Go.Proofs.Try.prog 29 C29 :=
  fits_of_tie (T := [(33, C33)]) (A := ann29) (fn := Go.Proofs.Try.f29) (c := body29) (fits_cons fits33 fits_nil) mixed Go.Proofs.Try.func29 Go.Proofs.Try.call29 (by kernel_rfl) (by kernel_rfl) (by kernel_rfl) tie29

/- F.radix_Tree_State -/
noncomputable def C17 : Entry := fun args w K => unArgs [.one (.ptr), .one (.int .u64)] args.toList fun x => F.radix_Tree_State env x.1 x.2.1 (fun r1 r2 r3 w' => K (.tuple ⟨[.bool r1, .bool r2, .bool r3]⟩) w') w
noncomputable def body17 : Code := (Go.Proofs.Try.f17.body).getD .skip
def ann17 : Ann := { loops := [], joins := [] }
theorem tie17 (x : ArgsV [.one (.ptr), .one (.int .u64)]) (K : Value → World → Prop) (w : World) : F.radix_Tree_State env x.1 x.2.1 (fun r1 r2 r3 w' => K (.tuple ⟨[.bool r1, .bool r2, .bool r3]⟩) w') w =
    ev Go.Proofs.Try.prog (tabC [(29, C29)]) (ground Go.Proofs.Try.prog) ann17 body17 (finQ Go.Proofs.Try.prog Go.Proofs.Try.f17 K) (initF (mkArgs [.one (.ptr), .one (.int .u64)] x)) w := by kernel_rfl
theorem fits17 : FitsOne Go.Proofs.Try.prog 17 C17 :=
  fits_of_tie (T := [(29, C29)]) (A := ann17) (fn := Go.Proofs.Try.f17) (c := body17) (fits_cons fits29 fits_nil) mixed Go.Proofs.Try.func17 Go.Proofs.Try.call17 (by kernel_rfl) (by kernel_rfl) (by kernel_rfl) tie17

/- F.mallowlaw9_RadixTakes -/
noncomputable def C5 : Entry := fun args w K => unArgs [.one (.sl), .one (.sl)] args.toList fun x => F.mallowlaw9_RadixTakes env x.1 x.2.1 (fun r1 w' => K (.bool r1) w') w
noncomputable def body5 : Code := (Go.Proofs.Try.f5.body).getD .skip
def ann5 : Ann := { loops := [(9, [(7, .one (.int .u64)), (8, .one (.int .i64))]), (18, [(11, .one (.int .i64)), (12, .one (.int .u64))]), (26, [(13, .one (.int .u64))]), (33, [(14, .one (.int .u64))])], joins := [(2, [(25, .one (.bool))]), (5, [(33, .one (.bool))]), (12, [(58, .one (.bool))]), (16, [(89, .one (.bool))]), (22, [(11, .one (.int .i64))]), (23, [(133, .one (.bool))]), (30, [(7, .one (.int .u64))]), (31, [(171, .one (.bool))]), (32, []), (37, [(193, .one (.bool))])] }
theorem tie5 (x : ArgsV [.one (.sl), .one (.sl)]) (K : Value → World → Prop) (w : World) : F.mallowlaw9_RadixTakes env x.1 x.2.1 (fun r1 w' => K (.bool r1) w') w =
    ev Go.Proofs.Try.prog (tabC [(9, C9), (10, C10), (13, C13), (14, C14), (16, C16), (17, C17), (15, C15)]) (ground Go.Proofs.Try.prog) ann5 body5 (finQ Go.Proofs.Try.prog Go.Proofs.Try.f5 K) (initF (mkArgs [.one (.sl), .one (.sl)] x)) w := by kernel_rfl
theorem fits5 : FitsOne Go.Proofs.Try.prog 5 C5 :=
  fits_of_tie (T := [(9, C9), (10, C10), (13, C13), (14, C14), (16, C16), (17, C17), (15, C15)]) (A := ann5) (fn := Go.Proofs.Try.f5) (c := body5) (fits_cons fits9 (fits_cons fits10 (fits_cons fits13 (fits_cons fits14 (fits_cons fits16 (fits_cons fits17 (fits_cons fits15 fits_nil))))))) mixed Go.Proofs.Try.func5 Go.Proofs.Try.call5 (by kernel_rfl) (by kernel_rfl) (by kernel_rfl) tie5

/- F.radix_Tree_freed -/
noncomputable def C30 : Entry := fun args w K => unArgs [.one (.ptr), .one (.int .u64), .one (.int .u64), .one (.ptr)] args.toList fun x => F.radix_Tree_freed env x.1 x.2.1 x.2.2.1 x.2.2.2.1 (fun r1 w' => K (.int .i64 r1) w') w
noncomputable def body30 : Code := (Go.Proofs.Try.f30.body).getD .skip
def ann30 : Ann := { loops := [], joins := [] }
theorem tie30 (x : ArgsV [.one (.ptr), .one (.int .u64), .one (.int .u64), .one (.ptr)]) (K : Value → World → Prop) (w : World) : F.radix_Tree_freed env x.1 x.2.1 x.2.2.1 x.2.2.2.1 (fun r1 w' => K (.int .i64 r1) w') w =
    ev Go.Proofs.Try.prog (tabC [(26, C26), (24, C24), (22, C22)]) (ground Go.Proofs.Try.prog) ann30 body30 (finQ Go.Proofs.Try.prog Go.Proofs.Try.f30 K) (initF (mkArgs [.one (.ptr), .one (.int .u64), .one (.int .u64), .one (.ptr)] x)) w := by kernel_rfl
theorem fits30 : FitsOne Go.Proofs.Try.prog 30 C30 :=
  fits_of_tie (T := [(26, C26), (24, C24), (22, C22)]) (A := ann30) (fn := Go.Proofs.Try.f30) (c := body30) (fits_cons fits26 (fits_cons fits24 (fits_cons fits22 fits_nil))) mixed Go.Proofs.Try.func30 Go.Proofs.Try.call30 (by kernel_rfl) (by kernel_rfl) (by kernel_rfl) tie30

/- F.radix_Tree_Give -/
noncomputable def C18 : Entry := fun args w K => unArgs [.one (.ptr), .one (.int .u64), .one (.int .u64)] args.toList fun x => F.radix_Tree_Give env x.1 x.2.1 x.2.2.1 (fun r1 w' => K (.int .i64 r1) w') w
noncomputable def body18 : Code := (Go.Proofs.Try.f18.body).getD .skip
def ann18 : Ann := { loops := [], joins := [] }
theorem tie18 (x : ArgsV [.one (.ptr), .one (.int .u64), .one (.int .u64)]) (K : Value → World → Prop) (w : World) : F.radix_Tree_Give env x.1 x.2.1 x.2.2.1 (fun r1 w' => K (.int .i64 r1) w') w =
    ev Go.Proofs.Try.prog (tabC [(30, C30)]) (ground Go.Proofs.Try.prog) ann18 body18 (finQ Go.Proofs.Try.prog Go.Proofs.Try.f18 K) (initF (mkArgs [.one (.ptr), .one (.int .u64), .one (.int .u64)] x)) w := by kernel_rfl
theorem fits18 : FitsOne Go.Proofs.Try.prog 18 C18 :=
  fits_of_tie (T := [(30, C30)]) (A := ann18) (fn := Go.Proofs.Try.f18) (c := body18) (fits_cons fits30 fits_nil) mixed Go.Proofs.Try.func18 Go.Proofs.Try.call18 (by kernel_rfl) (by kernel_rfl) (by kernel_rfl) tie18

/- F.mallowlaw9_RadixFirst -/
noncomputable def C6 : Entry := fun args w K => unArgs [.one (.sl), .one (.sl)] args.toList fun x => F.mallowlaw9_RadixFirst env x.1 x.2.1 (fun r1 w' => K (.bool r1) w') w
noncomputable def body6 : Code := (Go.Proofs.Try.f6.body).getD .skip
def ann6 : Ann := { loops := [(9, [(7, .one (.sl)), (8, .one (.sl)), (9, .one (.int .i64))]), (15, [(10, .one (.int .u64)), (11, .one (.int .i64)), (12, .one (.int .i64))]), (27, [(16, .one (.int .i64))]), (37, [(18, .one (.int .u64))]), (43, [(19, .one (.int .u64)), (20, .one (.int .i64))])], joins := [(2, [(28, .one (.bool))]), (5, [(36, .one (.bool))]), (12, [(55, .one (.bool))]), (20, [(10, .one (.int .u64))]), (22, [(11, .one (.int .i64))]), (24, [(116, .one (.bool))]), (32, [(7, .one (.sl)), (8, .one (.sl))]), (33, [(174, .one (.bool))])] }
theorem tie6 (x : ArgsV [.one (.sl), .one (.sl)]) (K : Value → World → Prop) (w : World) : F.mallowlaw9_RadixFirst env x.1 x.2.1 (fun r1 w' => K (.bool r1) w') w =
    ev Go.Proofs.Try.prog (tabC [(9, C9), (10, C10), (12, C12), (18, C18), (14, C14), (15, C15)]) (ground Go.Proofs.Try.prog) ann6 body6 (finQ Go.Proofs.Try.prog Go.Proofs.Try.f6 K) (initF (mkArgs [.one (.sl), .one (.sl)] x)) w := by kernel_rfl
theorem fits6 : FitsOne Go.Proofs.Try.prog 6 C6 :=
  fits_of_tie (T := [(9, C9), (10, C10), (12, C12), (18, C18), (14, C14), (15, C15)]) (A := ann6) (fn := Go.Proofs.Try.f6) (c := body6) (fits_cons fits9 (fits_cons fits10 (fits_cons fits12 (fits_cons fits18 (fits_cons fits14 (fits_cons fits15 fits_nil)))))) mixed Go.Proofs.Try.func6 Go.Proofs.Try.call6 (by kernel_rfl) (by kernel_rfl) (by kernel_rfl) tie6

/- F.radix_Tree_Back -/
noncomputable def C19 : Entry := fun args w K => unArgs [.one (.ptr), .one (.int .u64), .one (.int .u64)] args.toList fun x => F.radix_Tree_Back env x.1 x.2.1 x.2.2.1 (fun r1 w' => K (.int .i64 r1) w') w
noncomputable def body19 : Code := (Go.Proofs.Try.f19.body).getD .skip
def ann19 : Ann := { loops := [], joins := [] }
theorem tie19 (x : ArgsV [.one (.ptr), .one (.int .u64), .one (.int .u64)]) (K : Value → World → Prop) (w : World) : F.radix_Tree_Back env x.1 x.2.1 x.2.2.1 (fun r1 w' => K (.int .i64 r1) w') w =
    ev Go.Proofs.Try.prog (tabC [(30, C30)]) (ground Go.Proofs.Try.prog) ann19 body19 (finQ Go.Proofs.Try.prog Go.Proofs.Try.f19 K) (initF (mkArgs [.one (.ptr), .one (.int .u64), .one (.int .u64)] x)) w := by kernel_rfl
theorem fits19 : FitsOne Go.Proofs.Try.prog 19 C19 :=
  fits_of_tie (T := [(30, C30)]) (A := ann19) (fn := Go.Proofs.Try.f19) (c := body19) (fits_cons fits30 fits_nil) mixed Go.Proofs.Try.func19 Go.Proofs.Try.call19 (by kernel_rfl) (by kernel_rfl) (by kernel_rfl) tie19

/- F.mallowlaw9_RadixUndo -/
noncomputable def C7 : Entry := fun args w K => unArgs [.one (.sl), .one (.int .u64)] args.toList fun x => F.mallowlaw9_RadixUndo env x.1 x.2.1 (fun r1 w' => K (.bool r1) w') w
noncomputable def body7 : Code := (Go.Proofs.Try.f7.body).getD .skip
def ann7 : Ann := { loops := [(7, [(6, .one (.int .i64))])], joins := [(2, [(33, .one (.bool))]), (5, [(41, .one (.bool))]), (10, [(59, .one (.bool))]), (13, [(86, .one (.bool))]), (23, [(134, .one (.bool))])] }
theorem tie7 (x : ArgsV [.one (.sl), .one (.int .u64)]) (K : Value → World → Prop) (w : World) : F.mallowlaw9_RadixUndo env x.1 x.2.1 (fun r1 w' => K (.bool r1) w') w =
    ev Go.Proofs.Try.prog (tabC [(9, C9), (10, C10), (12, C12), (19, C19), (14, C14), (16, C16), (20, C20), (11, C11), (15, C15)]) (ground Go.Proofs.Try.prog) ann7 body7 (finQ Go.Proofs.Try.prog Go.Proofs.Try.f7 K) (initF (mkArgs [.one (.sl), .one (.int .u64)] x)) w := by kernel_rfl
theorem fits7 : FitsOne Go.Proofs.Try.prog 7 C7 :=
  fits_of_tie (T := [(9, C9), (10, C10), (12, C12), (19, C19), (14, C14), (16, C16), (20, C20), (11, C11), (15, C15)]) (A := ann7) (fn := Go.Proofs.Try.f7) (c := body7) (fits_cons fits9 (fits_cons fits10 (fits_cons fits12 (fits_cons fits19 (fits_cons fits14 (fits_cons fits16 (fits_cons fits20 (fits_cons fits11 (fits_cons fits15 fits_nil))))))))) mixed Go.Proofs.Try.func7 Go.Proofs.Try.call7 (by kernel_rfl) (by kernel_rfl) (by kernel_rfl) tie7

/- F.radix_Tree_Scavenge -/
noncomputable def C21 : Entry := fun args w K => unArgs [.one (.ptr), .one (.int .u64)] args.toList fun x => F.radix_Tree_Scavenge env x.1 x.2.1 (fun r1 r2 w' => K (.tuple ⟨[.int .u64 r1, .int .u64 r2]⟩) w') w
noncomputable def body21 : Code := (Go.Proofs.Try.f21.body).getD .skip
def ann21 : Ann := { loops := [], joins := [(3, [(20, .one (.bool))])] }
theorem tie21 (x : ArgsV [.one (.ptr), .one (.int .u64)]) (K : Value → World → Prop) (w : World) : F.radix_Tree_Scavenge env x.1 x.2.1 (fun r1 r2 w' => K (.tuple ⟨[.int .u64 r1, .int .u64 r2]⟩) w') w =
    ev Go.Proofs.Try.prog (tabC [(25, C25), (27, C27), (24, C24)]) (ground Go.Proofs.Try.prog) ann21 body21 (finQ Go.Proofs.Try.prog Go.Proofs.Try.f21 K) (initF (mkArgs [.one (.ptr), .one (.int .u64)] x)) w := by kernel_rfl
theorem fits21 : FitsOne Go.Proofs.Try.prog 21 C21 :=
  fits_of_tie (T := [(25, C25), (27, C27), (24, C24)]) (A := ann21) (fn := Go.Proofs.Try.f21) (c := body21) (fits_cons fits25 (fits_cons fits27 (fits_cons fits24 fits_nil))) mixed Go.Proofs.Try.func21 Go.Proofs.Try.call21 (by kernel_rfl) (by kernel_rfl) (by kernel_rfl) tie21

/- F.mallowlaw9_RadixReleases -/
noncomputable def C8 : Entry := fun args w K => unArgs [.one (.sl), .one (.int .u64), .one (.int .u64)] args.toList fun x => F.mallowlaw9_RadixReleases env x.1 x.2.1 x.2.2.1 (fun r1 w' => K (.bool r1) w') w
noncomputable def body8 : Code := (Go.Proofs.Try.f8.body).getD .skip
def ann8 : Ann := { loops := [(8, [(8, .one (.sl)), (9, .one (.int .i64))]), (18, [(13, .one (.int .u64))]), (25, [(17, .one (.int .u64))])], joins := [(2, [(42, .one (.bool))]), (5, [(50, .one (.bool))]), (11, [(68, .one (.bool))]), (16, [(97, .one (.bool))]), (22, [(125, .one (.bool))]), (29, [(151, .one (.bool))]), (34, [(184, .one (.bool))])] }
theorem tie8 (x : ArgsV [.one (.sl), .one (.int .u64), .one (.int .u64)]) (K : Value → World → Prop) (w : World) : F.mallowlaw9_RadixReleases env x.1 x.2.1 x.2.2.1 (fun r1 w' => K (.bool r1) w') w =
    ev Go.Proofs.Try.prog (tabC [(9, C9), (10, C10), (12, C12), (18, C18), (16, C16), (21, C21), (17, C17), (14, C14), (19, C19), (15, C15)]) (ground Go.Proofs.Try.prog) ann8 body8 (finQ Go.Proofs.Try.prog Go.Proofs.Try.f8 K) (initF (mkArgs [.one (.sl), .one (.int .u64), .one (.int .u64)] x)) w := by kernel_rfl
theorem fits8 : FitsOne Go.Proofs.Try.prog 8 C8 :=
  fits_of_tie (T := [(9, C9), (10, C10), (12, C12), (18, C18), (16, C16), (21, C21), (17, C17), (14, C14), (19, C19), (15, C15)]) (A := ann8) (fn := Go.Proofs.Try.f8) (c := body8) (fits_cons fits9 (fits_cons fits10 (fits_cons fits12 (fits_cons fits18 (fits_cons fits16 (fits_cons fits21 (fits_cons fits17 (fits_cons fits14 (fits_cons fits19 (fits_cons fits15 fits_nil)))))))))) mixed Go.Proofs.Try.func8 Go.Proofs.Try.call8 (by kernel_rfl) (by kernel_rfl) (by kernel_rfl) tie8

/- F.stretch_Set_at_1 -/
noncomputable def C35 : Entry := fun args w K => unArgs [.one (.int .i64), .one (.ptr), .one (.ptr)] args.toList fun x => F.stretch_Set_at_1 env x.1 x.2.1 x.2.2.1 (fun r1 w' => K (.bool r1) w') w
noncomputable def body35 : Code := (Go.Proofs.Try.f35.body).getD .skip
def ann35 : Ann := { loops := [], joins := [] }
theorem tie35 (x : ArgsV [.one (.int .i64), .one (.ptr), .one (.ptr)]) (K : Value → World → Prop) (w : World) : F.stretch_Set_at_1 env x.1 x.2.1 x.2.2.1 (fun r1 w' => K (.bool r1) w') w =
    ev Go.Proofs.Try.prog (tabC []) (ground Go.Proofs.Try.prog) ann35 body35 (finQ Go.Proofs.Try.prog Go.Proofs.Try.f35 K) (initF (mkArgs [.one (.int .i64), .one (.ptr), .one (.ptr)] x)) w := by kernel_rfl
theorem fits35 : FitsOne Go.Proofs.Try.prog 35 C35 :=
  fits_of_tie (T := []) (A := ann35) (fn := Go.Proofs.Try.f35) (c := body35) fits_nil mixed Go.Proofs.Try.func35 Go.Proofs.Try.call35 (by kernel_rfl) (by kernel_rfl) (by kernel_rfl) tie35

end Go.Sh

set_option linter.all false
namespace Go.Sh

theorem at1_mono {E : Env} {i : Int} {p1 p2 : Option Addr} {w : World} {K K' : Bool → World → Prop} (hk : ∀ b w', K b w' → K' b w') (h : F.stretch_Set_at_1 E i p1 p2 K w) : F.stretch_Set_at_1 E i p1 p2 K' w := by
  unfold F.stretch_Set_at_1 at h ⊢
  obtain ⟨q1, rfl, x2, h2, h⟩ := NC_elim h
  obtain ⟨q3, rfl, x4, h4, h⟩ := NC_elim h
  obtain ⟨q5, h5, hi, x6, h6, h⟩ := NC_elim h
  obtain ⟨q7, rfl, x8, h8, h⟩ := NC_elim h
  refine ⟨some q3, h2, x4, h4, ?_⟩
  rw [h5]
  exact ⟨hi, x6, h6, x8, h8, hk _ _ h⟩

theorem ground_mono {P : Program} (g : FuncId) (args : Array Value) (w : World) (K K' : Value → World → Prop) (hk : ∀ v w', K v w' → K' v w') (h : ground P g args w K) : ground P g args w K' :=
  ⟨h.1, h.2.mono fun e w' ⟨v, hv, h⟩ => ⟨v, hv, hk v w' h⟩⟩

end Go.Sh

set_option linter.all false
namespace Go.Sh
open Go.Proofs

theorem envS : EnvS env where
  at1 := by
    intro i p1 p2 K w h
    refine fits35 #[.int .i64 i, .pointer p1, .pointer p2] w (fun v w' => ∃ b, v = .bool b ∧ K b w') ?_
    show F.stretch_Set_at_1 env i p1 p2 (fun b w' => ∃ b', Value.bool b = .bool b' ∧ K b' w') w
    exact at1_mono (fun b w' h => ⟨b, rfl, h⟩) h
  mono := ground_mono

end Go.Sh
