/- Each shallow form is what the code of its function comes to. No further condition. -/
import Derived.Test.YthkacibclamemaaF
import Derived.Test.YthkacibclamemaaProg
import Derived.KernelRfl
import Derived.Test.YthkacibclamemaaA
import Derived.Calls
set_option linter.all false
set_option maxRecDepth 100000
set_option maxHeartbeats 4000000
namespace Go.Sh
open Go.Proofs

theorem mixed : Go.Proofs.Try.prog.follows .mixedOrders = true := by kernel_rfl
noncomputable def env : Env := { call := ground Go.Proofs.Try.prog, t_arena_Map := 55, t__stretch_Set := 64, t_uint64 := 22, t_arena_wide := 59, t__arena_Map := 23, t_int := 3, t_stretch_One := 66, t___stretch_One := 50, t__512_int := 67, f_stretch_Set_at_1 := 34, f_arena_Map_Set_1 := 19, f_arena_Map_Chunks_1 := 25, f_arena_rising_1 := 32 }

/- F.arena_New -/
noncomputable def C7 : Entry := fun args w K => unArgs [] args.toList fun x => F.arena_New env  (fun r1 w' => K (.pointer r1) w') w
noncomputable def body7 : Code := (Go.Proofs.Try.f7.body).getD .skip
def ann7 : Ann := { loops := [], joins := [] }
theorem tie7 (x : ArgsV []) (K : Value → World → Prop) (w : World) : F.arena_New env  (fun r1 w' => K (.pointer r1) w') w =
    ev Go.Proofs.Try.prog (tabC []) (ground Go.Proofs.Try.prog) ann7 body7 (finQ Go.Proofs.Try.prog Go.Proofs.Try.f7 K) (initF (mkArgs [] x)) w := by kernel_rfl
theorem fits7 : FitsOne Go.Proofs.Try.prog 7 C7 :=
  fits_of_tie (T := []) (A := ann7) (fn := Go.Proofs.Try.f7) (c := body7) fits_nil mixed Go.Proofs.Try.func7 Go.Proofs.Try.call7 (by kernel_rfl) (by kernel_rfl) (by kernel_rfl) tie7

/- F.sort_Search -/
noncomputable def C33 : Entry := fun args w K => unArgs [.one (.int .i64), .one (.any)] args.toList fun x => F.sort_Search env x.1 x.2.1 (fun r1 w' => K (.int .i64 r1) w') w
noncomputable def body33 : Code := (Go.Proofs.Try.f33.body).getD .skip
def ann33 : Ann := { loops := [(2, [(5, .one (.int .i64)), (6, .one (.int .i64))])], joins := [] }
theorem tie33 (x : ArgsV [.one (.int .i64), .one (.any)]) (K : Value → World → Prop) (w : World) : F.sort_Search env x.1 x.2.1 (fun r1 w' => K (.int .i64 r1) w') w =
    ev Go.Proofs.Try.prog (tabC []) (ground Go.Proofs.Try.prog) ann33 body33 (finQ Go.Proofs.Try.prog Go.Proofs.Try.f33 K) (initF (mkArgs [.one (.int .i64), .one (.any)] x)) w := by kernel_rfl
theorem fits33 : FitsOne Go.Proofs.Try.prog 33 C33 :=
  fits_of_tie (T := []) (A := ann33) (fn := Go.Proofs.Try.f33) (c := body33) fits_nil mixed Go.Proofs.Try.func33 Go.Proofs.Try.call33 (by kernel_rfl) (by kernel_rfl) (by kernel_rfl) tie33

/- F.stretch_Set_at -/
noncomputable def C30 : Entry := fun args w K => unArgs [.one (.ptr), .one (.int .u64)] args.toList fun x => F.stretch_Set_at env x.1 x.2.1 (fun r1 w' => K (.int .i64 r1) w') w
noncomputable def body30 : Code := (Go.Proofs.Try.f30.body).getD .skip
def ann30 : Ann := { loops := [], joins := [] }
theorem tie30 (x : ArgsV [.one (.ptr), .one (.int .u64)]) (K : Value → World → Prop) (w : World) : F.stretch_Set_at env x.1 x.2.1 (fun r1 w' => K (.int .i64 r1) w') w =
    ev Go.Proofs.Try.prog (tabC [(33, C33)]) (ground Go.Proofs.Try.prog) ann30 body30 (finQ Go.Proofs.Try.prog Go.Proofs.Try.f30 K) (initF (mkArgs [.one (.ptr), .one (.int .u64)] x)) w := by kernel_rfl
theorem fits30 : FitsOne Go.Proofs.Try.prog 30 C30 :=
  fits_of_tie (T := [(33, C33)]) (A := ann30) (fn := Go.Proofs.Try.f30) (c := body30) (fits_cons fits33 fits_nil) mixed Go.Proofs.Try.func30 Go.Proofs.Try.call30 (by kernel_rfl) (by kernel_rfl) (by kernel_rfl) tie30

/- F.stretch_Set_Count -/
noncomputable def C17 : Entry := fun args w K => unArgs [.one (.ptr), .one (.int .u64), .one (.int .u64)] args.toList fun x => F.stretch_Set_Count env x.1 x.2.1 x.2.2.1 (fun r1 w' => K (.int .u64 r1) w') w
noncomputable def body17 : Code := (Go.Proofs.Try.f17.body).getD .skip
def ann17 : Ann := { loops := [(3, [(7, .one (.int .u64)), (8, .one (.int .i64))])], joins := [] }
theorem tie17 (x : ArgsV [.one (.ptr), .one (.int .u64), .one (.int .u64)]) (K : Value → World → Prop) (w : World) : F.stretch_Set_Count env x.1 x.2.1 x.2.2.1 (fun r1 w' => K (.int .u64 r1) w') w =
    ev Go.Proofs.Try.prog (tabC [(30, C30)]) (ground Go.Proofs.Try.prog) ann17 body17 (finQ Go.Proofs.Try.prog Go.Proofs.Try.f17 K) (initF (mkArgs [.one (.ptr), .one (.int .u64), .one (.int .u64)] x)) w := by kernel_rfl
theorem fits17 : FitsOne Go.Proofs.Try.prog 17 C17 :=
  fits_of_tie (T := [(30, C30)]) (A := ann17) (fn := Go.Proofs.Try.f17) (c := body17) (fits_cons fits30 fits_nil) mixed Go.Proofs.Try.func17 Go.Proofs.Try.call17 (by kernel_rfl) (by kernel_rfl) (by kernel_rfl) tie17

/- F.arena_Map_cut -/
noncomputable def C18 : Entry := fun args w K => unArgs [.one (.ptr), .one (.int .u64), .one (.int .u64)] args.toList fun x => F.arena_Map_cut env x.1 x.2.1 x.2.2.1 (fun  w' => K (.tuple ⟨[]⟩) w') w
noncomputable def body18 : Code := (Go.Proofs.Try.f18.body).getD .skip
def ann18 : Ann := { loops := [(2, [(6, .one (.sl)), (16, .one (.int .i64))]), (14, []), (19, [(10, .one (.int .u64))])], joins := [(5, [(29, .one (.bool))]), (8, [(6, .one (.sl))]), (15, [(81, .one (.bool))]), (17, [(91, .one (.bool))])] }
theorem tie18 (x : ArgsV [.one (.ptr), .one (.int .u64), .one (.int .u64)]) (K : Value → World → Prop) (w : World) : F.arena_Map_cut env x.1 x.2.1 x.2.2.1 (fun  w' => K (.tuple ⟨[]⟩) w') w =
    ev Go.Proofs.Try.prog (tabC []) (ground Go.Proofs.Try.prog) ann18 body18 (finQ Go.Proofs.Try.prog Go.Proofs.Try.f18 K) (initF (mkArgs [.one (.ptr), .one (.int .u64), .one (.int .u64)] x)) w := by kernel_rfl
theorem fits18 : FitsOne Go.Proofs.Try.prog 18 C18 :=
  fits_of_tie (T := []) (A := ann18) (fn := Go.Proofs.Try.f18) (c := body18) fits_nil mixed Go.Proofs.Try.func18 Go.Proofs.Try.call18 (by kernel_rfl) (by kernel_rfl) (by kernel_rfl) tie18

/- F.arena_Map_Set -/
noncomputable def C8 : Entry := fun args w K => unArgs [.one (.ptr), .one (.int .u64), .one (.int .u64), .one (.int .i64)] args.toList fun x => F.arena_Map_Set env x.1 x.2.1 x.2.2.1 x.2.2.2.1 (fun r1 w' => K (.int .i64 r1) w') w
noncomputable def body8 : Code := (Go.Proofs.Try.f8.body).getD .skip
def ann8 : Ann := { loops := [], joins := [(2, [(20, .one (.bool))]), (4, [(28, .one (.bool))]), (14, [])] }
theorem tie8 (x : ArgsV [.one (.ptr), .one (.int .u64), .one (.int .u64), .one (.int .i64)]) (K : Value → World → Prop) (w : World) : F.arena_Map_Set env x.1 x.2.1 x.2.2.1 x.2.2.2.1 (fun r1 w' => K (.int .i64 r1) w') w =
    ev Go.Proofs.Try.prog (tabC [(17, C17), (18, C18)]) (ground Go.Proofs.Try.prog) ann8 body8 (finQ Go.Proofs.Try.prog Go.Proofs.Try.f8 K) (initF (mkArgs [.one (.ptr), .one (.int .u64), .one (.int .u64), .one (.int .i64)] x)) w := by kernel_rfl
theorem fits8 : FitsOne Go.Proofs.Try.prog 8 C8 :=
  fits_of_tie (T := [(17, C17), (18, C18)]) (A := ann8) (fn := Go.Proofs.Try.f8) (c := body8) (fits_cons fits17 (fits_cons fits18 fits_nil)) mixed Go.Proofs.Try.func8 Go.Proofs.Try.call8 (by kernel_rfl) (by kernel_rfl) (by kernel_rfl) tie8

/- F.stretch_Set_Has -/
noncomputable def C21 : Entry := fun args w K => unArgs [.one (.ptr), .one (.int .u64)] args.toList fun x => F.stretch_Set_Has env x.1 x.2.1 (fun r1 w' => K (.bool r1) w') w
noncomputable def body21 : Code := (Go.Proofs.Try.f21.body).getD .skip
def ann21 : Ann := { loops := [], joins := [] }
theorem tie21 (x : ArgsV [.one (.ptr), .one (.int .u64)]) (K : Value → World → Prop) (w : World) : F.stretch_Set_Has env x.1 x.2.1 (fun r1 w' => K (.bool r1) w') w =
    ev Go.Proofs.Try.prog (tabC [(30, C30)]) (ground Go.Proofs.Try.prog) ann21 body21 (finQ Go.Proofs.Try.prog Go.Proofs.Try.f21 K) (initF (mkArgs [.one (.ptr), .one (.int .u64)] x)) w := by kernel_rfl
theorem fits21 : FitsOne Go.Proofs.Try.prog 21 C21 :=
  fits_of_tie (T := [(30, C30)]) (A := ann21) (fn := Go.Proofs.Try.f21) (c := body21) (fits_cons fits30 fits_nil) mixed Go.Proofs.Try.func21 Go.Proofs.Try.call21 (by kernel_rfl) (by kernel_rfl) (by kernel_rfl) tie21

/- F.stretch_Set_Cut -/
noncomputable def C31 : Entry := fun args w K => unArgs [.one (.ptr), .one (.int .u64), .one (.int .u64)] args.toList fun x => F.stretch_Set_Cut env x.1 x.2.1 x.2.2.1 (fun  w' => K (.tuple ⟨[]⟩) w') w
noncomputable def body31 : Code := (Go.Proofs.Try.f31.body).getD .skip
def ann31 : Ann := { loops := [(5, [(7, .one (.int .i64)), (8, .one (.sl))])], joins := [(10, [(8, .one (.sl))]), (12, [(7, .one (.int .i64)), (8, .one (.sl))])] }
theorem tie31 (x : ArgsV [.one (.ptr), .one (.int .u64), .one (.int .u64)]) (K : Value → World → Prop) (w : World) : F.stretch_Set_Cut env x.1 x.2.1 x.2.2.1 (fun  w' => K (.tuple ⟨[]⟩) w') w =
    ev Go.Proofs.Try.prog (tabC [(17, C17), (30, C30)]) (ground Go.Proofs.Try.prog) ann31 body31 (finQ Go.Proofs.Try.prog Go.Proofs.Try.f31 K) (initF (mkArgs [.one (.ptr), .one (.int .u64), .one (.int .u64)] x)) w := by kernel_rfl
theorem fits31 : FitsOne Go.Proofs.Try.prog 31 C31 :=
  fits_of_tie (T := [(17, C17), (30, C30)]) (A := ann31) (fn := Go.Proofs.Try.f31) (c := body31) (fits_cons fits17 (fits_cons fits30 fits_nil)) mixed Go.Proofs.Try.func31 Go.Proofs.Try.call31 (by kernel_rfl) (by kernel_rfl) (by kernel_rfl) tie31

/- F.stretch_Set_Add -/
noncomputable def C22 : Entry := fun args w K => unArgs [.one (.ptr), .one (.int .u64), .one (.int .u64)] args.toList fun x => F.stretch_Set_Add env x.1 x.2.1 x.2.2.1 (fun  w' => K (.tuple ⟨[]⟩) w') w
noncomputable def body22 : Code := (Go.Proofs.Try.f22.body).getD .skip
def ann22 : Ann := { loops := [], joins := [(7, [(51, .one (.bool))]), (9, [(8, .one (.int .i64))]), (10, [(77, .one (.bool))]), (12, [(6, .one (.int .i64))])] }
theorem tie22 (x : ArgsV [.one (.ptr), .one (.int .u64), .one (.int .u64)]) (K : Value → World → Prop) (w : World) : F.stretch_Set_Add env x.1 x.2.1 x.2.2.1 (fun  w' => K (.tuple ⟨[]⟩) w') w =
    ev Go.Proofs.Try.prog (tabC [(31, C31), (30, C30)]) (ground Go.Proofs.Try.prog) ann22 body22 (finQ Go.Proofs.Try.prog Go.Proofs.Try.f22 K) (initF (mkArgs [.one (.ptr), .one (.int .u64), .one (.int .u64)] x)) w := by kernel_rfl
theorem fits22 : FitsOne Go.Proofs.Try.prog 22 C22 :=
  fits_of_tie (T := [(31, C31), (30, C30)]) (A := ann22) (fn := Go.Proofs.Try.f22) (c := body22) (fits_cons fits31 (fits_cons fits30 fits_nil)) mixed Go.Proofs.Try.func22 Go.Proofs.Try.call22 (by kernel_rfl) (by kernel_rfl) (by kernel_rfl) tie22

/- F.arena_Map_Add -/
noncomputable def C9 : Entry := fun args w K => unArgs [.one (.ptr), .one (.int .u64)] args.toList fun x => F.arena_Map_Add env x.1 x.2.1 (fun r1 w' => K (.int .i64 r1) w') w
noncomputable def body9 : Code := (Go.Proofs.Try.f9.body).getD .skip
def ann9 : Ann := { loops := [], joins := [] }
theorem tie9 (x : ArgsV [.one (.ptr), .one (.int .u64)]) (K : Value → World → Prop) (w : World) : F.arena_Map_Add env x.1 x.2.1 (fun r1 w' => K (.int .i64 r1) w') w =
    ev Go.Proofs.Try.prog (tabC [(21, C21), (22, C22)]) (ground Go.Proofs.Try.prog) ann9 body9 (finQ Go.Proofs.Try.prog Go.Proofs.Try.f9 K) (initF (mkArgs [.one (.ptr), .one (.int .u64)] x)) w := by kernel_rfl
theorem fits9 : FitsOne Go.Proofs.Try.prog 9 C9 :=
  fits_of_tie (T := [(21, C21), (22, C22)]) (A := ann9) (fn := Go.Proofs.Try.f9) (c := body9) (fits_cons fits21 (fits_cons fits22 fits_nil)) mixed Go.Proofs.Try.func9 Go.Proofs.Try.call9 (by kernel_rfl) (by kernel_rfl) (by kernel_rfl) tie9

/- F.arena_Map_whole -/
noncomputable def C23 : Entry := fun args w K => unArgs [.one (.ptr), .one (.int .u64)] args.toList fun x => F.arena_Map_whole env x.1 x.2.1 (fun r1 w' => K (.int .i64 r1) w') w
noncomputable def body23 : Code := (Go.Proofs.Try.f23.body).getD .skip
def ann23 : Ann := { loops := [(2, [(12, .one (.int .i64))])], joins := [(5, [(25, .one (.bool))])] }
theorem tie23 (x : ArgsV [.one (.ptr), .one (.int .u64)]) (K : Value → World → Prop) (w : World) : F.arena_Map_whole env x.1 x.2.1 (fun r1 w' => K (.int .i64 r1) w') w =
    ev Go.Proofs.Try.prog (tabC []) (ground Go.Proofs.Try.prog) ann23 body23 (finQ Go.Proofs.Try.prog Go.Proofs.Try.f23 K) (initF (mkArgs [.one (.ptr), .one (.int .u64)] x)) w := by kernel_rfl
theorem fits23 : FitsOne Go.Proofs.Try.prog 23 C23 :=
  fits_of_tie (T := []) (A := ann23) (fn := Go.Proofs.Try.f23) (c := body23) fits_nil mixed Go.Proofs.Try.func23 Go.Proofs.Try.call23 (by kernel_rfl) (by kernel_rfl) (by kernel_rfl) tie23

/- F.arena_Map_At -/
noncomputable def C10 : Entry := fun args w K => unArgs [.one (.ptr), .one (.int .u64)] args.toList fun x => F.arena_Map_At env x.1 x.2.1 (fun r1 w' => K (.int .i64 r1) w') w
noncomputable def body10 : Code := (Go.Proofs.Try.f10.body).getD .skip
def ann10 : Ann := { loops := [], joins := [] }
theorem tie10 (x : ArgsV [.one (.ptr), .one (.int .u64)]) (K : Value → World → Prop) (w : World) : F.arena_Map_At env x.1 x.2.1 (fun r1 w' => K (.int .i64 r1) w') w =
    ev Go.Proofs.Try.prog (tabC [(23, C23)]) (ground Go.Proofs.Try.prog) ann10 body10 (finQ Go.Proofs.Try.prog Go.Proofs.Try.f10 K) (initF (mkArgs [.one (.ptr), .one (.int .u64)] x)) w := by kernel_rfl
theorem fits10 : FitsOne Go.Proofs.Try.prog 10 C10 :=
  fits_of_tie (T := [(23, C23)]) (A := ann10) (fn := Go.Proofs.Try.f10) (c := body10) (fits_cons fits23 fits_nil) mixed Go.Proofs.Try.func10 Go.Proofs.Try.call10 (by kernel_rfl) (by kernel_rfl) (by kernel_rfl) tie10

/- F.arena_Map_Has -/
noncomputable def C11 : Entry := fun args w K => unArgs [.one (.ptr), .one (.int .u64)] args.toList fun x => F.arena_Map_Has env x.1 x.2.1 (fun r1 w' => K (.bool r1) w') w
noncomputable def body11 : Code := (Go.Proofs.Try.f11.body).getD .skip
def ann11 : Ann := { loops := [], joins := [] }
theorem tie11 (x : ArgsV [.one (.ptr), .one (.int .u64)]) (K : Value → World → Prop) (w : World) : F.arena_Map_Has env x.1 x.2.1 (fun r1 w' => K (.bool r1) w') w =
    ev Go.Proofs.Try.prog (tabC [(21, C21)]) (ground Go.Proofs.Try.prog) ann11 body11 (finQ Go.Proofs.Try.prog Go.Proofs.Try.f11 K) (initF (mkArgs [.one (.ptr), .one (.int .u64)] x)) w := by kernel_rfl
theorem fits11 : FitsOne Go.Proofs.Try.prog 11 C11 :=
  fits_of_tie (T := [(21, C21)]) (A := ann11) (fn := Go.Proofs.Try.f11) (c := body11) (fits_cons fits21 fits_nil) mixed Go.Proofs.Try.func11 Go.Proofs.Try.call11 (by kernel_rfl) (by kernel_rfl) (by kernel_rfl) tie11

/- F.mallowlaw11_awake -/
noncomputable def C12 : Entry := fun args w K => unArgs [] args.toList fun x => F.mallowlaw11_awake env  (fun r1 w' => K (.bool r1) w') w
noncomputable def body12 : Code := (Go.Proofs.Try.f12.body).getD .skip
def ann12 : Ann := { loops := [], joins := [] }
theorem tie12 (x : ArgsV []) (K : Value → World → Prop) (w : World) : F.mallowlaw11_awake env  (fun r1 w' => K (.bool r1) w') w =
    ev Go.Proofs.Try.prog (tabC [(7, C7), (9, C9), (8, C8), (10, C10), (11, C11)]) (ground Go.Proofs.Try.prog) ann12 body12 (finQ Go.Proofs.Try.prog Go.Proofs.Try.f12 K) (initF (mkArgs [] x)) w := by kernel_rfl
theorem fits12 : FitsOne Go.Proofs.Try.prog 12 C12 :=
  fits_of_tie (T := [(7, C7), (9, C9), (8, C8), (10, C10), (11, C11)]) (A := ann12) (fn := Go.Proofs.Try.f12) (c := body12) (fits_cons fits7 (fits_cons fits9 (fits_cons fits8 (fits_cons fits10 (fits_cons fits11 fits_nil))))) mixed Go.Proofs.Try.func12 Go.Proofs.Try.call12 (by kernel_rfl) (by kernel_rfl) (by kernel_rfl) tie12

/- F.mallowlaw11_ArenaEverywhere -/
noncomputable def C3 : Entry := fun args w K => unArgs [.one (.int .u64), .one (.int .u64), .one (.int .u64), .one (.int .u64), .one (.int .i64)] args.toList fun x => F.mallowlaw11_ArenaEverywhere env x.1 x.2.1 x.2.2.1 x.2.2.2.1 x.2.2.2.2.1 (fun r1 w' => K (.bool r1) w') w
noncomputable def body3 : Code := (Go.Proofs.Try.f3.body).getD .skip
def ann3 : Ann := { loops := [], joins := [(2, [(33, .one (.bool))]), (5, [(61, .one (.bool))]), (9, [(77, .one (.bool))]), (10, [(13, .one (.int .i64))]), (11, [(93, .one (.bool))]), (13, [(120, .one (.bool))])] }
theorem tie3 (x : ArgsV [.one (.int .u64), .one (.int .u64), .one (.int .u64), .one (.int .u64), .one (.int .i64)]) (K : Value → World → Prop) (w : World) : F.mallowlaw11_ArenaEverywhere env x.1 x.2.1 x.2.2.1 x.2.2.2.1 x.2.2.2.2.1 (fun r1 w' => K (.bool r1) w') w =
    ev Go.Proofs.Try.prog (tabC [(7, C7), (8, C8), (9, C9), (10, C10), (11, C11), (12, C12)]) (ground Go.Proofs.Try.prog) ann3 body3 (finQ Go.Proofs.Try.prog Go.Proofs.Try.f3 K) (initF (mkArgs [.one (.int .u64), .one (.int .u64), .one (.int .u64), .one (.int .u64), .one (.int .i64)] x)) w := by kernel_rfl
theorem fits3 : FitsOne Go.Proofs.Try.prog 3 C3 :=
  fits_of_tie (T := [(7, C7), (8, C8), (9, C9), (10, C10), (11, C11), (12, C12)]) (A := ann3) (fn := Go.Proofs.Try.f3) (c := body3) (fits_cons fits7 (fits_cons fits8 (fits_cons fits9 (fits_cons fits10 (fits_cons fits11 (fits_cons fits12 fits_nil)))))) mixed Go.Proofs.Try.func3 Go.Proofs.Try.call3 (by kernel_rfl) (by kernel_rfl) (by kernel_rfl) tie3

/- F.mallowlaw11_heavy -/
noncomputable def C13 : Entry := fun args w K => unArgs [.one (.sl)] args.toList fun x => F.mallowlaw11_heavy env x.1 (fun r1 w' => K (.bool r1) w') w
noncomputable def body13 : Code := (Go.Proofs.Try.f13.body).getD .skip
def ann13 : Ann := { loops := [(3, [(3, .one (.int .u64)), (4, .one (.int .i64))])], joins := [(6, [(24, .one (.bool))]), (7, [(3, .one (.int .u64))])] }
theorem tie13 (x : ArgsV [.one (.sl)]) (K : Value → World → Prop) (w : World) : F.mallowlaw11_heavy env x.1 (fun r1 w' => K (.bool r1) w') w =
    ev Go.Proofs.Try.prog (tabC []) (ground Go.Proofs.Try.prog) ann13 body13 (finQ Go.Proofs.Try.prog Go.Proofs.Try.f13 K) (initF (mkArgs [.one (.sl)] x)) w := by kernel_rfl
theorem fits13 : FitsOne Go.Proofs.Try.prog 13 C13 :=
  fits_of_tie (T := []) (A := ann13) (fn := Go.Proofs.Try.f13) (c := body13) fits_nil mixed Go.Proofs.Try.func13 Go.Proofs.Try.call13 (by kernel_rfl) (by kernel_rfl) (by kernel_rfl) tie13

/- F.stretch_Set_All -/
noncomputable def C24 : Entry := fun args w K => unArgs [.one (.ptr)] args.toList fun x => F.stretch_Set_All env x.1 (fun r1 w' => K (.slice r1.base r1.len r1.cap) w') w
noncomputable def body24 : Code := (Go.Proofs.Try.f24.body).getD .skip
def ann24 : Ann := { loops := [], joins := [] }
theorem tie24 (x : ArgsV [.one (.ptr)]) (K : Value → World → Prop) (w : World) : F.stretch_Set_All env x.1 (fun r1 w' => K (.slice r1.base r1.len r1.cap) w') w =
    ev Go.Proofs.Try.prog (tabC []) (ground Go.Proofs.Try.prog) ann24 body24 (finQ Go.Proofs.Try.prog Go.Proofs.Try.f24 K) (initF (mkArgs [.one (.ptr)] x)) w := by kernel_rfl
theorem fits24 : FitsOne Go.Proofs.Try.prog 24 C24 :=
  fits_of_tie (T := []) (A := ann24) (fn := Go.Proofs.Try.f24) (c := body24) fits_nil mixed Go.Proofs.Try.func24 Go.Proofs.Try.call24 (by kernel_rfl) (by kernel_rfl) (by kernel_rfl) tie24

/- F.arena_Map_Chunks -/
noncomputable def C14 : Entry := fun args w K => unArgs [.one (.ptr)] args.toList fun x => F.arena_Map_Chunks env x.1 (fun r1 w' => K (r1) w') w
noncomputable def body14 : Code := (Go.Proofs.Try.f14.body).getD .skip
def ann14 : Ann := { loops := [], joins := [] }
theorem tie14 (x : ArgsV [.one (.ptr)]) (K : Value → World → Prop) (w : World) : F.arena_Map_Chunks env x.1 (fun r1 w' => K (r1) w') w =
    ev Go.Proofs.Try.prog (tabC [(24, C24)]) (ground Go.Proofs.Try.prog) ann14 body14 (finQ Go.Proofs.Try.prog Go.Proofs.Try.f14 K) (initF (mkArgs [.one (.ptr)] x)) w := by kernel_rfl
theorem fits14 : FitsOne Go.Proofs.Try.prog 14 C14 :=
  fits_of_tie (T := [(24, C24)]) (A := ann14) (fn := Go.Proofs.Try.f14) (c := body14) (fits_cons fits24 fits_nil) mixed Go.Proofs.Try.func14 Go.Proofs.Try.call14 (by kernel_rfl) (by kernel_rfl) (by kernel_rfl) tie14

/- F.mallowlaw11_Model_has -/
noncomputable def C29 : Entry := fun args w K => unArgs [.one (.ptr), .one (.int .u64)] args.toList fun x => F.mallowlaw11_Model_has env x.1 x.2.1 (fun r1 w' => K (.bool r1) w') w
noncomputable def body29 : Code := (Go.Proofs.Try.f29.body).getD .skip
def ann29 : Ann := { loops := [(2, [(5, .one (.int .i64))])], joins := [] }
theorem tie29 (x : ArgsV [.one (.ptr), .one (.int .u64)]) (K : Value → World → Prop) (w : World) : F.mallowlaw11_Model_has env x.1 x.2.1 (fun r1 w' => K (.bool r1) w') w =
    ev Go.Proofs.Try.prog (tabC []) (ground Go.Proofs.Try.prog) ann29 body29 (finQ Go.Proofs.Try.prog Go.Proofs.Try.f29 K) (initF (mkArgs [.one (.ptr), .one (.int .u64)] x)) w := by kernel_rfl
theorem fits29 : FitsOne Go.Proofs.Try.prog 29 C29 :=
  fits_of_tie (T := []) (A := ann29) (fn := Go.Proofs.Try.f29) (c := body29) fits_nil mixed Go.Proofs.Try.func29 Go.Proofs.Try.call29 (by kernel_rfl) (by kernel_rfl) (by kernel_rfl) tie29

/- F.mallowlaw11_Model_add -/
noncomputable def C27 : Entry := fun args w K => unArgs [.one (.ptr), .one (.int .u64)] args.toList fun x => F.mallowlaw11_Model_add env x.1 x.2.1 (fun r1 w' => K (.int .i64 r1) w') w
noncomputable def body27 : Code := (Go.Proofs.Try.f27.body).getD .skip
def ann27 : Ann := { loops := [], joins := [] }
theorem tie27 (x : ArgsV [.one (.ptr), .one (.int .u64)]) (K : Value → World → Prop) (w : World) : F.mallowlaw11_Model_add env x.1 x.2.1 (fun r1 w' => K (.int .i64 r1) w') w =
    ev Go.Proofs.Try.prog (tabC [(29, C29)]) (ground Go.Proofs.Try.prog) ann27 body27 (finQ Go.Proofs.Try.prog Go.Proofs.Try.f27 K) (initF (mkArgs [.one (.ptr), .one (.int .u64)] x)) w := by kernel_rfl
theorem fits27 : FitsOne Go.Proofs.Try.prog 27 C27 :=
  fits_of_tie (T := [(29, C29)]) (A := ann27) (fn := Go.Proofs.Try.f27) (c := body27) (fits_cons fits29 fits_nil) mixed Go.Proofs.Try.func27 Go.Proofs.Try.call27 (by kernel_rfl) (by kernel_rfl) (by kernel_rfl) tie27

/- F.mallowlaw11_Model_set -/
noncomputable def C28 : Entry := fun args w K => unArgs [.one (.ptr), .one (.int .u64), .one (.int .u64), .one (.int .i64)] args.toList fun x => F.mallowlaw11_Model_set env x.1 x.2.1 x.2.2.1 x.2.2.2.1 (fun r1 w' => K (.int .i64 r1) w') w
noncomputable def body28 : Code := (Go.Proofs.Try.f28.body).getD .skip
def ann28 : Ann := { loops := [(6, [(9, .one (.int .u64))]), (11, [(10, .one (.int .u64))])], joins := [(2, [(16, .one (.bool))]), (4, [(24, .one (.bool))])] }
theorem tie28 (x : ArgsV [.one (.ptr), .one (.int .u64), .one (.int .u64), .one (.int .i64)]) (K : Value → World → Prop) (w : World) : F.mallowlaw11_Model_set env x.1 x.2.1 x.2.2.1 x.2.2.2.1 (fun r1 w' => K (.int .i64 r1) w') w =
    ev Go.Proofs.Try.prog (tabC [(29, C29)]) (ground Go.Proofs.Try.prog) ann28 body28 (finQ Go.Proofs.Try.prog Go.Proofs.Try.f28 K) (initF (mkArgs [.one (.ptr), .one (.int .u64), .one (.int .u64), .one (.int .i64)] x)) w := by kernel_rfl
theorem fits28 : FitsOne Go.Proofs.Try.prog 28 C28 :=
  fits_of_tie (T := [(29, C29)]) (A := ann28) (fn := Go.Proofs.Try.f28) (c := body28) (fits_cons fits29 fits_nil) mixed Go.Proofs.Try.func28 Go.Proofs.Try.call28 (by kernel_rfl) (by kernel_rfl) (by kernel_rfl) tie28

/- F.mallowlaw11_Model_at -/
noncomputable def C16 : Entry := fun args w K => unArgs [.one (.ptr), .one (.int .u64)] args.toList fun x => F.mallowlaw11_Model_at env x.1 x.2.1 (fun r1 w' => K (.int .i64 r1) w') w
noncomputable def body16 : Code := (Go.Proofs.Try.f16.body).getD .skip
def ann16 : Ann := { loops := [(2, [(5, .one (.int .i64))])], joins := [] }
theorem tie16 (x : ArgsV [.one (.ptr), .one (.int .u64)]) (K : Value → World → Prop) (w : World) : F.mallowlaw11_Model_at env x.1 x.2.1 (fun r1 w' => K (.int .i64 r1) w') w =
    ev Go.Proofs.Try.prog (tabC []) (ground Go.Proofs.Try.prog) ann16 body16 (finQ Go.Proofs.Try.prog Go.Proofs.Try.f16 K) (initF (mkArgs [.one (.ptr), .one (.int .u64)] x)) w := by kernel_rfl
theorem fits16 : FitsOne Go.Proofs.Try.prog 16 C16 :=
  fits_of_tie (T := []) (A := ann16) (fn := Go.Proofs.Try.f16) (c := body16) fits_nil mixed Go.Proofs.Try.func16 Go.Proofs.Try.call16 (by kernel_rfl) (by kernel_rfl) (by kernel_rfl) tie16

/- F.arena_Map_leaf -/
noncomputable def C20 : Entry := fun args w K => unArgs [.one (.ptr), .one (.int .u64)] args.toList fun x => F.arena_Map_leaf env x.1 x.2.1 (fun r1 w' => K (.pointer r1) w') w
noncomputable def body20 : Code := (Go.Proofs.Try.f20.body).getD .skip
def ann20 : Ann := { loops := [(7, [(25, .one (.int .i64))])], joins := [] }
theorem tie20 (x : ArgsV [.one (.ptr), .one (.int .u64)]) (K : Value → World → Prop) (w : World) : F.arena_Map_leaf env x.1 x.2.1 (fun r1 w' => K (.pointer r1) w') w =
    ev Go.Proofs.Try.prog (tabC [(23, C23), (18, C18)]) (ground Go.Proofs.Try.prog) ann20 body20 (finQ Go.Proofs.Try.prog Go.Proofs.Try.f20 K) (initF (mkArgs [.one (.ptr), .one (.int .u64)] x)) w := by kernel_rfl
theorem fits20 : FitsOne Go.Proofs.Try.prog 20 C20 :=
  fits_of_tie (T := [(23, C23), (18, C18)]) (A := ann20) (fn := Go.Proofs.Try.f20) (c := body20) (fits_cons fits23 (fits_cons fits18 fits_nil)) mixed Go.Proofs.Try.func20 Go.Proofs.Try.call20 (by kernel_rfl) (by kernel_rfl) (by kernel_rfl) tie20

/- F.arena_Map_Set_1 -/
noncomputable def C19 : Entry := fun args w K => unArgs [.one (.int .u64), .one (.int .u64), .one (.ptr), .one (.ptr)] args.toList fun x => F.arena_Map_Set_1 env x.1 x.2.1 x.2.2.1 x.2.2.2.1 (fun  w' => K (.tuple ⟨[]⟩) w') w
noncomputable def body19 : Code := (Go.Proofs.Try.f19.body).getD .skip
def ann19 : Ann := { loops := [(1, [(6, .one (.int .u64))])], joins := [] }
theorem tie19 (x : ArgsV [.one (.int .u64), .one (.int .u64), .one (.ptr), .one (.ptr)]) (K : Value → World → Prop) (w : World) : F.arena_Map_Set_1 env x.1 x.2.1 x.2.2.1 x.2.2.2.1 (fun  w' => K (.tuple ⟨[]⟩) w') w =
    ev Go.Proofs.Try.prog (tabC [(20, C20)]) (ground Go.Proofs.Try.prog) ann19 body19 (finQ Go.Proofs.Try.prog Go.Proofs.Try.f19 K) (initF (mkArgs [.one (.int .u64), .one (.int .u64), .one (.ptr), .one (.ptr)] x)) w := by kernel_rfl
theorem fits19 : FitsOne Go.Proofs.Try.prog 19 C19 :=
  fits_of_tie (T := [(20, C20)]) (A := ann19) (fn := Go.Proofs.Try.f19) (c := body19) (fits_cons fits20 fits_nil) mixed Go.Proofs.Try.func19 Go.Proofs.Try.call19 (by kernel_rfl) (by kernel_rfl) (by kernel_rfl) tie19

/- F.arena_rising -/
noncomputable def C26 : Entry := fun args w K => unArgs [.one (.sl)] args.toList fun x => F.arena_rising env x.1 (fun r1 w' => K (r1) w') w
noncomputable def body26 : Code := (Go.Proofs.Try.f26.body).getD .skip
def ann26 : Ann := { loops := [], joins := [] }
theorem tie26 (x : ArgsV [.one (.sl)]) (K : Value → World → Prop) (w : World) : F.arena_rising env x.1 (fun r1 w' => K (r1) w') w =
    ev Go.Proofs.Try.prog (tabC []) (ground Go.Proofs.Try.prog) ann26 body26 (finQ Go.Proofs.Try.prog Go.Proofs.Try.f26 K) (initF (mkArgs [.one (.sl)] x)) w := by kernel_rfl
theorem fits26 : FitsOne Go.Proofs.Try.prog 26 C26 :=
  fits_of_tie (T := []) (A := ann26) (fn := Go.Proofs.Try.f26) (c := body26) fits_nil mixed Go.Proofs.Try.func26 Go.Proofs.Try.call26 (by kernel_rfl) (by kernel_rfl) (by kernel_rfl) tie26

/- F.arena_rising_1 -/
noncomputable def C32 : Entry := fun args w K => unArgs [.one (.any), .one (.ptr)] args.toList fun x => F.arena_rising_1 env x.1 x.2.1 (fun  w' => K (.tuple ⟨[]⟩) w') w
noncomputable def body32 : Code := (Go.Proofs.Try.f32.body).getD .skip
def ann32 : Ann := { loops := [(1, [(8, .one (.int .i64))]), (4, [(5, .one (.int .u64))])], joins := [] }
theorem tie32 (x : ArgsV [.one (.any), .one (.ptr)]) (K : Value → World → Prop) (w : World) : F.arena_rising_1 env x.1 x.2.1 (fun  w' => K (.tuple ⟨[]⟩) w') w =
    ev Go.Proofs.Try.prog (tabC []) (ground Go.Proofs.Try.prog) ann32 body32 (finQ Go.Proofs.Try.prog Go.Proofs.Try.f32 K) (initF (mkArgs [.one (.any), .one (.ptr)] x)) w := by kernel_rfl
theorem fits32 : FitsOne Go.Proofs.Try.prog 32 C32 :=
  fits_of_tie (T := []) (A := ann32) (fn := Go.Proofs.Try.f32) (c := body32) fits_nil mixed Go.Proofs.Try.func32 Go.Proofs.Try.call32 (by kernel_rfl) (by kernel_rfl) (by kernel_rfl) tie32

/- F.stretch_Set_at_1 -/
noncomputable def C34 : Entry := fun args w K => unArgs [.one (.int .i64), .one (.ptr), .one (.ptr)] args.toList fun x => F.stretch_Set_at_1 env x.1 x.2.1 x.2.2.1 (fun r1 w' => K (.bool r1) w') w
noncomputable def body34 : Code := (Go.Proofs.Try.f34.body).getD .skip
def ann34 : Ann := { loops := [], joins := [] }
theorem tie34 (x : ArgsV [.one (.int .i64), .one (.ptr), .one (.ptr)]) (K : Value → World → Prop) (w : World) : F.stretch_Set_at_1 env x.1 x.2.1 x.2.2.1 (fun r1 w' => K (.bool r1) w') w =
    ev Go.Proofs.Try.prog (tabC []) (ground Go.Proofs.Try.prog) ann34 body34 (finQ Go.Proofs.Try.prog Go.Proofs.Try.f34 K) (initF (mkArgs [.one (.int .i64), .one (.ptr), .one (.ptr)] x)) w := by kernel_rfl
theorem fits34 : FitsOne Go.Proofs.Try.prog 34 C34 :=
  fits_of_tie (T := []) (A := ann34) (fn := Go.Proofs.Try.f34) (c := body34) fits_nil mixed Go.Proofs.Try.func34 Go.Proofs.Try.call34 (by kernel_rfl) (by kernel_rfl) (by kernel_rfl) tie34

end Go.Sh

set_option linter.all false
namespace Go.Sh
open Go.Proofs

theorem u64_wf {n : Int} (h : (Lit.int .u64 n).wf = true) : 0 ≤ n ∧ n < 18446744073709551616 := by
  have h1 : (decide (IntKind.u64.min ≤ n) && decide (n ≤ IntKind.u64.max)) = true := h
  rw [Bool.and_eq_true, decide_eq_true_iff, decide_eq_true_iff] at h1
  have e1 : IntKind.u64.min = 0 := by decide
  have e2 : IntKind.u64.max = 18446744073709551615 := by decide
  omega

theorem at1_mono {E : Env} {i : Int} {p1 p2 : Option Addr} {w : World} {K K' : Bool → World → Prop} (hk : ∀ b w', K b w' → K' b w') (h : F.stretch_Set_at_1 E i p1 p2 K w) : F.stretch_Set_at_1 E i p1 p2 K' w := by
  unfold F.stretch_Set_at_1 at h ⊢
  obtain ⟨q1, rfl, x2, h2, h⟩ := NC_elim h
  obtain ⟨q3, rfl, x4, h4, h⟩ := NC_elim h
  obtain ⟨q5, h5, hi, x6, h6, h⟩ := NC_elim h
  obtain ⟨q7, rfl, x8, h8, h⟩ := NC_elim h
  refine ⟨some q3, h2, x4, h4, ?_⟩
  rw [h5]
  exact ⟨hi, x6, h6, x8, h8, hk _ _ h⟩

/-- What is known of the environment of the arenas' law. -/
theorem envA : EnvA env where
  at1 := by
    intro i p1 p2 K w h
    refine fits34 #[.int .i64 i, .pointer p1, .pointer p2] w (fun v w' => ∃ b, v = .bool b ∧ K b w') ?_
    show F.stretch_Set_at_1 env i p1 p2 (fun b w' => ∃ b', Value.bool b = .bool b' ∧ K b' w') w
    exact at1_mono (fun b w' h => ⟨b, rfl, h⟩) h
  mono := by
    rintro g args w K K' hk ⟨h1, h2⟩
    exact ⟨h1, h2.mono fun e w' ⟨v, hv, h⟩ => ⟨v, hv, hk v w' h⟩⟩
  set1 := by
    intro x y p1 p2 R w h
    exact fits19 #[.int .u64 x, .int .u64 y, .pointer p1, .pointer p2] w R h

end Go.Sh
