/- Each shallow form is what the code of its function comes to. No further condition. -/
import Derived.Test.YtelbllakgljffaaF
import Derived.Test.YtelbllakgljffaaProg
import Derived.KernelRfl
import Derived.Test.YtelbllakgljffaaS
import Derived.Test.YtelbllakgljffaaA
import Derived.Calls
set_option linter.all false
set_option maxRecDepth 100000
set_option maxHeartbeats 4000000
namespace Go.Sh
open Go.Proofs

theorem mixed : Go.Proofs.Try.prog.follows .mixedOrders = true := by kernel_rfl
noncomputable def env : Env := { call := ground Go.Proofs.Try.prog, t_uint64 := 23, t_bool := 4, t_api_Answers := 28, t_vmem_Mem := 63, t__stretch_Set := 97, t_stretch_One := 76, t_vmem_fault := 99, t_api_Errno := 29, t__1024_uint64 := 100, t_int := 3, f_stretch_Set_at_1 := 63 }

/- F.slices_Clone___uint64_uint64_ -/
noncomputable def C26 : Entry := fun args w K Kp => unArgs [.one (.sl)] args.toList fun x => F.slices_Clone___uint64_uint64_ env x.1 (fun r1 w' => K (.slice r1.base r1.len r1.cap) w') w
noncomputable def body26 : Code := (Go.Proofs.Try.f26.body).getD .skip
def ann26 : Ann := { loops := [], joins := [] }
theorem tie26 (x : ArgsV [.one (.sl)]) (K Kp : Value → World → Prop) (w : World) : F.slices_Clone___uint64_uint64_ env x.1 (fun r1 w' => K (.slice r1.base r1.len r1.cap) w') w =
    ev Go.Proofs.Try.prog (tabC []) (ground Go.Proofs.Try.prog) ann26 body26 (finQ Go.Proofs.Try.prog Go.Proofs.Try.f26 K Kp) (initF (mkArgs [.one (.sl)] x)) w := by kernel_rfl
theorem fits26 : FitsOne Go.Proofs.Try.prog 26 C26 :=
  fits_of_tie (T := []) (A := ann26) (fn := Go.Proofs.Try.f26) (c := body26) fits_nil mixed Go.Proofs.Try.func26 Go.Proofs.Try.call26 (by kernel_rfl) (by kernel_rfl) (by kernel_rfl) tie26

/- F.slices_Clone___bool_bool_ -/
noncomputable def C27 : Entry := fun args w K Kp => unArgs [.one (.sl)] args.toList fun x => F.slices_Clone___bool_bool_ env x.1 (fun r1 w' => K (.slice r1.base r1.len r1.cap) w') w
noncomputable def body27 : Code := (Go.Proofs.Try.f27.body).getD .skip
def ann27 : Ann := { loops := [], joins := [] }
theorem tie27 (x : ArgsV [.one (.sl)]) (K Kp : Value → World → Prop) (w : World) : F.slices_Clone___bool_bool_ env x.1 (fun r1 w' => K (.slice r1.base r1.len r1.cap) w') w =
    ev Go.Proofs.Try.prog (tabC []) (ground Go.Proofs.Try.prog) ann27 body27 (finQ Go.Proofs.Try.prog Go.Proofs.Try.f27 K Kp) (initF (mkArgs [.one (.sl)] x)) w := by kernel_rfl
theorem fits27 : FitsOne Go.Proofs.Try.prog 27 C27 :=
  fits_of_tie (T := []) (A := ann27) (fn := Go.Proofs.Try.f27) (c := body27) fits_nil mixed Go.Proofs.Try.func27 Go.Proofs.Try.call27 (by kernel_rfl) (by kernel_rfl) (by kernel_rfl) tie27

/- F.vmem_New -/
noncomputable def C11 : Entry := fun args w K Kp => unArgs [.agg [.sl, .sl, .sl]] args.toList fun x => F.vmem_New env x.1.1 x.1.2.1 x.1.2.2.1 (fun r1 w' => K (.pointer r1) w') w
noncomputable def body11 : Code := (Go.Proofs.Try.f11.body).getD .skip
def ann11 : Ann := { loops := [], joins := [] }
theorem tie11 (x : ArgsV [.agg [.sl, .sl, .sl]]) (K Kp : Value → World → Prop) (w : World) : F.vmem_New env x.1.1 x.1.2.1 x.1.2.2.1 (fun r1 w' => K (.pointer r1) w') w =
    ev Go.Proofs.Try.prog (tabC [(26, C26), (27, C27)]) (ground Go.Proofs.Try.prog) ann11 body11 (finQ Go.Proofs.Try.prog Go.Proofs.Try.f11 K Kp) (initF (mkArgs [.agg [.sl, .sl, .sl]] x)) w := by kernel_rfl
theorem fits11 : FitsOne Go.Proofs.Try.prog 11 C11 :=
  fits_of_tie (T := [(26, C26), (27, C27)]) (A := ann11) (fn := Go.Proofs.Try.f11) (c := body11) (fits_cons fits26 (fits_cons fits27 fits_nil)) mixed Go.Proofs.Try.func11 Go.Proofs.Try.call11 (by kernel_rfl) (by kernel_rfl) (by kernel_rfl) tie11

/- F.vmem_used_bool_ -/
noncomputable def C28 : Entry := fun args w K Kp => unArgs [.one (.ptr)] args.toList fun x => F.vmem_used_bool_ env x.1 (fun r1 r2 w' => K (.tuple ⟨[.bool r1, .bool r2]⟩) w') w
noncomputable def body28 : Code := (Go.Proofs.Try.f28.body).getD .skip
def ann28 : Ann := { loops := [], joins := [] }
theorem tie28 (x : ArgsV [.one (.ptr)]) (K Kp : Value → World → Prop) (w : World) : F.vmem_used_bool_ env x.1 (fun r1 r2 w' => K (.tuple ⟨[.bool r1, .bool r2]⟩) w') w =
    ev Go.Proofs.Try.prog (tabC []) (ground Go.Proofs.Try.prog) ann28 body28 (finQ Go.Proofs.Try.prog Go.Proofs.Try.f28 K Kp) (initF (mkArgs [.one (.ptr)] x)) w := by kernel_rfl
theorem fits28 : FitsOne Go.Proofs.Try.prog 28 C28 :=
  fits_of_tie (T := []) (A := ann28) (fn := Go.Proofs.Try.f28) (c := body28) fits_nil mixed Go.Proofs.Try.func28 Go.Proofs.Try.call28 (by kernel_rfl) (by kernel_rfl) (by kernel_rfl) tie28

/- F.vmem_used_uint64_ -/
noncomputable def C29 : Entry := fun args w K Kp => unArgs [.one (.ptr)] args.toList fun x => F.vmem_used_uint64_ env x.1 (fun r1 r2 w' => K (.tuple ⟨[.int .u64 r1, .bool r2]⟩) w') w
noncomputable def body29 : Code := (Go.Proofs.Try.f29.body).getD .skip
def ann29 : Ann := { loops := [], joins := [] }
theorem tie29 (x : ArgsV [.one (.ptr)]) (K Kp : Value → World → Prop) (w : World) : F.vmem_used_uint64_ env x.1 (fun r1 r2 w' => K (.tuple ⟨[.int .u64 r1, .bool r2]⟩) w') w =
    ev Go.Proofs.Try.prog (tabC []) (ground Go.Proofs.Try.prog) ann29 body29 (finQ Go.Proofs.Try.prog Go.Proofs.Try.f29 K Kp) (initF (mkArgs [.one (.ptr)] x)) w := by kernel_rfl
theorem fits29 : FitsOne Go.Proofs.Try.prog 29 C29 :=
  fits_of_tie (T := []) (A := ann29) (fn := Go.Proofs.Try.f29) (c := body29) fits_nil mixed Go.Proofs.Try.func29 Go.Proofs.Try.call29 (by kernel_rfl) (by kernel_rfl) (by kernel_rfl) tie29

/- F.sort_Search -/
noncomputable def C62 : Entry := fun args w K Kp => unArgs [.one (.int .i64), .one (.any)] args.toList fun x => F.sort_Search env x.1 x.2.1 (fun r1 w' => K (.int .i64 r1) w') w
noncomputable def body62 : Code := (Go.Proofs.Try.f62.body).getD .skip
def ann62 : Ann := { loops := [(2, [(5, .one (.int .i64)), (6, .one (.int .i64))])], joins := [] }
theorem tie62 (x : ArgsV [.one (.int .i64), .one (.any)]) (K Kp : Value → World → Prop) (w : World) : F.sort_Search env x.1 x.2.1 (fun r1 w' => K (.int .i64 r1) w') w =
    ev Go.Proofs.Try.prog (tabC []) (ground Go.Proofs.Try.prog) ann62 body62 (finQ Go.Proofs.Try.prog Go.Proofs.Try.f62 K Kp) (initF (mkArgs [.one (.int .i64), .one (.any)] x)) w := by kernel_rfl
theorem fits62 : FitsOne Go.Proofs.Try.prog 62 C62 :=
  fits_of_tie (T := []) (A := ann62) (fn := Go.Proofs.Try.f62) (c := body62) fits_nil mixed Go.Proofs.Try.func62 Go.Proofs.Try.call62 (by kernel_rfl) (by kernel_rfl) (by kernel_rfl) tie62

/- F.stretch_Set_at -/
noncomputable def C54 : Entry := fun args w K Kp => unArgs [.one (.ptr), .one (.int .u64)] args.toList fun x => F.stretch_Set_at env x.1 x.2.1 (fun r1 w' => K (.int .i64 r1) w') w
noncomputable def body54 : Code := (Go.Proofs.Try.f54.body).getD .skip
def ann54 : Ann := { loops := [], joins := [] }
theorem tie54 (x : ArgsV [.one (.ptr), .one (.int .u64)]) (K Kp : Value → World → Prop) (w : World) : F.stretch_Set_at env x.1 x.2.1 (fun r1 w' => K (.int .i64 r1) w') w =
    ev Go.Proofs.Try.prog (tabC [(62, C62)]) (ground Go.Proofs.Try.prog) ann54 body54 (finQ Go.Proofs.Try.prog Go.Proofs.Try.f54 K Kp) (initF (mkArgs [.one (.ptr), .one (.int .u64)] x)) w := by kernel_rfl
theorem fits54 : FitsOne Go.Proofs.Try.prog 54 C54 :=
  fits_of_tie (T := [(62, C62)]) (A := ann54) (fn := Go.Proofs.Try.f54) (c := body54) (fits_cons fits62 fits_nil) mixed Go.Proofs.Try.func54 Go.Proofs.Try.call54 (by kernel_rfl) (by kernel_rfl) (by kernel_rfl) tie54

/- F.stretch_Set_Count -/
noncomputable def C34 : Entry := fun args w K Kp => unArgs [.one (.ptr), .one (.int .u64), .one (.int .u64)] args.toList fun x => F.stretch_Set_Count env x.1 x.2.1 x.2.2.1 (fun r1 w' => K (.int .u64 r1) w') w
noncomputable def body34 : Code := (Go.Proofs.Try.f34.body).getD .skip
def ann34 : Ann := { loops := [(3, [(7, .one (.int .u64)), (8, .one (.int .i64))])], joins := [] }
theorem tie34 (x : ArgsV [.one (.ptr), .one (.int .u64), .one (.int .u64)]) (K Kp : Value → World → Prop) (w : World) : F.stretch_Set_Count env x.1 x.2.1 x.2.2.1 (fun r1 w' => K (.int .u64 r1) w') w =
    ev Go.Proofs.Try.prog (tabC [(54, C54)]) (ground Go.Proofs.Try.prog) ann34 body34 (finQ Go.Proofs.Try.prog Go.Proofs.Try.f34 K Kp) (initF (mkArgs [.one (.ptr), .one (.int .u64), .one (.int .u64)] x)) w := by kernel_rfl
theorem fits34 : FitsOne Go.Proofs.Try.prog 34 C34 :=
  fits_of_tie (T := [(54, C54)]) (A := ann34) (fn := Go.Proofs.Try.f34) (c := body34) (fits_cons fits54 fits_nil) mixed Go.Proofs.Try.func34 Go.Proofs.Try.call34 (by kernel_rfl) (by kernel_rfl) (by kernel_rfl) tie34

/- F.vmem_Mem_fits -/
noncomputable def C30 : Entry := fun args w K Kp => unArgs [.one (.ptr), .one (.int .u64), .one (.int .u64)] args.toList fun x => F.vmem_Mem_fits env x.1 x.2.1 x.2.2.1 (fun r1 w' => K (.bool r1) w') w
noncomputable def body30 : Code := (Go.Proofs.Try.f30.body).getD .skip
def ann30 : Ann := { loops := [], joins := [] }
theorem tie30 (x : ArgsV [.one (.ptr), .one (.int .u64), .one (.int .u64)]) (K Kp : Value → World → Prop) (w : World) : F.vmem_Mem_fits env x.1 x.2.1 x.2.2.1 (fun r1 w' => K (.bool r1) w') w =
    ev Go.Proofs.Try.prog (tabC [(34, C34)]) (ground Go.Proofs.Try.prog) ann30 body30 (finQ Go.Proofs.Try.prog Go.Proofs.Try.f30 K Kp) (initF (mkArgs [.one (.ptr), .one (.int .u64), .one (.int .u64)] x)) w := by kernel_rfl
theorem fits30 : FitsOne Go.Proofs.Try.prog 30 C30 :=
  fits_of_tie (T := [(34, C34)]) (A := ann30) (fn := Go.Proofs.Try.f30) (c := body30) (fits_cons fits34 fits_nil) mixed Go.Proofs.Try.func30 Go.Proofs.Try.call30 (by kernel_rfl) (by kernel_rfl) (by kernel_rfl) tie30

/- F.stretch_Set_All -/
noncomputable def C53 : Entry := fun args w K Kp => unArgs [.one (.ptr)] args.toList fun x => F.stretch_Set_All env x.1 (fun r1 w' => K (.slice r1.base r1.len r1.cap) w') w
noncomputable def body53 : Code := (Go.Proofs.Try.f53.body).getD .skip
def ann53 : Ann := { loops := [], joins := [] }
theorem tie53 (x : ArgsV [.one (.ptr)]) (K Kp : Value → World → Prop) (w : World) : F.stretch_Set_All env x.1 (fun r1 w' => K (.slice r1.base r1.len r1.cap) w') w =
    ev Go.Proofs.Try.prog (tabC []) (ground Go.Proofs.Try.prog) ann53 body53 (finQ Go.Proofs.Try.prog Go.Proofs.Try.f53 K Kp) (initF (mkArgs [.one (.ptr)] x)) w := by kernel_rfl
theorem fits53 : FitsOne Go.Proofs.Try.prog 53 C53 :=
  fits_of_tie (T := []) (A := ann53) (fn := Go.Proofs.Try.f53) (c := body53) fits_nil mixed Go.Proofs.Try.func53 Go.Proofs.Try.call53 (by kernel_rfl) (by kernel_rfl) (by kernel_rfl) tie53

/- F.vmem_Mem_place -/
noncomputable def C31 : Entry := fun args w K Kp => unArgs [.one (.ptr), .one (.int .u64), .one (.int .u64)] args.toList fun x => F.vmem_Mem_place env x.1 x.2.1 x.2.2.1 (fun r1 r2 w' => K (.tuple ⟨[.int .u64 r1, .bool r2]⟩) w') w
noncomputable def body31 : Code := (Go.Proofs.Try.f31.body).getD .skip
def ann31 : Ann := { loops := [(5, [(8, .one (.int .u64)), (24, .one (.int .i64))])], joins := [(9, []), (11, [(8, .one (.int .u64))])] }
theorem tie31 (x : ArgsV [.one (.ptr), .one (.int .u64), .one (.int .u64)]) (K Kp : Value → World → Prop) (w : World) : F.vmem_Mem_place env x.1 x.2.1 x.2.2.1 (fun r1 r2 w' => K (.tuple ⟨[.int .u64 r1, .bool r2]⟩) w') w =
    ev Go.Proofs.Try.prog (tabC [(53, C53), (30, C30)]) (ground Go.Proofs.Try.prog) ann31 body31 (finQ Go.Proofs.Try.prog Go.Proofs.Try.f31 K Kp) (initF (mkArgs [.one (.ptr), .one (.int .u64), .one (.int .u64)] x)) w := by kernel_rfl
theorem fits31 : FitsOne Go.Proofs.Try.prog 31 C31 :=
  fits_of_tie (T := [(53, C53), (30, C30)]) (A := ann31) (fn := Go.Proofs.Try.f31) (c := body31) (fits_cons fits53 (fits_cons fits30 fits_nil)) mixed Go.Proofs.Try.func31 Go.Proofs.Try.call31 (by kernel_rfl) (by kernel_rfl) (by kernel_rfl) tie31

/- F.stretch_Set_Cut -/
noncomputable def C36 : Entry := fun args w K Kp => unArgs [.one (.ptr), .one (.int .u64), .one (.int .u64)] args.toList fun x => F.stretch_Set_Cut env x.1 x.2.1 x.2.2.1 (fun  w' => K (.tuple ⟨[]⟩) w') w
noncomputable def body36 : Code := (Go.Proofs.Try.f36.body).getD .skip
def ann36 : Ann := { loops := [(5, [(7, .one (.int .i64)), (8, .one (.sl))])], joins := [(10, [(8, .one (.sl))]), (12, [(7, .one (.int .i64)), (8, .one (.sl))])] }
theorem tie36 (x : ArgsV [.one (.ptr), .one (.int .u64), .one (.int .u64)]) (K Kp : Value → World → Prop) (w : World) : F.stretch_Set_Cut env x.1 x.2.1 x.2.2.1 (fun  w' => K (.tuple ⟨[]⟩) w') w =
    ev Go.Proofs.Try.prog (tabC [(34, C34), (54, C54)]) (ground Go.Proofs.Try.prog) ann36 body36 (finQ Go.Proofs.Try.prog Go.Proofs.Try.f36 K Kp) (initF (mkArgs [.one (.ptr), .one (.int .u64), .one (.int .u64)] x)) w := by kernel_rfl
theorem fits36 : FitsOne Go.Proofs.Try.prog 36 C36 :=
  fits_of_tie (T := [(34, C34), (54, C54)]) (A := ann36) (fn := Go.Proofs.Try.f36) (c := body36) (fits_cons fits34 (fits_cons fits54 fits_nil)) mixed Go.Proofs.Try.func36 Go.Proofs.Try.call36 (by kernel_rfl) (by kernel_rfl) (by kernel_rfl) tie36

/- F.stretch_Set_Add -/
noncomputable def C32 : Entry := fun args w K Kp => unArgs [.one (.ptr), .one (.int .u64), .one (.int .u64)] args.toList fun x => F.stretch_Set_Add env x.1 x.2.1 x.2.2.1 (fun  w' => K (.tuple ⟨[]⟩) w') w
noncomputable def body32 : Code := (Go.Proofs.Try.f32.body).getD .skip
def ann32 : Ann := { loops := [], joins := [(7, [(51, .one (.bool))]), (9, [(8, .one (.int .i64))]), (10, [(77, .one (.bool))]), (12, [(6, .one (.int .i64))])] }
theorem tie32 (x : ArgsV [.one (.ptr), .one (.int .u64), .one (.int .u64)]) (K Kp : Value → World → Prop) (w : World) : F.stretch_Set_Add env x.1 x.2.1 x.2.2.1 (fun  w' => K (.tuple ⟨[]⟩) w') w =
    ev Go.Proofs.Try.prog (tabC [(36, C36), (54, C54)]) (ground Go.Proofs.Try.prog) ann32 body32 (finQ Go.Proofs.Try.prog Go.Proofs.Try.f32 K Kp) (initF (mkArgs [.one (.ptr), .one (.int .u64), .one (.int .u64)] x)) w := by kernel_rfl
theorem fits32 : FitsOne Go.Proofs.Try.prog 32 C32 :=
  fits_of_tie (T := [(36, C36), (54, C54)]) (A := ann32) (fn := Go.Proofs.Try.f32) (c := body32) (fits_cons fits36 (fits_cons fits54 fits_nil)) mixed Go.Proofs.Try.func32 Go.Proofs.Try.call32 (by kernel_rfl) (by kernel_rfl) (by kernel_rfl) tie32

/- F.vmem_Mem_Reserve -/
noncomputable def C12 : Entry := fun args w K Kp => unArgs [.one (.ptr), .one (.int .u64), .one (.int .u64)] args.toList fun x => F.vmem_Mem_Reserve env x.1 x.2.1 x.2.2.1 (fun r1 r2 w' => K (.tuple ⟨[.int .u64 r1, .int .i64 r2]⟩) w') w
noncomputable def body12 : Code := (Go.Proofs.Try.f12.body).getD .skip
def ann12 : Ann := { loops := [(9, [(10, .one (.int .u64)), (11, .one (.bool)), (52, .one (.int .i64))])], joins := [(2, [(24, .one (.bool))]), (8, [(11, .one (.bool))])] }
theorem tie12 (x : ArgsV [.one (.ptr), .one (.int .u64), .one (.int .u64)]) (K Kp : Value → World → Prop) (w : World) : F.vmem_Mem_Reserve env x.1 x.2.1 x.2.2.1 (fun r1 r2 w' => K (.tuple ⟨[.int .u64 r1, .int .i64 r2]⟩) w') w =
    ev Go.Proofs.Try.prog (tabC [(28, C28), (29, C29), (30, C30), (31, C31), (32, C32)]) (ground Go.Proofs.Try.prog) ann12 body12 (finQ Go.Proofs.Try.prog Go.Proofs.Try.f12 K Kp) (initF (mkArgs [.one (.ptr), .one (.int .u64), .one (.int .u64)] x)) w := by kernel_rfl
theorem fits12 : FitsOne Go.Proofs.Try.prog 12 C12 :=
  fits_of_tie (T := [(28, C28), (29, C29), (30, C30), (31, C31), (32, C32)]) (A := ann12) (fn := Go.Proofs.Try.f12) (c := body12) (fits_cons fits28 (fits_cons fits29 (fits_cons fits30 (fits_cons fits31 (fits_cons fits32 fits_nil))))) mixed Go.Proofs.Try.func12 Go.Proofs.Try.call12 (by kernel_rfl) (by kernel_rfl) (by kernel_rfl) tie12

/- F.vmem_right -/
noncomputable def C33 : Entry := fun args w K Kp => unArgs [.one (.int .u64), .one (.int .u64)] args.toList fun x => F.vmem_right env x.1 x.2.1 (fun r1 w' => K (.bool r1) w') w
noncomputable def body33 : Code := (Go.Proofs.Try.f33.body).getD .skip
def ann33 : Ann := { loops := [], joins := [] }
theorem tie33 (x : ArgsV [.one (.int .u64), .one (.int .u64)]) (K Kp : Value → World → Prop) (w : World) : F.vmem_right env x.1 x.2.1 (fun r1 w' => K (.bool r1) w') w =
    ev Go.Proofs.Try.prog (tabC []) (ground Go.Proofs.Try.prog) ann33 body33 (finQ Go.Proofs.Try.prog Go.Proofs.Try.f33 K Kp) (initF (mkArgs [.one (.int .u64), .one (.int .u64)] x)) w := by kernel_rfl
theorem fits33 : FitsOne Go.Proofs.Try.prog 33 C33 :=
  fits_of_tie (T := []) (A := ann33) (fn := Go.Proofs.Try.f33) (c := body33) fits_nil mixed Go.Proofs.Try.func33 Go.Proofs.Try.call33 (by kernel_rfl) (by kernel_rfl) (by kernel_rfl) tie33

/- F.stretch_Set_Within -/
noncomputable def C35 : Entry := fun args w K Kp => unArgs [.one (.ptr), .one (.int .u64), .one (.int .u64)] args.toList fun x => F.stretch_Set_Within env x.1 x.2.1 x.2.2.1 (fun r1 w' => K (.slice r1.base r1.len r1.cap) w') w
noncomputable def body35 : Code := (Go.Proofs.Try.f35.body).getD .skip
def ann35 : Ann := { loops := [(3, [(7, .one (.sl)), (8, .one (.int .i64))])], joins := [] }
theorem tie35 (x : ArgsV [.one (.ptr), .one (.int .u64), .one (.int .u64)]) (K Kp : Value → World → Prop) (w : World) : F.stretch_Set_Within env x.1 x.2.1 x.2.2.1 (fun r1 w' => K (.slice r1.base r1.len r1.cap) w') w =
    ev Go.Proofs.Try.prog (tabC [(54, C54)]) (ground Go.Proofs.Try.prog) ann35 body35 (finQ Go.Proofs.Try.prog Go.Proofs.Try.f35 K Kp) (initF (mkArgs [.one (.ptr), .one (.int .u64), .one (.int .u64)] x)) w := by kernel_rfl
theorem fits35 : FitsOne Go.Proofs.Try.prog 35 C35 :=
  fits_of_tie (T := [(54, C54)]) (A := ann35) (fn := Go.Proofs.Try.f35) (c := body35) (fits_cons fits54 fits_nil) mixed Go.Proofs.Try.func35 Go.Proofs.Try.call35 (by kernel_rfl) (by kernel_rfl) (by kernel_rfl) tie35

/- F.vmem_Mem_Commit -/
noncomputable def C13 : Entry := fun args w K Kp => unArgs [.one (.ptr), .one (.int .u64), .one (.int .u64)] args.toList fun x => F.vmem_Mem_Commit env x.1 x.2.1 x.2.2.1 (fun r1 w' => K (.int .i64 r1) w') w
noncomputable def body13 : Code := (Go.Proofs.Try.f13.body).getD .skip
def ann13 : Ann := { loops := [(12, [(56, .one (.int .i64))]), (15, [(12, .one (.int .u64))])], joins := [(22, [])] }
theorem tie13 (x : ArgsV [.one (.ptr), .one (.int .u64), .one (.int .u64)]) (K Kp : Value → World → Prop) (w : World) : F.vmem_Mem_Commit env x.1 x.2.1 x.2.2.1 (fun r1 w' => K (.int .i64 r1) w') w =
    ev Go.Proofs.Try.prog (tabC [(33, C33), (34, C34), (28, C28), (35, C35), (29, C29), (36, C36), (32, C32)]) (ground Go.Proofs.Try.prog) ann13 body13 (finQ Go.Proofs.Try.prog Go.Proofs.Try.f13 K Kp) (initF (mkArgs [.one (.ptr), .one (.int .u64), .one (.int .u64)] x)) w := by kernel_rfl
theorem fits13 : FitsOne Go.Proofs.Try.prog 13 C13 :=
  fits_of_tie (T := [(33, C33), (34, C34), (28, C28), (35, C35), (29, C29), (36, C36), (32, C32)]) (A := ann13) (fn := Go.Proofs.Try.f13) (c := body13) (fits_cons fits33 (fits_cons fits34 (fits_cons fits28 (fits_cons fits35 (fits_cons fits29 (fits_cons fits36 (fits_cons fits32 fits_nil))))))) mixed Go.Proofs.Try.func13 Go.Proofs.Try.call13 (by kernel_rfl) (by kernel_rfl) (by kernel_rfl) tie13

/- F.stretch_Set_Has -/
noncomputable def C43 : Entry := fun args w K Kp => unArgs [.one (.ptr), .one (.int .u64)] args.toList fun x => F.stretch_Set_Has env x.1 x.2.1 (fun r1 w' => K (.bool r1) w') w
noncomputable def body43 : Code := (Go.Proofs.Try.f43.body).getD .skip
def ann43 : Ann := { loops := [], joins := [] }
theorem tie43 (x : ArgsV [.one (.ptr), .one (.int .u64)]) (K Kp : Value → World → Prop) (w : World) : F.stretch_Set_Has env x.1 x.2.1 (fun r1 w' => K (.bool r1) w') w =
    ev Go.Proofs.Try.prog (tabC [(54, C54)]) (ground Go.Proofs.Try.prog) ann43 body43 (finQ Go.Proofs.Try.prog Go.Proofs.Try.f43 K Kp) (initF (mkArgs [.one (.ptr), .one (.int .u64)] x)) w := by kernel_rfl
theorem fits43 : FitsOne Go.Proofs.Try.prog 43 C43 :=
  fits_of_tie (T := [(54, C54)]) (A := ann43) (fn := Go.Proofs.Try.f43) (c := body43) (fits_cons fits54 fits_nil) mixed Go.Proofs.Try.func43 Go.Proofs.Try.call43 (by kernel_rfl) (by kernel_rfl) (by kernel_rfl) tie43

/- F.vmem_Mem_at -/
noncomputable def C38 : Entry := fun args w K Kp => unArgs [.one (.ptr), .one (.int .u64)] args.toList fun x => F.vmem_Mem_at env x.1 x.2.1 (fun r1 r2 w' => K (.tuple ⟨[.int .u64 r1, .int .u64 r2]⟩) w') Kp w
noncomputable def body38 : Code := (Go.Proofs.Try.f38.body).getD .skip
def ann38 : Ann := { loops := [], joins := [] }
theorem tie38 (x : ArgsV [.one (.ptr), .one (.int .u64)]) (K Kp : Value → World → Prop) (w : World) : F.vmem_Mem_at env x.1 x.2.1 (fun r1 r2 w' => K (.tuple ⟨[.int .u64 r1, .int .u64 r2]⟩) w') Kp w =
    ev Go.Proofs.Try.prog (tabC [(43, C43)]) (ground Go.Proofs.Try.prog) ann38 body38 (finQ Go.Proofs.Try.prog Go.Proofs.Try.f38 K Kp) (initF (mkArgs [.one (.ptr), .one (.int .u64)] x)) w := by kernel_rfl
theorem fits38 : FitsOne Go.Proofs.Try.prog 38 C38 :=
  fits_of_tie (T := [(43, C43)]) (A := ann38) (fn := Go.Proofs.Try.f38) (c := body38) (fits_cons fits43 fits_nil) mixed Go.Proofs.Try.func38 Go.Proofs.Try.call38 (by kernel_rfl) (by kernel_rfl) (by kernel_rfl) tie38

/- F.vmem_caught -/
noncomputable def D37 : EntryD := fun args pv w K => unArgs [.one (.ptr)] args.toList fun x => F.vmem_caught env x.1 (pv.getD .nilIface) (fun w' => K pv.isSome w') w
noncomputable def body37 : Code := (Go.Proofs.Try.f37.body).getD .skip
def ann37 : Ann := { loops := [], joins := [] }
noncomputable def rest37 : Code := ((recOf body37).map (·.2)).getD .skip
theorem tie37 (x : ArgsV [.one (.ptr)]) (v : Value) (K : World → Prop) (w : World) : F.vmem_caught env x.1 v K w =
    ev Go.Proofs.Try.prog (tabC []) (ground Go.Proofs.Try.prog) ann37 rest37 (finQ Go.Proofs.Try.prog Go.Proofs.Try.f37 (fun _ w' => K w') noP) ((initF (mkArgs [.one (.ptr)] x)).put 5 v) w := by kernel_rfl
theorem fitsD37 : FitsDOne Go.Proofs.Try.prog 37 D37 :=
  fitsD_rec (T := []) (A := ann37) (fn := Go.Proofs.Try.f37) (c := body37) (y := rest37) (d := 5) (l := [.one (.ptr)]) (F := fun (x : ArgsV [.one (.ptr)]) v K w => F.vmem_caught env x.1 v K w) fits_nil mixed Go.Proofs.Try.func37 Go.Proofs.Try.call37 (by kernel_rfl) (by kernel_rfl) (by kernel_rfl) (by kernel_rfl) (by kernel_rfl) tie37

/- F.vmem_Mem_Load -/
noncomputable def C14 : Entry := fun args w K Kp => unArgs [.one (.ptr), .one (.int .u64)] args.toList fun x => F.vmem_Mem_Load env x.1 x.2.1 (fun r1 r2 w' => K (.tuple ⟨[.int .u64 r1, .int .i64 r2]⟩) w') w
noncomputable def body14 : Code := (Go.Proofs.Try.f14.body).getD .skip
def ann14 : Ann := { loops := [], joins := [] }
theorem tie14 (x : ArgsV [.one (.ptr), .one (.int .u64)]) (K : Value → World → Prop) (w : World) : F.vmem_Mem_Load env x.1 x.2.1 (fun r1 r2 w' => K (.tuple ⟨[.int .u64 r1, .int .i64 r2]⟩) w') w =
    evD Go.Proofs.Try.prog (tabC [(38, C38)]) (ground Go.Proofs.Try.prog) ann14 (finQ Go.Proofs.Try.prog Go.Proofs.Try.f14 K noP) (finD Go.Proofs.Try.prog Go.Proofs.Try.f14 (tabD [(37, D37)]) K noP) body14 (initF (mkArgs [.one (.ptr), .one (.int .u64)] x)) w := by kernel_rfl
theorem fits14 : FitsOne Go.Proofs.Try.prog 14 C14 :=
  fits_of_tieD (T := [(38, C38)]) (TD := [(37, D37)]) (A := ann14) (fn := Go.Proofs.Try.f14) (c := body14) (fits_cons fits38 fits_nil) (fitsD_cons fitsD37 fitsD_nil) mixed Go.Proofs.Try.func14 Go.Proofs.Try.call14 (by kernel_rfl) (by kernel_rfl) (by kernel_rfl) tie14

/- F.vmem_forget_uint64_ -/
noncomputable def C39 : Entry := fun args w K Kp => unArgs [.one (.map), .one (.int .u64), .one (.int .u64)] args.toList fun x => F.vmem_forget_uint64_ env x.1 x.2.1 x.2.2.1 (fun  w' => K (.tuple ⟨[]⟩) w') w
noncomputable def body39 : Code := (Go.Proofs.Try.f39.body).getD .skip
def ann39 : Ann := { loops := [(2, []), (7, [(7, .one (.int .u64))])], joins := [(3, [(18, .one (.bool))]), (5, [(28, .one (.bool))])] }
theorem tie39 (x : ArgsV [.one (.map), .one (.int .u64), .one (.int .u64)]) (K Kp : Value → World → Prop) (w : World) : F.vmem_forget_uint64_ env x.1 x.2.1 x.2.2.1 (fun  w' => K (.tuple ⟨[]⟩) w') w =
    ev Go.Proofs.Try.prog (tabC []) (ground Go.Proofs.Try.prog) ann39 body39 (finQ Go.Proofs.Try.prog Go.Proofs.Try.f39 K Kp) (initF (mkArgs [.one (.map), .one (.int .u64), .one (.int .u64)] x)) w := by kernel_rfl
theorem fits39 : FitsOne Go.Proofs.Try.prog 39 C39 :=
  fits_of_tie (T := []) (A := ann39) (fn := Go.Proofs.Try.f39) (c := body39) fits_nil mixed Go.Proofs.Try.func39 Go.Proofs.Try.call39 (by kernel_rfl) (by kernel_rfl) (by kernel_rfl) tie39

/- F.vmem_forget___1024_uint64_ -/
noncomputable def C40 : Entry := fun args w K Kp => unArgs [.one (.map), .one (.int .u64), .one (.int .u64)] args.toList fun x => F.vmem_forget___1024_uint64_ env x.1 x.2.1 x.2.2.1 (fun  w' => K (.tuple ⟨[]⟩) w') w
noncomputable def body40 : Code := (Go.Proofs.Try.f40.body).getD .skip
def ann40 : Ann := { loops := [(2, []), (7, [(7, .one (.int .u64))])], joins := [(3, [(18, .one (.bool))]), (5, [(28, .one (.bool))])] }
theorem tie40 (x : ArgsV [.one (.map), .one (.int .u64), .one (.int .u64)]) (K Kp : Value → World → Prop) (w : World) : F.vmem_forget___1024_uint64_ env x.1 x.2.1 x.2.2.1 (fun  w' => K (.tuple ⟨[]⟩) w') w =
    ev Go.Proofs.Try.prog (tabC []) (ground Go.Proofs.Try.prog) ann40 body40 (finQ Go.Proofs.Try.prog Go.Proofs.Try.f40 K Kp) (initF (mkArgs [.one (.map), .one (.int .u64), .one (.int .u64)] x)) w := by kernel_rfl
theorem fits40 : FitsOne Go.Proofs.Try.prog 40 C40 :=
  fits_of_tie (T := []) (A := ann40) (fn := Go.Proofs.Try.f40) (c := body40) fits_nil mixed Go.Proofs.Try.func40 Go.Proofs.Try.call40 (by kernel_rfl) (by kernel_rfl) (by kernel_rfl) tie40

/- F.vmem_Mem_Release -/
noncomputable def C15 : Entry := fun args w K Kp => unArgs [.one (.ptr), .one (.int .u64), .one (.int .u64)] args.toList fun x => F.vmem_Mem_Release env x.1 x.2.1 x.2.2.1 (fun r1 w' => K (.int .i64 r1) w') w
noncomputable def body15 : Code := (Go.Proofs.Try.f15.body).getD .skip
def ann15 : Ann := { loops := [], joins := [] }
theorem tie15 (x : ArgsV [.one (.ptr), .one (.int .u64), .one (.int .u64)]) (K Kp : Value → World → Prop) (w : World) : F.vmem_Mem_Release env x.1 x.2.1 x.2.2.1 (fun r1 w' => K (.int .i64 r1) w') w =
    ev Go.Proofs.Try.prog (tabC [(33, C33), (34, C34), (36, C36), (32, C32), (39, C39), (40, C40)]) (ground Go.Proofs.Try.prog) ann15 body15 (finQ Go.Proofs.Try.prog Go.Proofs.Try.f15 K Kp) (initF (mkArgs [.one (.ptr), .one (.int .u64), .one (.int .u64)] x)) w := by kernel_rfl
theorem fits15 : FitsOne Go.Proofs.Try.prog 15 C15 :=
  fits_of_tie (T := [(33, C33), (34, C34), (36, C36), (32, C32), (39, C39), (40, C40)]) (A := ann15) (fn := Go.Proofs.Try.f15) (c := body15) (fits_cons fits33 (fits_cons fits34 (fits_cons fits36 (fits_cons fits32 (fits_cons fits39 (fits_cons fits40 fits_nil)))))) mixed Go.Proofs.Try.func15 Go.Proofs.Try.call15 (by kernel_rfl) (by kernel_rfl) (by kernel_rfl) tie15

/- F.stretch_Set_Sum -/
noncomputable def C41 : Entry := fun args w K Kp => unArgs [.one (.ptr)] args.toList fun x => F.stretch_Set_Sum env x.1 (fun r1 w' => K (.int .u64 r1) w') w
noncomputable def body41 : Code := (Go.Proofs.Try.f41.body).getD .skip
def ann41 : Ann := { loops := [], joins := [] }
theorem tie41 (x : ArgsV [.one (.ptr)]) (K Kp : Value → World → Prop) (w : World) : F.stretch_Set_Sum env x.1 (fun r1 w' => K (.int .u64 r1) w') w =
    ev Go.Proofs.Try.prog (tabC []) (ground Go.Proofs.Try.prog) ann41 body41 (finQ Go.Proofs.Try.prog Go.Proofs.Try.f41 K Kp) (initF (mkArgs [.one (.ptr)] x)) w := by kernel_rfl
theorem fits41 : FitsOne Go.Proofs.Try.prog 41 C41 :=
  fits_of_tie (T := []) (A := ann41) (fn := Go.Proofs.Try.f41) (c := body41) fits_nil mixed Go.Proofs.Try.func41 Go.Proofs.Try.call41 (by kernel_rfl) (by kernel_rfl) (by kernel_rfl) tie41

/- F.vmem_Mem_Count -/
noncomputable def C16 : Entry := fun args w K Kp => unArgs [.one (.ptr), .one (.int .i64)] args.toList fun x => F.vmem_Mem_Count env x.1 x.2.1 (fun r1 w' => K (.int .u64 r1) w') w
noncomputable def body16 : Code := (Go.Proofs.Try.f16.body).getD .skip
def ann16 : Ann := { loops := [], joins := [] }
theorem tie16 (x : ArgsV [.one (.ptr), .one (.int .i64)]) (K Kp : Value → World → Prop) (w : World) : F.vmem_Mem_Count env x.1 x.2.1 (fun r1 w' => K (.int .u64 r1) w') w =
    ev Go.Proofs.Try.prog (tabC [(41, C41)]) (ground Go.Proofs.Try.prog) ann16 body16 (finQ Go.Proofs.Try.prog Go.Proofs.Try.f16 K Kp) (initF (mkArgs [.one (.ptr), .one (.int .i64)] x)) w := by kernel_rfl
theorem fits16 : FitsOne Go.Proofs.Try.prog 16 C16 :=
  fits_of_tie (T := [(41, C41)]) (A := ann16) (fn := Go.Proofs.Try.f16) (c := body16) (fits_cons fits41 fits_nil) mixed Go.Proofs.Try.func16 Go.Proofs.Try.call16 (by kernel_rfl) (by kernel_rfl) (by kernel_rfl) tie16

/- F.vmem_Mem_stored -/
noncomputable def C42 : Entry := fun args w K Kp => unArgs [.one (.ptr), .one (.int .u64)] args.toList fun x => F.vmem_Mem_stored env x.1 x.2.1 (fun r1 w' => K (.pointer r1) w') w
noncomputable def body42 : Code := (Go.Proofs.Try.f42.body).getD .skip
def ann42 : Ann := { loops := [(5, [(16, .one (.int .i64))])], joins := [] }
theorem tie42 (x : ArgsV [.one (.ptr), .one (.int .u64)]) (K Kp : Value → World → Prop) (w : World) : F.vmem_Mem_stored env x.1 x.2.1 (fun r1 w' => K (.pointer r1) w') w =
    ev Go.Proofs.Try.prog (tabC []) (ground Go.Proofs.Try.prog) ann42 body42 (finQ Go.Proofs.Try.prog Go.Proofs.Try.f42 K Kp) (initF (mkArgs [.one (.ptr), .one (.int .u64)] x)) w := by kernel_rfl
theorem fits42 : FitsOne Go.Proofs.Try.prog 42 C42 :=
  fits_of_tie (T := []) (A := ann42) (fn := Go.Proofs.Try.f42) (c := body42) fits_nil mixed Go.Proofs.Try.func42 Go.Proofs.Try.call42 (by kernel_rfl) (by kernel_rfl) (by kernel_rfl) tie42

/- F.vmem_Mem_Store -/
noncomputable def C18 : Entry := fun args w K Kp => unArgs [.one (.ptr), .one (.int .u64), .one (.int .u64)] args.toList fun x => F.vmem_Mem_Store env x.1 x.2.1 x.2.2.1 (fun r1 w' => K (.int .i64 r1) w') w
noncomputable def body18 : Code := (Go.Proofs.Try.f18.body).getD .skip
def ann18 : Ann := { loops := [], joins := [] }
theorem tie18 (x : ArgsV [.one (.ptr), .one (.int .u64), .one (.int .u64)]) (K : Value → World → Prop) (w : World) : F.vmem_Mem_Store env x.1 x.2.1 x.2.2.1 (fun r1 w' => K (.int .i64 r1) w') w =
    evD Go.Proofs.Try.prog (tabC [(38, C38), (42, C42)]) (ground Go.Proofs.Try.prog) ann18 (finQ Go.Proofs.Try.prog Go.Proofs.Try.f18 K noP) (finD Go.Proofs.Try.prog Go.Proofs.Try.f18 (tabD [(37, D37)]) K noP) body18 (initF (mkArgs [.one (.ptr), .one (.int .u64), .one (.int .u64)] x)) w := by kernel_rfl
theorem fits18 : FitsOne Go.Proofs.Try.prog 18 C18 :=
  fits_of_tieD (T := [(38, C38), (42, C42)]) (TD := [(37, D37)]) (A := ann18) (fn := Go.Proofs.Try.f18) (c := body18) (fits_cons fits38 (fits_cons fits42 fits_nil)) (fitsD_cons fitsD37 fitsD_nil) mixed Go.Proofs.Try.func18 Go.Proofs.Try.call18 (by kernel_rfl) (by kernel_rfl) (by kernel_rfl) tie18

/- F.vmem_Mem_State -/
noncomputable def C19 : Entry := fun args w K Kp => unArgs [.one (.ptr), .one (.int .u64)] args.toList fun x => F.vmem_Mem_State env x.1 x.2.1 (fun r1 w' => K (.int .i64 r1) w') w
noncomputable def body19 : Code := (Go.Proofs.Try.f19.body).getD .skip
def ann19 : Ann := { loops := [], joins := [] }
theorem tie19 (x : ArgsV [.one (.ptr), .one (.int .u64)]) (K Kp : Value → World → Prop) (w : World) : F.vmem_Mem_State env x.1 x.2.1 (fun r1 w' => K (.int .i64 r1) w') w =
    ev Go.Proofs.Try.prog (tabC [(43, C43)]) (ground Go.Proofs.Try.prog) ann19 body19 (finQ Go.Proofs.Try.prog Go.Proofs.Try.f19 K Kp) (initF (mkArgs [.one (.ptr), .one (.int .u64)] x)) w := by kernel_rfl
theorem fits19 : FitsOne Go.Proofs.Try.prog 19 C19 :=
  fits_of_tie (T := [(43, C43)]) (A := ann19) (fn := Go.Proofs.Try.f19) (c := body19) (fits_cons fits43 fits_nil) mixed Go.Proofs.Try.func19 Go.Proofs.Try.call19 (by kernel_rfl) (by kernel_rfl) (by kernel_rfl) tie19

/- F.mallowlaw3_awake -/
noncomputable def C17 : Entry := fun args w K Kp => unArgs [] args.toList fun x => F.mallowlaw3_awake env  (fun r1 w' => K (.bool r1) w') w
noncomputable def body17 : Code := (Go.Proofs.Try.f17.body).getD .skip
def ann17 : Ann := { loops := [], joins := [] }
theorem tie17 (x : ArgsV []) (K Kp : Value → World → Prop) (w : World) : F.mallowlaw3_awake env  (fun r1 w' => K (.bool r1) w') w =
    ev Go.Proofs.Try.prog (tabC [(11, C11), (12, C12), (13, C13), (18, C18), (14, C14), (15, C15), (19, C19), (16, C16)]) (ground Go.Proofs.Try.prog) ann17 body17 (finQ Go.Proofs.Try.prog Go.Proofs.Try.f17 K Kp) (initF (mkArgs [] x)) w := by kernel_rfl
theorem fits17 : FitsOne Go.Proofs.Try.prog 17 C17 :=
  fits_of_tie (T := [(11, C11), (12, C12), (13, C13), (18, C18), (14, C14), (15, C15), (19, C19), (16, C16)]) (A := ann17) (fn := Go.Proofs.Try.f17) (c := body17) (fits_cons fits11 (fits_cons fits12 (fits_cons fits13 (fits_cons fits18 (fits_cons fits14 (fits_cons fits15 (fits_cons fits19 (fits_cons fits16 fits_nil)))))))) mixed Go.Proofs.Try.func17 Go.Proofs.Try.call17 (by kernel_rfl) (by kernel_rfl) (by kernel_rfl) tie17

/- F.mallowlaw3_VmemFills -/
noncomputable def C3 : Entry := fun args w K Kp => unArgs [.one (.sl), .one (.int .i64), .one (.int .u64)] args.toList fun x => F.mallowlaw3_VmemFills env x.1 x.2.1 x.2.2.1 (fun r1 w' => K (.bool r1) w') w
noncomputable def body3 : Code := (Go.Proofs.Try.f3.body).getD .skip
def ann3 : Ann := { loops := [(11, [(10, .one (.int .i64)), (11, .one (.int .i64))]), (14, [(10, .one (.int .i64)), (12, .one (.int .u64))])], joins := [(2, [(34, .one (.bool))]), (8, [(55, .one (.bool))]), (18, [(73, .one (.bool))]), (20, [(10, .one (.int .i64)), (13, .one (.int .u64))]), (22, [(98, .one (.bool))]), (24, [(110, .one (.bool))])] }
theorem tie3 (x : ArgsV [.one (.sl), .one (.int .i64), .one (.int .u64)]) (K Kp : Value → World → Prop) (w : World) : F.mallowlaw3_VmemFills env x.1 x.2.1 x.2.2.1 (fun r1 w' => K (.bool r1) w') w =
    ev Go.Proofs.Try.prog (tabC [(11, C11), (12, C12), (13, C13), (14, C14), (15, C15), (16, C16), (17, C17)]) (ground Go.Proofs.Try.prog) ann3 body3 (finQ Go.Proofs.Try.prog Go.Proofs.Try.f3 K Kp) (initF (mkArgs [.one (.sl), .one (.int .i64), .one (.int .u64)] x)) w := by kernel_rfl
theorem fits3 : FitsOne Go.Proofs.Try.prog 3 C3 :=
  fits_of_tie (T := [(11, C11), (12, C12), (13, C13), (14, C14), (15, C15), (16, C16), (17, C17)]) (A := ann3) (fn := Go.Proofs.Try.f3) (c := body3) (fits_cons fits11 (fits_cons fits12 (fits_cons fits13 (fits_cons fits14 (fits_cons fits15 (fits_cons fits16 (fits_cons fits17 fits_nil))))))) mixed Go.Proofs.Try.func3 Go.Proofs.Try.call3 (by kernel_rfl) (by kernel_rfl) (by kernel_rfl) tie3

/- F.mallowlaw3_VmemKeeps -/
noncomputable def C4 : Entry := fun args w K Kp => unArgs [.one (.sl), .one (.int .u64), .one (.int .i64)] args.toList fun x => F.mallowlaw3_VmemKeeps env x.1 x.2.1 x.2.2.1 (fun r1 w' => K (.bool r1) w') w
noncomputable def body4 : Code := (Go.Proofs.Try.f4.body).getD .skip
def ann4 : Ann := { loops := [(10, [(10, .one (.int .i64))]), (18, [(12, .one (.int .i64))])], joins := [(2, [(29, .one (.bool))]), (8, [(48, .one (.bool))]), (16, [(81, .one (.bool))]), (25, [(16, .one (.int .u64))]), (26, [(122, .one (.bool))])] }
theorem tie4 (x : ArgsV [.one (.sl), .one (.int .u64), .one (.int .i64)]) (K Kp : Value → World → Prop) (w : World) : F.mallowlaw3_VmemKeeps env x.1 x.2.1 x.2.2.1 (fun r1 w' => K (.bool r1) w') w =
    ev Go.Proofs.Try.prog (tabC [(11, C11), (12, C12), (13, C13), (18, C18), (15, C15), (14, C14), (17, C17)]) (ground Go.Proofs.Try.prog) ann4 body4 (finQ Go.Proofs.Try.prog Go.Proofs.Try.f4 K Kp) (initF (mkArgs [.one (.sl), .one (.int .u64), .one (.int .i64)] x)) w := by kernel_rfl
theorem fits4 : FitsOne Go.Proofs.Try.prog 4 C4 :=
  fits_of_tie (T := [(11, C11), (12, C12), (13, C13), (18, C18), (15, C15), (14, C14), (17, C17)]) (A := ann4) (fn := Go.Proofs.Try.f4) (c := body4) (fits_cons fits11 (fits_cons fits12 (fits_cons fits13 (fits_cons fits18 (fits_cons fits15 (fits_cons fits14 (fits_cons fits17 fits_nil))))))) mixed Go.Proofs.Try.func4 Go.Proofs.Try.call4 (by kernel_rfl) (by kernel_rfl) (by kernel_rfl) tie4

/- F.mallowlaw3_VmemRefused -/
noncomputable def C5 : Entry := fun args w K Kp => unArgs [.one (.int .u64), .one (.int .i64)] args.toList fun x => F.mallowlaw3_VmemRefused env x.1 x.2.1 (fun r1 w' => K (.bool r1) w') w
noncomputable def body5 : Code := (Go.Proofs.Try.f5.body).getD .skip
def ann5 : Ann := { loops := [(5, [(5, .one (.sl)), (6, .one (.int .i64))]), (15, [(10, .one (.int .i64))])], joins := [(2, [(26, .one (.bool))]), (23, []), (24, [(75, .one (.bool))])] }
theorem tie5 (x : ArgsV [.one (.int .u64), .one (.int .i64)]) (K Kp : Value → World → Prop) (w : World) : F.mallowlaw3_VmemRefused env x.1 x.2.1 (fun r1 w' => K (.bool r1) w') w =
    ev Go.Proofs.Try.prog (tabC [(11, C11), (12, C12), (13, C13), (16, C16), (17, C17)]) (ground Go.Proofs.Try.prog) ann5 body5 (finQ Go.Proofs.Try.prog Go.Proofs.Try.f5 K Kp) (initF (mkArgs [.one (.int .u64), .one (.int .i64)] x)) w := by kernel_rfl
theorem fits5 : FitsOne Go.Proofs.Try.prog 5 C5 :=
  fits_of_tie (T := [(11, C11), (12, C12), (13, C13), (16, C16), (17, C17)]) (A := ann5) (fn := Go.Proofs.Try.f5) (c := body5) (fits_cons fits11 (fits_cons fits12 (fits_cons fits13 (fits_cons fits16 (fits_cons fits17 fits_nil))))) mixed Go.Proofs.Try.func5 Go.Proofs.Try.call5 (by kernel_rfl) (by kernel_rfl) (by kernel_rfl) tie5

/- F.mallowlaw3_VmemPlaces -/
noncomputable def C6 : Entry := fun args w K Kp => unArgs [.one (.sl), .one (.sl)] args.toList fun x => F.mallowlaw3_VmemPlaces env x.1 x.2.1 (fun r1 w' => K (.bool r1) w') w
noncomputable def body6 : Code := (Go.Proofs.Try.f6.body).getD .skip
def ann6 : Ann := { loops := [(8, [(7, .one (.int .i64))])], joins := [(2, [(17, .one (.bool))]), (12, [(60, .one (.bool))]), (15, [(105, .one (.bool))]), (17, [(116, .one (.bool))])] }
theorem tie6 (x : ArgsV [.one (.sl), .one (.sl)]) (K Kp : Value → World → Prop) (w : World) : F.mallowlaw3_VmemPlaces env x.1 x.2.1 (fun r1 w' => K (.bool r1) w') w =
    ev Go.Proofs.Try.prog (tabC [(11, C11), (12, C12), (19, C19), (16, C16), (17, C17)]) (ground Go.Proofs.Try.prog) ann6 body6 (finQ Go.Proofs.Try.prog Go.Proofs.Try.f6 K Kp) (initF (mkArgs [.one (.sl), .one (.sl)] x)) w := by kernel_rfl
theorem fits6 : FitsOne Go.Proofs.Try.prog 6 C6 :=
  fits_of_tie (T := [(11, C11), (12, C12), (19, C19), (16, C16), (17, C17)]) (A := ann6) (fn := Go.Proofs.Try.f6) (c := body6) (fits_cons fits11 (fits_cons fits12 (fits_cons fits19 (fits_cons fits16 (fits_cons fits17 fits_nil))))) mixed Go.Proofs.Try.func6 Go.Proofs.Try.call6 (by kernel_rfl) (by kernel_rfl) (by kernel_rfl) tie6

/- F.mallowlaw3_heavy -/
noncomputable def C20 : Entry := fun args w K Kp => unArgs [.agg [.sl, .sl, .sl], .one (.sl)] args.toList fun x => F.mallowlaw3_heavy env x.1.1 x.1.2.1 x.1.2.2.1 x.2.1 (fun r1 w' => K (.bool r1) w') w
noncomputable def body20 : Code := (Go.Proofs.Try.f20.body).getD .skip
def ann20 : Ann := { loops := [(5, [(5, .one (.int .u64)), (6, .one (.int .i64))])], joins := [(2, [(27, .one (.bool))]), (8, [(47, .one (.bool))]), (13, [(5, .one (.int .u64))]), (14, [(84, .one (.bool))])] }
theorem tie20 (x : ArgsV [.agg [.sl, .sl, .sl], .one (.sl)]) (K Kp : Value → World → Prop) (w : World) : F.mallowlaw3_heavy env x.1.1 x.1.2.1 x.1.2.2.1 x.2.1 (fun r1 w' => K (.bool r1) w') w =
    ev Go.Proofs.Try.prog (tabC []) (ground Go.Proofs.Try.prog) ann20 body20 (finQ Go.Proofs.Try.prog Go.Proofs.Try.f20 K Kp) (initF (mkArgs [.agg [.sl, .sl, .sl], .one (.sl)] x)) w := by kernel_rfl
theorem fits20 : FitsOne Go.Proofs.Try.prog 20 C20 :=
  fits_of_tie (T := []) (A := ann20) (fn := Go.Proofs.Try.f20) (c := body20) fits_nil mixed Go.Proofs.Try.func20 Go.Proofs.Try.call20 (by kernel_rfl) (by kernel_rfl) (by kernel_rfl) tie20

/- F.vmem_Mem_part -/
noncomputable def C52 : Entry := fun args w K Kp => unArgs [.one (.ptr), .one (.int .u64), .one (.int .u64), .one (.int .u64)] args.toList fun x => F.vmem_Mem_part env x.1 x.2.1 x.2.2.1 x.2.2.2.1 (fun  w' => K (.tuple ⟨[]⟩) w') w
noncomputable def body52 : Code := (Go.Proofs.Try.f52.body).getD .skip
def ann52 : Ann := { loops := [], joins := [(1, [])] }
theorem tie52 (x : ArgsV [.one (.ptr), .one (.int .u64), .one (.int .u64), .one (.int .u64)]) (K Kp : Value → World → Prop) (w : World) : F.vmem_Mem_part env x.1 x.2.1 x.2.2.1 x.2.2.2.1 (fun  w' => K (.tuple ⟨[]⟩) w') w =
    ev Go.Proofs.Try.prog (tabC [(42, C42)]) (ground Go.Proofs.Try.prog) ann52 body52 (finQ Go.Proofs.Try.prog Go.Proofs.Try.f52 K Kp) (initF (mkArgs [.one (.ptr), .one (.int .u64), .one (.int .u64), .one (.int .u64)] x)) w := by kernel_rfl
theorem fits52 : FitsOne Go.Proofs.Try.prog 52 C52 :=
  fits_of_tie (T := [(42, C42)]) (A := ann52) (fn := Go.Proofs.Try.f52) (c := body52) (fits_cons fits42 fits_nil) mixed Go.Proofs.Try.func52 Go.Proofs.Try.call52 (by kernel_rfl) (by kernel_rfl) (by kernel_rfl) tie52

/- F.vmem_Mem_Zero -/
noncomputable def C25 : Entry := fun args w K Kp => unArgs [.one (.ptr), .one (.int .u64), .one (.int .u64)] args.toList fun x => F.vmem_Mem_Zero env x.1 x.2.1 x.2.2.1 (fun r1 w' => K (.int .i64 r1) w') w
noncomputable def body25 : Code := (Go.Proofs.Try.f25.body).getD .skip
def ann25 : Ann := { loops := [], joins := [(2, [(18, .one (.bool))]), (6, [(28, .one (.bool))])] }
theorem tie25 (x : ArgsV [.one (.ptr), .one (.int .u64), .one (.int .u64)]) (K Kp : Value → World → Prop) (w : World) : F.vmem_Mem_Zero env x.1 x.2.1 x.2.2.1 (fun r1 w' => K (.int .i64 r1) w') w =
    ev Go.Proofs.Try.prog (tabC [(34, C34), (52, C52), (39, C39), (40, C40)]) (ground Go.Proofs.Try.prog) ann25 body25 (finQ Go.Proofs.Try.prog Go.Proofs.Try.f25 K Kp) (initF (mkArgs [.one (.ptr), .one (.int .u64), .one (.int .u64)] x)) w := by kernel_rfl
theorem fits25 : FitsOne Go.Proofs.Try.prog 25 C25 :=
  fits_of_tie (T := [(34, C34), (52, C52), (39, C39), (40, C40)]) (A := ann25) (fn := Go.Proofs.Try.f25) (c := body25) (fits_cons fits34 (fits_cons fits52 (fits_cons fits39 (fits_cons fits40 fits_nil)))) mixed Go.Proofs.Try.func25 Go.Proofs.Try.call25 (by kernel_rfl) (by kernel_rfl) (by kernel_rfl) tie25

/- F.mallowlaw3_VmemStates -/
noncomputable def C9 : Entry := fun args w K Kp => unArgs [.one (.sl)] args.toList fun x => F.mallowlaw3_VmemStates env x.1 (fun r1 w' => K (.bool r1) w') w
noncomputable def body9 : Code := (Go.Proofs.Try.f9.body).getD .skip
def ann9 : Ann := { loops := [(8, [(5, .one (.int .i64))]), (23, [(7, .one (.int .i64))])], joins := [(22, []), (28, [(9, .one (.bool))])] }
theorem tie9 (x : ArgsV [.one (.sl)]) (K Kp : Value → World → Prop) (w : World) : F.mallowlaw3_VmemStates env x.1 (fun r1 w' => K (.bool r1) w') w =
    ev Go.Proofs.Try.prog (tabC [(20, C20), (11, C11), (12, C12), (13, C13), (15, C15), (18, C18), (25, C25), (19, C19), (17, C17)]) (ground Go.Proofs.Try.prog) ann9 body9 (finQ Go.Proofs.Try.prog Go.Proofs.Try.f9 K Kp) (initF (mkArgs [.one (.sl)] x)) w := by kernel_rfl
theorem fits9 : FitsOne Go.Proofs.Try.prog 9 C9 :=
  fits_of_tie (T := [(20, C20), (11, C11), (12, C12), (13, C13), (15, C15), (18, C18), (25, C25), (19, C19), (17, C17)]) (A := ann9) (fn := Go.Proofs.Try.f9) (c := body9) (fits_cons fits20 (fits_cons fits11 (fits_cons fits12 (fits_cons fits13 (fits_cons fits15 (fits_cons fits18 (fits_cons fits25 (fits_cons fits19 (fits_cons fits17 fits_nil))))))))) mixed Go.Proofs.Try.func9 Go.Proofs.Try.call9 (by kernel_rfl) (by kernel_rfl) (by kernel_rfl) tie9

/- F.mallowlaw3_VmemZeroes -/
noncomputable def C10 : Entry := fun args w K Kp => unArgs [.one (.int .u64), .one (.int .u64), .one (.int .u64)] args.toList fun x => F.mallowlaw3_VmemZeroes env x.1 x.2.1 x.2.2.1 (fun r1 w' => K (.bool r1) w') w
noncomputable def body10 : Code := (Go.Proofs.Try.f10.body).getD .skip
def ann10 : Ann := { loops := [(13, [(11, .one (.int .u64))])], joins := [(2, [(26, .one (.bool))]), (8, [(63, .one (.bool))]), (11, [(87, .one (.bool))]), (17, [(105, .one (.bool))]), (18, [(12, .one (.int .u64))]), (20, [(121, .one (.bool))])] }
theorem tie10 (x : ArgsV [.one (.int .u64), .one (.int .u64), .one (.int .u64)]) (K Kp : Value → World → Prop) (w : World) : F.mallowlaw3_VmemZeroes env x.1 x.2.1 x.2.2.1 (fun r1 w' => K (.bool r1) w') w =
    ev Go.Proofs.Try.prog (tabC [(11, C11), (12, C12), (13, C13), (15, C15), (25, C25), (14, C14), (17, C17)]) (ground Go.Proofs.Try.prog) ann10 body10 (finQ Go.Proofs.Try.prog Go.Proofs.Try.f10 K Kp) (initF (mkArgs [.one (.int .u64), .one (.int .u64), .one (.int .u64)] x)) w := by kernel_rfl
theorem fits10 : FitsOne Go.Proofs.Try.prog 10 C10 :=
  fits_of_tie (T := [(11, C11), (12, C12), (13, C13), (15, C15), (25, C25), (14, C14), (17, C17)]) (A := ann10) (fn := Go.Proofs.Try.f10) (c := body10) (fits_cons fits11 (fits_cons fits12 (fits_cons fits13 (fits_cons fits15 (fits_cons fits25 (fits_cons fits14 (fits_cons fits17 fits_nil))))))) mixed Go.Proofs.Try.func10 Go.Proofs.Try.call10 (by kernel_rfl) (by kernel_rfl) (by kernel_rfl) tie10

/- F.stretch_Set_at_1 -/
noncomputable def C63 : Entry := fun args w K Kp => unArgs [.one (.int .i64), .one (.ptr), .one (.ptr)] args.toList fun x => F.stretch_Set_at_1 env x.1 x.2.1 x.2.2.1 (fun r1 w' => K (.bool r1) w') w
noncomputable def body63 : Code := (Go.Proofs.Try.f63.body).getD .skip
def ann63 : Ann := { loops := [], joins := [] }
theorem tie63 (x : ArgsV [.one (.int .i64), .one (.ptr), .one (.ptr)]) (K Kp : Value → World → Prop) (w : World) : F.stretch_Set_at_1 env x.1 x.2.1 x.2.2.1 (fun r1 w' => K (.bool r1) w') w =
    ev Go.Proofs.Try.prog (tabC []) (ground Go.Proofs.Try.prog) ann63 body63 (finQ Go.Proofs.Try.prog Go.Proofs.Try.f63 K Kp) (initF (mkArgs [.one (.int .i64), .one (.ptr), .one (.ptr)] x)) w := by kernel_rfl
theorem fits63 : FitsOne Go.Proofs.Try.prog 63 C63 :=
  fits_of_tie (T := []) (A := ann63) (fn := Go.Proofs.Try.f63) (c := body63) fits_nil mixed Go.Proofs.Try.func63 Go.Proofs.Try.call63 (by kernel_rfl) (by kernel_rfl) (by kernel_rfl) tie63

end Go.Sh

set_option linter.all false
namespace Go.Sh

theorem at1_mono {E : Env} {i : Int} {p1 p2 : Option Addr} {w : World} {K K' : Bool → World → Prop} (hk : ∀ b w', K b w' → K' b w') (h : F.stretch_Set_at_1 E i p1 p2 K w) : F.stretch_Set_at_1 E i p1 p2 K' w := by
  unfold F.stretch_Set_at_1 at h ⊢
  obtain ⟨q1, rfl, x2, h2, h⟩ := NC_elim h
  obtain ⟨q3, rfl, x4, h4, h⟩ := NC_elim h
  obtain ⟨q5, h5, hi, x6, h6, h⟩ := NC_elim h
  obtain ⟨q7, rfl, x8, h8, h⟩ := NC_elim h
  refine ⟨some q3, h2, x4, h4, ?_⟩
  rw [h5]
  exact ⟨hi, x6, h6, x8, h8, hk _ _ h⟩

theorem ground_mono {P : Program} (g : FuncId) (args : Array Value) (w : World) (K K' : Value → World → Prop) (hk : ∀ v w', K v w' → K' v w') (h : ground P g args w K noP) : ground P g args w K' noP :=
  ⟨h.1, h.2.mono fun e w' hE => let ⟨v, hv, h⟩ := hE.val; .inl ⟨v, hv, hk v w' h⟩⟩

end Go.Sh

set_option linter.all false
namespace Go.Sh
open Go.Proofs

theorem envS : EnvS env where
  at1 := by
    intro i p1 p2 K w h
    refine ⟨(fits63 #[.int .i64 i, .pointer p1, .pointer p2] w (fun v w' => ∃ b, v = .bool b ∧ K b w') noP ?_).1, (fits63 #[.int .i64 i, .pointer p1, .pointer p2] w (fun v w' => ∃ b, v = .bool b ∧ K b w') noP ?_).2⟩ <;>
    exact (show F.stretch_Set_at_1 env i p1 p2 (fun b w' => ∃ b', Value.bool b = .bool b' ∧ K b' w') w from at1_mono (fun b w' h => ⟨b, rfl, h⟩) h)
  mono := ground_mono

end Go.Sh
