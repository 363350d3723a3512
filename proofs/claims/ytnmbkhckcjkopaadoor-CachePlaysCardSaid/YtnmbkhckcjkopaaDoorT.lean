/- Each shallow form is what the code of its function comes to. No further condition. -/
import Derived.Test.YtnmbkhckcjkopaaDoorF
import Derived.Test.YtnmbkhckcjkopaaDoorProg
import Derived.KernelRfl
import Derived.Test.YtnmbkhckcjkopaaDoorS
import Derived.Test.YtnmbkhckcjkopaaDoorA
import Derived.Calls
set_option linter.all false
set_option maxRecDepth 100000
set_option maxHeartbeats 4000000
namespace Go.Sh
open Go.Proofs

theorem mixed : Go.Proofs.Tryd.prog.follows .mixedOrders = true := by kernel_rfl
noncomputable def env : Env := { call := ground Go.Proofs.Tryd.prog, t_map_uint64_api_Sum := 101, t_radix_Tree := 71, t_pcache_Cache := 73, t__stretch_Set := 84, t_uint64 := 29, t_stretch_One := 87, t_bool := 4, t__pcache_Cache := 25, t_mallowref8_Chunk := 100, t_mallowref9_Part := 91, t_mallowref6_Row := 98, t_mallowlaw10_Act := 61, t_mallowref9_Tree := 55, t_mallowref10_Cache := 59, f_stretch_Set_at_1 := 67, g_math_bits_deBruijn64tab := 0 }

/- F.radix_Tree_changed -/
noncomputable def C26 : Entry := fun args w K Kp => unArgs [.one (.ptr)] args.toList fun x => F.radix_Tree_changed env x.1 (fun  w' => K (.tuple ⟨[]⟩) w') w
noncomputable def body26 : Code := (Go.Proofs.Tryd.f26.body).getD .skip
def ann26 : Ann := { loops := [(2, [(5, .one (.int .i64))])], joins := [] }
theorem tie26 (x : ArgsV [.one (.ptr)]) (K Kp : Value → World → Prop) (w : World) : F.radix_Tree_changed env x.1 (fun  w' => K (.tuple ⟨[]⟩) w') w =
    ev Go.Proofs.Tryd.prog (tabC []) (ground Go.Proofs.Tryd.prog) ann26 body26 (finQ Go.Proofs.Tryd.prog Go.Proofs.Tryd.f26 K Kp) (initF (mkArgs [.one (.ptr)] x)) w := by kernel_rfl
theorem fits26 : FitsOne Go.Proofs.Tryd.prog 26 C26 :=
  fits_of_tie (T := []) (A := ann26) (fn := Go.Proofs.Tryd.f26) (c := body26) fits_nil mixed Go.Proofs.Tryd.func26 Go.Proofs.Tryd.call26 (by kernel_rfl) (by kernel_rfl) (by kernel_rfl) tie26

/- F.radix_New -/
noncomputable def C7 : Entry := fun args w K Kp => unArgs [] args.toList fun x => F.radix_New env  (fun r1 w' => K (.pointer r1) w') w
noncomputable def body7 : Code := (Go.Proofs.Tryd.f7.body).getD .skip
def ann7 : Ann := { loops := [], joins := [] }
def T0.radix_New (E : Env) (c_radix_Tree_changed : ∀ (a0 : (Option Addr)) (K : World → Prop) (w : World), Prop) (K : (Option Addr) → World → Prop) (w : World) : Prop :=
  AL (.cells #[.slice none 0 0, .int .u64 0, .slice none 0 0, .int .u64 0, .slice none 0 0, .int .u64 0, .slice none 0 0, .int .u64 0, .slice none 0 0] E.t_radix_Tree) w fun b1 w2 =>
  c_radix_Tree_changed (some (Addr.mk b1 0 none)) (fun  w3 =>
  K (some (Addr.mk b1 0 none)) w3
  ) w2

theorem tieZ7 (c_radix_Tree_changed : ∀ (a0 : (Option Addr)) (K : World → Prop) (w : World), Prop) (x : ArgsV []) (K Kp : Value → World → Prop) (w : World) : T0.radix_New env c_radix_Tree_changed  (fun r1 w' => K (.pointer r1) w') w =
    ev Go.Proofs.Tryd.prog (tabC [(26, fun args w K Kp => unArgs [.one (.ptr)] args.toList fun x => c_radix_Tree_changed x.1 (fun  w' => K (.tuple ⟨[]⟩) w') w)]) (ground Go.Proofs.Tryd.prog) ann7 body7 (finQ Go.Proofs.Tryd.prog Go.Proofs.Tryd.f7 K Kp) (initF (mkArgs [] x)) w := by kernel_rfl
theorem tie7 (x : ArgsV []) (K Kp : Value → World → Prop) (w : World) : F.radix_New env  (fun r1 w' => K (.pointer r1) w') w =
    ev Go.Proofs.Tryd.prog (tabC [(26, C26)]) (ground Go.Proofs.Tryd.prog) ann7 body7 (finQ Go.Proofs.Tryd.prog Go.Proofs.Tryd.f7 K Kp) (initF (mkArgs [] x)) w := tieZ7 (F.radix_Tree_changed env) x K Kp w
theorem fits7 : FitsOne Go.Proofs.Tryd.prog 7 C7 :=
  fits_of_tie (T := [(26, C26)]) (A := ann7) (fn := Go.Proofs.Tryd.f7) (c := body7) (fits_cons fits26 fits_nil) mixed Go.Proofs.Tryd.func7 Go.Proofs.Tryd.call7 (by kernel_rfl) (by kernel_rfl) (by kernel_rfl) tie7

/- F.pcache_New -/
noncomputable def C8 : Entry := fun args w K Kp => unArgs [] args.toList fun x => F.pcache_New env  (fun r1 w' => K (.pointer r1) w') w
noncomputable def body8 : Code := (Go.Proofs.Tryd.f8.body).getD .skip
def ann8 : Ann := { loops := [], joins := [] }
theorem tie8 (x : ArgsV []) (K Kp : Value → World → Prop) (w : World) : F.pcache_New env  (fun r1 w' => K (.pointer r1) w') w =
    ev Go.Proofs.Tryd.prog (tabC []) (ground Go.Proofs.Tryd.prog) ann8 body8 (finQ Go.Proofs.Tryd.prog Go.Proofs.Tryd.f8 K Kp) (initF (mkArgs [] x)) w := by kernel_rfl
theorem fits8 : FitsOne Go.Proofs.Tryd.prog 8 C8 :=
  fits_of_tie (T := []) (A := ann8) (fn := Go.Proofs.Tryd.f8) (c := body8) fits_nil mixed Go.Proofs.Tryd.func8 Go.Proofs.Tryd.call8 (by kernel_rfl) (by kernel_rfl) (by kernel_rfl) tie8

/- F.sort_Search -/
noncomputable def C66 : Entry := fun args w K Kp => unArgs [.one (.int .i64), .one (.any)] args.toList fun x => F.sort_Search env x.1 x.2.1 (fun r1 w' => K (.int .i64 r1) w') w
noncomputable def body66 : Code := (Go.Proofs.Tryd.f66.body).getD .skip
def ann66 : Ann := { loops := [(2, [(5, .one (.int .i64)), (6, .one (.int .i64))])], joins := [] }
theorem tie66 (x : ArgsV [.one (.int .i64), .one (.any)]) (K Kp : Value → World → Prop) (w : World) : F.sort_Search env x.1 x.2.1 (fun r1 w' => K (.int .i64 r1) w') w =
    ev Go.Proofs.Tryd.prog (tabC []) (ground Go.Proofs.Tryd.prog) ann66 body66 (finQ Go.Proofs.Tryd.prog Go.Proofs.Tryd.f66 K Kp) (initF (mkArgs [.one (.int .i64), .one (.any)] x)) w := by kernel_rfl
theorem fits66 : FitsOne Go.Proofs.Tryd.prog 66 C66 :=
  fits_of_tie (T := []) (A := ann66) (fn := Go.Proofs.Tryd.f66) (c := body66) fits_nil mixed Go.Proofs.Tryd.func66 Go.Proofs.Tryd.call66 (by kernel_rfl) (by kernel_rfl) (by kernel_rfl) tie66

/- F.stretch_Set_at -/
noncomputable def C53 : Entry := fun args w K Kp => unArgs [.one (.ptr), .one (.int .u64)] args.toList fun x => F.stretch_Set_at env x.1 x.2.1 (fun r1 w' => K (.int .i64 r1) w') w
noncomputable def body53 : Code := (Go.Proofs.Tryd.f53.body).getD .skip
def ann53 : Ann := { loops := [], joins := [] }
def T0.stretch_Set_at (E : Env) (c_sort_Search : ∀ (a0 : Int) (a1 : Value) (K : Int → World → Prop) (w : World), Prop) (a0 : (Option Addr)) (a1 : Int) (K : Int → World → Prop) (w : World) : Prop :=
  AL (.cells #[.pointer a0] E.t__stretch_Set) w fun b1 w2 =>
  AL (.cells #[.int .u64 a1] E.t_uint64) w2 fun b3 w4 =>
  ∃ x5 : (Option Addr), w4.cell? (Addr.mk b1 0 none) = some (.pointer x5) ∧
  NC x5 fun p6 =>
  ∃ x7 : SlV, w4.cell? p6 = some (.slice x7.base x7.len x7.cap) ∧
  c_sort_Search ((x7.len : Nat) : Int) (.func (.func E.f_stretch_Set_at_1) #[] #[.pointer (some (Addr.mk b1 0 none)), .pointer (some (Addr.mk b3 0 none))]) (fun r8 w9 =>
  K r8 w9
  ) w4

theorem tieZ53 (c_sort_Search : ∀ (a0 : Int) (a1 : Value) (K : Int → World → Prop) (w : World), Prop) (x : ArgsV [.one (.ptr), .one (.int .u64)]) (K Kp : Value → World → Prop) (w : World) : T0.stretch_Set_at env c_sort_Search x.1 x.2.1 (fun r1 w' => K (.int .i64 r1) w') w =
    ev Go.Proofs.Tryd.prog (tabC [(66, fun args w K Kp => unArgs [.one (.int .i64), .one (.any)] args.toList fun x => c_sort_Search x.1 x.2.1 (fun r1 w' => K (.int .i64 r1) w') w)]) (ground Go.Proofs.Tryd.prog) ann53 body53 (finQ Go.Proofs.Tryd.prog Go.Proofs.Tryd.f53 K Kp) (initF (mkArgs [.one (.ptr), .one (.int .u64)] x)) w := by kernel_rfl
theorem tie53 (x : ArgsV [.one (.ptr), .one (.int .u64)]) (K Kp : Value → World → Prop) (w : World) : F.stretch_Set_at env x.1 x.2.1 (fun r1 w' => K (.int .i64 r1) w') w =
    ev Go.Proofs.Tryd.prog (tabC [(66, C66)]) (ground Go.Proofs.Tryd.prog) ann53 body53 (finQ Go.Proofs.Tryd.prog Go.Proofs.Tryd.f53 K Kp) (initF (mkArgs [.one (.ptr), .one (.int .u64)] x)) w := tieZ53 (F.sort_Search env) x K Kp w
theorem fits53 : FitsOne Go.Proofs.Tryd.prog 53 C53 :=
  fits_of_tie (T := [(66, C66)]) (A := ann53) (fn := Go.Proofs.Tryd.f53) (c := body53) (fits_cons fits66 fits_nil) mixed Go.Proofs.Tryd.func53 Go.Proofs.Tryd.call53 (by kernel_rfl) (by kernel_rfl) (by kernel_rfl) tie53

/- F.stretch_Set_Count -/
noncomputable def C27 : Entry := fun args w K Kp => unArgs [.one (.ptr), .one (.int .u64), .one (.int .u64)] args.toList fun x => F.stretch_Set_Count env x.1 x.2.1 x.2.2.1 (fun r1 w' => K (.int .u64 r1) w') w
noncomputable def body27 : Code := (Go.Proofs.Tryd.f27.body).getD .skip
def ann27 : Ann := { loops := [(3, [(7, .one (.int .u64)), (8, .one (.int .i64))])], joins := [] }
def T0.stretch_Set_Count (E : Env) (c_stretch_Set_at : ∀ (a0 : (Option Addr)) (a1 : Int) (K : Int → World → Prop) (w : World), Prop) (a0 : (Option Addr)) (a1 : Int) (a2 : Int) (K : Int → World → Prop) (w : World) : Prop :=
  c_stretch_Set_at a0 a1 (fun r1 w2 =>
  LOOP (Int × Int × Unit) (0, r1, ()) w2 fun s3 _ w4 next5 =>
    NC a0 fun p6 =>
    ∃ x7 : SlV, w4.cell? p6 = some (.slice x7.base x7.len x7.cap) ∧
    CND (decide ((s3.2.1 : Int) < ((x7.len : Nat) : Int))) (
      NC a0 fun p8 =>
      ∃ x9 : SlV, w4.cell? p8 = some (.slice x9.base x9.len x9.cap) ∧
      NC x9.base fun p10 =>
      ((0 : Int) ≤ s3.2.1 ∧ (s3.2.1 : Int) < (x9.len : Nat)) ∧
      ∃ x11 : Int, w4.cell? (p10.add (Int.toNat s3.2.1 * 2)) = some (.int .u64 x11) ∧
      CND (decide ((x11 : Int) < a2)) (
        NC a0 fun p12 =>
        ∃ x13 : SlV, w4.drew.cell? p12 = some (.slice x13.base x13.len x13.cap) ∧
        NC x13.base fun p14 =>
        ((0 : Int) ≤ s3.2.1 ∧ (s3.2.1 : Int) < (x13.len : Nat)) ∧
        ∃ x15 : Int, w4.drew.cell? ((p14.add (Int.toNat s3.2.1 * 2)).add 1) = some (.int .u64 x15) ∧
        NC a0 fun p16 =>
        ∃ x17 : SlV, w4.drew.cell? p16 = some (.slice x17.base x17.len x17.cap) ∧
        NC x17.base fun p18 =>
        ((0 : Int) ≤ s3.2.1 ∧ (s3.2.1 : Int) < (x17.len : Nat)) ∧
        ∃ x19 : Int, w4.drew.cell? (p18.add (Int.toNat s3.2.1 * 2)) = some (.int .u64 x19) ∧
        LET (u64 (s3.1 + (u64 ((minI x15 a2) - (maxI x19 a1)))) : Int) fun n_20 =>
        next5 (n_20, i64 (s3.2.1 + 1), ()) w4.drew
      ) (
        K s3.1 w4
      )
    ) (
      K s3.1 w4
    )
  ) w

theorem tieZ27 (c_stretch_Set_at : ∀ (a0 : (Option Addr)) (a1 : Int) (K : Int → World → Prop) (w : World), Prop) (x : ArgsV [.one (.ptr), .one (.int .u64), .one (.int .u64)]) (K Kp : Value → World → Prop) (w : World) : T0.stretch_Set_Count env c_stretch_Set_at x.1 x.2.1 x.2.2.1 (fun r1 w' => K (.int .u64 r1) w') w =
    ev Go.Proofs.Tryd.prog (tabC [(53, fun args w K Kp => unArgs [.one (.ptr), .one (.int .u64)] args.toList fun x => c_stretch_Set_at x.1 x.2.1 (fun r1 w' => K (.int .i64 r1) w') w)]) (ground Go.Proofs.Tryd.prog) ann27 body27 (finQ Go.Proofs.Tryd.prog Go.Proofs.Tryd.f27 K Kp) (initF (mkArgs [.one (.ptr), .one (.int .u64), .one (.int .u64)] x)) w := by kernel_rfl
theorem tie27 (x : ArgsV [.one (.ptr), .one (.int .u64), .one (.int .u64)]) (K Kp : Value → World → Prop) (w : World) : F.stretch_Set_Count env x.1 x.2.1 x.2.2.1 (fun r1 w' => K (.int .u64 r1) w') w =
    ev Go.Proofs.Tryd.prog (tabC [(53, C53)]) (ground Go.Proofs.Tryd.prog) ann27 body27 (finQ Go.Proofs.Tryd.prog Go.Proofs.Tryd.f27 K Kp) (initF (mkArgs [.one (.ptr), .one (.int .u64), .one (.int .u64)] x)) w := tieZ27 (F.stretch_Set_at env) x K Kp w
theorem fits27 : FitsOne Go.Proofs.Tryd.prog 27 C27 :=
  fits_of_tie (T := [(53, C53)]) (A := ann27) (fn := Go.Proofs.Tryd.f27) (c := body27) (fits_cons fits53 fits_nil) mixed Go.Proofs.Tryd.func27 Go.Proofs.Tryd.call27 (by kernel_rfl) (by kernel_rfl) (by kernel_rfl) tie27

/- F.stretch_Set_Cut -/
noncomputable def C38 : Entry := fun args w K Kp => unArgs [.one (.ptr), .one (.int .u64), .one (.int .u64)] args.toList fun x => F.stretch_Set_Cut env x.1 x.2.1 x.2.2.1 (fun  w' => K (.tuple ⟨[]⟩) w') w
noncomputable def body38 : Code := (Go.Proofs.Tryd.f38.body).getD .skip
def ann38 : Ann := { loops := [(5, [(7, .one (.int .i64)), (8, .one (.sl))])], joins := [(10, [(8, .one (.sl))]), (12, [(7, .one (.int .i64)), (8, .one (.sl))])] }
def T0.stretch_Set_Cut (E : Env) (c_stretch_Set_Count : ∀ (a0 : (Option Addr)) (a1 : Int) (a2 : Int) (K : Int → World → Prop) (w : World), Prop) (c_stretch_Set_at : ∀ (a0 : (Option Addr)) (a1 : Int) (K : Int → World → Prop) (w : World), Prop) (a0 : (Option Addr)) (a1 : Int) (a2 : Int) (K : World → Prop) (w : World) : Prop :=
  CND (decide ((a1 : Int) ≥ a2)) (
    K  w
  ) (
    NC a0 fun p1 =>
    ∃ x2 : Int, w.drew.cell? (p1.add 1) = some (.int .u64 x2) ∧
    c_stretch_Set_Count a0 a1 a2 (fun r3 w4 =>
    w4.cell? (p1.add 1) = some (.int .u64 x2) ∧
    NC a0 fun p5 =>
    stCells (p5.add 1) 0 [.int .u64 (u64 (x2 - r3))] w4 fun w6 =>
    c_stretch_Set_at a0 a1 (fun r7 w8 =>
    JOIN (Int × SlV × Unit) (fun J9 =>
      LOOP (Int × SlV × Unit) (r7, ⟨none, 0, 0⟩, ()) w8 fun s12 _ w13 next14 =>
        NC a0 fun p15 =>
        ∃ x16 : SlV, w13.cell? p15 = some (.slice x16.base x16.len x16.cap) ∧
        CND (decide ((s12.1 : Int) < ((x16.len : Nat) : Int))) (
          NC a0 fun p17 =>
          ∃ x18 : SlV, w13.cell? p17 = some (.slice x18.base x18.len x18.cap) ∧
          NC x18.base fun p19 =>
          ((0 : Int) ≤ s12.1 ∧ (s12.1 : Int) < (x18.len : Nat)) ∧
          ∃ x20 : Int, w13.cell? (p19.add (Int.toNat s12.1 * 2)) = some (.int .u64 x20) ∧
          CND (decide ((x20 : Int) < a2)) (
            NC a0 fun p21 =>
            ∃ x22 : SlV, w13.cell? p21 = some (.slice x22.base x22.len x22.cap) ∧
            NC x22.base fun p23 =>
            ((0 : Int) ≤ s12.1 ∧ (s12.1 : Int) < (x22.len : Nat)) ∧
            ∃ c24 : Int, w13.cell? ((p23.add (Int.toNat s12.1 * 2)).add 0) = some (.int .u64 c24) ∧
            ∃ c25 : Int, w13.cell? ((p23.add (Int.toNat s12.1 * 2)).add 1) = some (.int .u64 c25) ∧
            AL (.cells #[.int .u64 0, .int .u64 0] E.t_stretch_One) w13 fun b26 w27 =>
            stCells (Addr.mk b26 0 none) 0 [.int .u64 c24, .int .u64 c25] w27 fun w28 =>
            JOIN (SlV × Unit) (fun J29 =>
              ∃ x32 : Int, w28.cell? (Addr.mk b26 0 none) = some (.int .u64 x32) ∧
              CND (decide ((x32 : Int) < a1)) (
                ∃ x33 : Int, w28.cell? (Addr.mk b26 0 none) = some (.int .u64 x33) ∧
                AL (.cells ⟨[.int .u64 x33, .int .u64 a1]⟩ E.t_stretch_One) w28 fun b34 w35 =>
                APP E.t_stretch_One 2 16 #[.int .u64 0, .int .u64 0] s12.2.1 ⟨(some (Addr.mk b34 0 none)), 1, 1⟩ w35 fun s36 w37 =>
                J29 (s36, ()) w37
              ) (
                J29 (s12.2.1, ()) w28
              )
            ) fun s30 _ w31 =>
              ∃ x38 : Int, w31.cell? ((Addr.mk b26 0 none).add 1) = some (.int .u64 x38) ∧
              CND (decide ((x38 : Int) > a2)) (
                ∃ x39 : Int, w31.cell? ((Addr.mk b26 0 none).add 1) = some (.int .u64 x39) ∧
                AL (.cells ⟨[.int .u64 a2, .int .u64 x39]⟩ E.t_stretch_One) w31 fun b40 w41 =>
                APP E.t_stretch_One 2 16 #[.int .u64 0, .int .u64 0] s30.1 ⟨(some (Addr.mk b40 0 none)), 1, 1⟩ w41 fun s42 w43 =>
                next14 (i64 (s12.1 + 1), s42, ()) w43
              ) (
                next14 (i64 (s12.1 + 1), s30.1, ()) w31
              )
          ) (
            J9 (s12.1, s12.2.1, ()) w13
          )
        ) (
          J9 (s12.1, s12.2.1, ()) w13
        )
    ) fun s10 _ w11 =>
      NC a0 fun p44 =>
      ∃ x45 : SlV, w11.drew.cell? p44 = some (.slice x45.base x45.len x45.cap) ∧
      ((0 : Int) ≤ r7 ∧ (r7 : Int) ≤ (x45.cap : Nat)) ∧
      NC a0 fun p46 =>
      ∃ x47 : SlV, w11.drew.cell? p46 = some (.slice x47.base x47.len x47.cap) ∧
      ((0 : Int) ≤ s10.1 ∧ (s10.1 : Int) ≤ (x47.len : Nat)) ∧
      AL (.cells ⟨[]⟩ E.t_stretch_One) w11.drew fun b48 w49 =>
      w49.cell? p46 = some (.slice x47.base x47.len x47.cap) ∧
      w49.cell? p44 = some (.slice x45.base x45.len x45.cap) ∧
      APP E.t_stretch_One 2 16 #[.int .u64 0, .int .u64 0] ⟨(some (Addr.mk b48 0 none)), 0, 0⟩ ⟨(slB x45.base x45.cap 0 2), (Int.toNat r7), x45.cap⟩ w49 fun s50 w51 =>
      w51.cell? p46 = some (.slice x47.base x47.len x47.cap) ∧
      w51.cell? p44 = some (.slice x45.base x45.len x45.cap) ∧
      APP E.t_stretch_One 2 16 #[.int .u64 0, .int .u64 0] s50 s10.2.1 w51 fun s52 w53 =>
      w53.cell? p46 = some (.slice x47.base x47.len x47.cap) ∧
      w53.cell? p44 = some (.slice x45.base x45.len x45.cap) ∧
      APP E.t_stretch_One 2 16 #[.int .u64 0, .int .u64 0] s52 ⟨(slB x47.base x47.cap (Int.toNat s10.1) 2), (x47.len - (Int.toNat s10.1)), (x47.cap - (Int.toNat s10.1))⟩ w53 fun s54 w55 =>
      w55.cell? p46 = some (.slice x47.base x47.len x47.cap) ∧
      w55.cell? p44 = some (.slice x45.base x45.len x45.cap) ∧
      NC a0 fun p56 =>
      stCells p56 0 [.slice s54.base s54.len s54.cap] w55 fun w57 =>
      K  w57
    ) w6
    ) w.drew
  )

theorem tieZ38 (c_stretch_Set_Count : ∀ (a0 : (Option Addr)) (a1 : Int) (a2 : Int) (K : Int → World → Prop) (w : World), Prop) (c_stretch_Set_at : ∀ (a0 : (Option Addr)) (a1 : Int) (K : Int → World → Prop) (w : World), Prop) (x : ArgsV [.one (.ptr), .one (.int .u64), .one (.int .u64)]) (K Kp : Value → World → Prop) (w : World) : T0.stretch_Set_Cut env c_stretch_Set_Count c_stretch_Set_at x.1 x.2.1 x.2.2.1 (fun  w' => K (.tuple ⟨[]⟩) w') w =
    ev Go.Proofs.Tryd.prog (tabC [(27, fun args w K Kp => unArgs [.one (.ptr), .one (.int .u64), .one (.int .u64)] args.toList fun x => c_stretch_Set_Count x.1 x.2.1 x.2.2.1 (fun r1 w' => K (.int .u64 r1) w') w), (53, fun args w K Kp => unArgs [.one (.ptr), .one (.int .u64)] args.toList fun x => c_stretch_Set_at x.1 x.2.1 (fun r1 w' => K (.int .i64 r1) w') w)]) (ground Go.Proofs.Tryd.prog) ann38 body38 (finQ Go.Proofs.Tryd.prog Go.Proofs.Tryd.f38 K Kp) (initF (mkArgs [.one (.ptr), .one (.int .u64), .one (.int .u64)] x)) w := by kernel_rfl
theorem tie38 (x : ArgsV [.one (.ptr), .one (.int .u64), .one (.int .u64)]) (K Kp : Value → World → Prop) (w : World) : F.stretch_Set_Cut env x.1 x.2.1 x.2.2.1 (fun  w' => K (.tuple ⟨[]⟩) w') w =
    ev Go.Proofs.Tryd.prog (tabC [(27, C27), (53, C53)]) (ground Go.Proofs.Tryd.prog) ann38 body38 (finQ Go.Proofs.Tryd.prog Go.Proofs.Tryd.f38 K Kp) (initF (mkArgs [.one (.ptr), .one (.int .u64), .one (.int .u64)] x)) w := tieZ38 (F.stretch_Set_Count env) (F.stretch_Set_at env) x K Kp w
theorem fits38 : FitsOne Go.Proofs.Tryd.prog 38 C38 :=
  fits_of_tie (T := [(27, C27), (53, C53)]) (A := ann38) (fn := Go.Proofs.Tryd.f38) (c := body38) (fits_cons fits27 (fits_cons fits53 fits_nil)) mixed Go.Proofs.Tryd.func38 Go.Proofs.Tryd.call38 (by kernel_rfl) (by kernel_rfl) (by kernel_rfl) tie38

/- F.stretch_Set_Add -/
noncomputable def C28 : Entry := fun args w K Kp => unArgs [.one (.ptr), .one (.int .u64), .one (.int .u64)] args.toList fun x => F.stretch_Set_Add env x.1 x.2.1 x.2.2.1 (fun  w' => K (.tuple ⟨[]⟩) w') w
noncomputable def body28 : Code := (Go.Proofs.Tryd.f28.body).getD .skip
def ann28 : Ann := { loops := [], joins := [(7, [(51, .one (.bool))]), (9, [(8, .one (.int .i64))]), (10, [(77, .one (.bool))]), (12, [(6, .one (.int .i64))])] }
def T0.stretch_Set_Add (E : Env) (c_stretch_Set_Cut : ∀ (a0 : (Option Addr)) (a1 : Int) (a2 : Int) (K : World → Prop) (w : World), Prop) (c_stretch_Set_at : ∀ (a0 : (Option Addr)) (a1 : Int) (K : Int → World → Prop) (w : World), Prop) (a0 : (Option Addr)) (a1 : Int) (a2 : Int) (K : World → Prop) (w : World) : Prop :=
  CND (decide ((a1 : Int) ≥ a2)) (
    K  w
  ) (
    c_stretch_Set_Cut a0 a1 a2 (fun  w1 =>
    NC a0 fun p2 =>
    ∃ x3 : Int, w1.cell? (p2.add 1) = some (.int .u64 x3) ∧
    NC a0 fun p4 =>
    stCells (p4.add 1) 0 [.int .u64 (u64 (x3 + (u64 (a2 - a1))))] w1 fun w5 =>
    c_stretch_Set_at a0 a1 (fun r6 w7 =>
    AL (.cells #[.int .u64 0, .int .u64 0] E.t_stretch_One) w7 fun b8 w9 =>
    stCells (Addr.mk b8 0 none) 0 [.int .u64 a1, .int .u64 a2] w9 fun w10 =>
    JOIN (Int × Unit) (fun J11 =>
      JOIN (Bool × Unit) (fun J14 =>
        NC a0 fun p17 =>
        ∃ x18 : SlV, w10.cell? p17 = some (.slice x18.base x18.len x18.cap) ∧
        CND (decide ((r6 : Int) < ((x18.len : Nat) : Int))) (
          NC a0 fun p19 =>
          ∃ x20 : SlV, w10.cell? p19 = some (.slice x20.base x20.len x20.cap) ∧
          NC x20.base fun p21 =>
          ((0 : Int) ≤ r6 ∧ (r6 : Int) < (x20.len : Nat)) ∧
          ∃ x22 : Int, w10.cell? (p21.add (Int.toNat r6 * 2)) = some (.int .u64 x22) ∧
          J14 ((x22 : Int) == a2, ()) w10
        ) (
          J14 (false, ()) w10
        )
      ) fun s15 _ w16 =>
        CND (s15.1) (
          NC a0 fun p23 =>
          ∃ x24 : SlV, w16.cell? p23 = some (.slice x24.base x24.len x24.cap) ∧
          NC x24.base fun p25 =>
          ((0 : Int) ≤ r6 ∧ (r6 : Int) < (x24.len : Nat)) ∧
          ∃ x26 : Int, w16.cell? ((p25.add (Int.toNat r6 * 2)).add 1) = some (.int .u64 x26) ∧
          stCells ((Addr.mk b8 0 none).add 1) 0 [.int .u64 x26] w16 fun w27 =>
          J11 (i64 (r6 + 1), ()) w27
        ) (
          J11 (r6, ()) w16
        )
    ) fun s12 _ w13 =>
      JOIN (Int × Unit) (fun J28 =>
        JOIN (Bool × Unit) (fun J31 =>
          CND (decide ((r6 : Int) > 0)) (
            NC a0 fun p34 =>
            ∃ x35 : SlV, w13.cell? p34 = some (.slice x35.base x35.len x35.cap) ∧
            NC x35.base fun p36 =>
            ((0 : Int) ≤ (i64 (r6 - 1)) ∧ ((i64 (r6 - 1)) : Int) < (x35.len : Nat)) ∧
            ∃ x37 : Int, w13.cell? ((p36.add (Int.toNat (i64 (r6 - 1)) * 2)).add 1) = some (.int .u64 x37) ∧
            J31 ((x37 : Int) == a1, ()) w13
          ) (
            J31 (false, ()) w13
          )
        ) fun s32 _ w33 =>
          CND (s32.1) (
            NC a0 fun p38 =>
            ∃ x39 : SlV, w33.cell? p38 = some (.slice x39.base x39.len x39.cap) ∧
            NC x39.base fun p40 =>
            ((0 : Int) ≤ (i64 (r6 - 1)) ∧ ((i64 (r6 - 1)) : Int) < (x39.len : Nat)) ∧
            ∃ x41 : Int, w33.cell? (p40.add (Int.toNat (i64 (r6 - 1)) * 2)) = some (.int .u64 x41) ∧
            stCells (Addr.mk b8 0 none) 0 [.int .u64 x41] w33 fun w42 =>
            J28 (i64 (r6 - 1), ()) w42
          ) (
            J28 (r6, ()) w33
          )
      ) fun s29 _ w30 =>
        NC a0 fun p43 =>
        ∃ x44 : SlV, w30.drew.cell? p43 = some (.slice x44.base x44.len x44.cap) ∧
        ((0 : Int) ≤ s29.1 ∧ (s29.1 : Int) ≤ (x44.cap : Nat)) ∧
        ∃ c45 : Int, w30.drew.cell? ((Addr.mk b8 0 none).add 0) = some (.int .u64 c45) ∧
        ∃ c46 : Int, w30.drew.cell? ((Addr.mk b8 0 none).add 1) = some (.int .u64 c46) ∧
        NC a0 fun p47 =>
        ∃ x48 : SlV, w30.drew.cell? p47 = some (.slice x48.base x48.len x48.cap) ∧
        ((0 : Int) ≤ s12.1 ∧ (s12.1 : Int) ≤ (x48.len : Nat)) ∧
        (
          AL (.cells ⟨[]⟩ E.t_stretch_One) w30.drew fun b49 w50 =>
          w50.cell? p47 = some (.slice x48.base x48.len x48.cap) ∧
          (w50.cell? ((Addr.mk b8 0 none).add 0) = some (.int .u64 c45) ∧ (w50.cell? ((Addr.mk b8 0 none).add 1) = some (.int .u64 c46) ∧ True)) ∧
          w50.cell? p43 = some (.slice x44.base x44.len x44.cap) ∧
          (
            APP E.t_stretch_One 2 16 #[.int .u64 0, .int .u64 0] ⟨(some (Addr.mk b49 0 none)), 0, 0⟩ ⟨(slB x44.base x44.cap 0 2), (Int.toNat s29.1), x44.cap⟩ w50 fun s51 w52 =>
            w52.cell? p47 = some (.slice x48.base x48.len x48.cap) ∧
            (w52.cell? ((Addr.mk b8 0 none).add 0) = some (.int .u64 c45) ∧ (w52.cell? ((Addr.mk b8 0 none).add 1) = some (.int .u64 c46) ∧ True)) ∧
            w52.cell? p43 = some (.slice x44.base x44.len x44.cap) ∧
            AL (.cells ⟨[.int .u64 c45, .int .u64 c46]⟩ E.t_stretch_One) w52 fun b53 w54 =>
            w54.cell? p47 = some (.slice x48.base x48.len x48.cap) ∧
            w54.cell? p43 = some (.slice x44.base x44.len x44.cap) ∧
            APP E.t_stretch_One 2 16 #[.int .u64 0, .int .u64 0] s51 ⟨(some (Addr.mk b53 0 none)), 1, 1⟩ w54 fun s55 w56 =>
            w56.cell? p47 = some (.slice x48.base x48.len x48.cap) ∧
            w56.cell? p43 = some (.slice x44.base x44.len x44.cap) ∧
            APP E.t_stretch_One 2 16 #[.int .u64 0, .int .u64 0] s55 ⟨(slB x48.base x48.cap (Int.toNat s12.1) 2), (x48.len - (Int.toNat s12.1)), (x48.cap - (Int.toNat s12.1))⟩ w56 fun s57 w58 =>
            w58.cell? p47 = some (.slice x48.base x48.len x48.cap) ∧
            w58.cell? p43 = some (.slice x44.base x44.len x44.cap) ∧
            NC a0 fun p59 =>
            stCells p59 0 [.slice s57.base s57.len s57.cap] w58 fun w60 =>
            K  w60

          ) ∧ (
            AL (.cells ⟨[.int .u64 c45, .int .u64 c46]⟩ E.t_stretch_One) w50 fun b61 w62 =>
            w62.cell? p47 = some (.slice x48.base x48.len x48.cap) ∧
            w62.cell? p43 = some (.slice x44.base x44.len x44.cap) ∧
            APP E.t_stretch_One 2 16 #[.int .u64 0, .int .u64 0] ⟨(some (Addr.mk b49 0 none)), 0, 0⟩ ⟨(slB x44.base x44.cap 0 2), (Int.toNat s29.1), x44.cap⟩ w62 fun s63 w64 =>
            w64.cell? p47 = some (.slice x48.base x48.len x48.cap) ∧
            w64.cell? p43 = some (.slice x44.base x44.len x44.cap) ∧
            APP E.t_stretch_One 2 16 #[.int .u64 0, .int .u64 0] s63 ⟨(some (Addr.mk b61 0 none)), 1, 1⟩ w64 fun s65 w66 =>
            w66.cell? p47 = some (.slice x48.base x48.len x48.cap) ∧
            w66.cell? p43 = some (.slice x44.base x44.len x44.cap) ∧
            APP E.t_stretch_One 2 16 #[.int .u64 0, .int .u64 0] s65 ⟨(slB x48.base x48.cap (Int.toNat s12.1) 2), (x48.len - (Int.toNat s12.1)), (x48.cap - (Int.toNat s12.1))⟩ w66 fun s67 w68 =>
            w68.cell? p47 = some (.slice x48.base x48.len x48.cap) ∧
            w68.cell? p43 = some (.slice x44.base x44.len x44.cap) ∧
            NC a0 fun p69 =>
            stCells p69 0 [.slice s67.base s67.len s67.cap] w68 fun w70 =>
            K  w70
          )

        ) ∧ (
          AL (.cells ⟨[.int .u64 c45, .int .u64 c46]⟩ E.t_stretch_One) w30.drew fun b71 w72 =>
          w72.cell? p47 = some (.slice x48.base x48.len x48.cap) ∧
          w72.cell? p43 = some (.slice x44.base x44.len x44.cap) ∧
          AL (.cells ⟨[]⟩ E.t_stretch_One) w72 fun b73 w74 =>
          w74.cell? p47 = some (.slice x48.base x48.len x48.cap) ∧
          w74.cell? p43 = some (.slice x44.base x44.len x44.cap) ∧
          APP E.t_stretch_One 2 16 #[.int .u64 0, .int .u64 0] ⟨(some (Addr.mk b73 0 none)), 0, 0⟩ ⟨(slB x44.base x44.cap 0 2), (Int.toNat s29.1), x44.cap⟩ w74 fun s75 w76 =>
          w76.cell? p47 = some (.slice x48.base x48.len x48.cap) ∧
          w76.cell? p43 = some (.slice x44.base x44.len x44.cap) ∧
          APP E.t_stretch_One 2 16 #[.int .u64 0, .int .u64 0] s75 ⟨(some (Addr.mk b71 0 none)), 1, 1⟩ w76 fun s77 w78 =>
          w78.cell? p47 = some (.slice x48.base x48.len x48.cap) ∧
          w78.cell? p43 = some (.slice x44.base x44.len x44.cap) ∧
          APP E.t_stretch_One 2 16 #[.int .u64 0, .int .u64 0] s77 ⟨(slB x48.base x48.cap (Int.toNat s12.1) 2), (x48.len - (Int.toNat s12.1)), (x48.cap - (Int.toNat s12.1))⟩ w78 fun s79 w80 =>
          w80.cell? p47 = some (.slice x48.base x48.len x48.cap) ∧
          w80.cell? p43 = some (.slice x44.base x44.len x44.cap) ∧
          NC a0 fun p81 =>
          stCells p81 0 [.slice s79.base s79.len s79.cap] w80 fun w82 =>
          K  w82
        )
    ) w5
    ) w
  )

theorem tieZ28 (c_stretch_Set_Cut : ∀ (a0 : (Option Addr)) (a1 : Int) (a2 : Int) (K : World → Prop) (w : World), Prop) (c_stretch_Set_at : ∀ (a0 : (Option Addr)) (a1 : Int) (K : Int → World → Prop) (w : World), Prop) (x : ArgsV [.one (.ptr), .one (.int .u64), .one (.int .u64)]) (K Kp : Value → World → Prop) (w : World) : T0.stretch_Set_Add env c_stretch_Set_Cut c_stretch_Set_at x.1 x.2.1 x.2.2.1 (fun  w' => K (.tuple ⟨[]⟩) w') w =
    ev Go.Proofs.Tryd.prog (tabC [(38, fun args w K Kp => unArgs [.one (.ptr), .one (.int .u64), .one (.int .u64)] args.toList fun x => c_stretch_Set_Cut x.1 x.2.1 x.2.2.1 (fun  w' => K (.tuple ⟨[]⟩) w') w), (53, fun args w K Kp => unArgs [.one (.ptr), .one (.int .u64)] args.toList fun x => c_stretch_Set_at x.1 x.2.1 (fun r1 w' => K (.int .i64 r1) w') w)]) (ground Go.Proofs.Tryd.prog) ann28 body28 (finQ Go.Proofs.Tryd.prog Go.Proofs.Tryd.f28 K Kp) (initF (mkArgs [.one (.ptr), .one (.int .u64), .one (.int .u64)] x)) w := by kernel_rfl
theorem tie28 (x : ArgsV [.one (.ptr), .one (.int .u64), .one (.int .u64)]) (K Kp : Value → World → Prop) (w : World) : F.stretch_Set_Add env x.1 x.2.1 x.2.2.1 (fun  w' => K (.tuple ⟨[]⟩) w') w =
    ev Go.Proofs.Tryd.prog (tabC [(38, C38), (53, C53)]) (ground Go.Proofs.Tryd.prog) ann28 body28 (finQ Go.Proofs.Tryd.prog Go.Proofs.Tryd.f28 K Kp) (initF (mkArgs [.one (.ptr), .one (.int .u64), .one (.int .u64)] x)) w := tieZ28 (F.stretch_Set_Cut env) (F.stretch_Set_at env) x K Kp w
theorem fits28 : FitsOne Go.Proofs.Tryd.prog 28 C28 :=
  fits_of_tie (T := [(38, C38), (53, C53)]) (A := ann28) (fn := Go.Proofs.Tryd.f28) (c := body28) (fits_cons fits38 (fits_cons fits53 fits_nil)) mixed Go.Proofs.Tryd.func28 Go.Proofs.Tryd.call28 (by kernel_rfl) (by kernel_rfl) (by kernel_rfl) tie28

/- F.radix_Tree_Grow -/
noncomputable def C9 : Entry := fun args w K Kp => unArgs [.one (.ptr), .one (.int .u64), .one (.int .u64)] args.toList fun x => F.radix_Tree_Grow env x.1 x.2.1 x.2.2.1 (fun r1 w' => K (.int .i64 r1) w') w
noncomputable def body9 : Code := (Go.Proofs.Tryd.f9.body).getD .skip
def ann9 : Ann := { loops := [], joins := [(2, [(24, .one (.bool))])] }
def T0.radix_Tree_Grow (E : Env) (c_stretch_Set_Count : ∀ (a0 : (Option Addr)) (a1 : Int) (a2 : Int) (K : Int → World → Prop) (w : World), Prop) (c_stretch_Set_Add : ∀ (a0 : (Option Addr)) (a1 : Int) (a2 : Int) (K : World → Prop) (w : World), Prop) (c_radix_Tree_changed : ∀ (a0 : (Option Addr)) (K : World → Prop) (w : World), Prop) (a0 : (Option Addr)) (a1 : Int) (a2 : Int) (K : Int → World → Prop) (w : World) : Prop :=
  JOIN (Bool × Unit) (fun J1 =>
    CND ((a2 : Int) == 0) (
      J1 (true, ()) w
    ) (
      CND (decide ((a2 : Int) > 262144)) (
        J1 (true, ()) w
      ) (
        CND (decide ((a1 : Int) > 67108864)) (
          J1 (true, ()) w
        ) (
          J1 (decide ((a2 : Int) > (u64 (67108864 - a1))), ()) w
        )
      )
    )
  ) fun s2 _ w3 =>
    CND (s2.1) (
      K 1 w3
    ) (
      LET (u64 ((u64 (a1 + a2)) * 512) : Int) fun to_4 =>
      NC a0 fun p5 =>
      c_stretch_Set_Count (some p5) (u64 (a1 * 512)) to_4 (fun r6 w7 =>
      CND (decide ((r6 : Int) > 0)) (
        K 34 w7
      ) (
        NC a0 fun p8 =>
        c_stretch_Set_Add (some p8) (u64 (a1 * 512)) to_4 (fun  w9 =>
        NC a0 fun p10 =>
        c_stretch_Set_Add (some (p10.add 2)) (u64 (a1 * 512)) to_4 (fun  w11 =>
        NC a0 fun p12 =>
        c_stretch_Set_Add (some (p12.add 4)) (u64 (a1 * 512)) to_4 (fun  w13 =>
        c_radix_Tree_changed a0 (fun  w14 =>
        K 0 w14
        ) w13
        ) w11
        ) w9
        ) w7
      )
      ) w3
    )

theorem tieZ9 (c_stretch_Set_Count : ∀ (a0 : (Option Addr)) (a1 : Int) (a2 : Int) (K : Int → World → Prop) (w : World), Prop) (c_stretch_Set_Add : ∀ (a0 : (Option Addr)) (a1 : Int) (a2 : Int) (K : World → Prop) (w : World), Prop) (c_radix_Tree_changed : ∀ (a0 : (Option Addr)) (K : World → Prop) (w : World), Prop) (x : ArgsV [.one (.ptr), .one (.int .u64), .one (.int .u64)]) (K Kp : Value → World → Prop) (w : World) : T0.radix_Tree_Grow env c_stretch_Set_Count c_stretch_Set_Add c_radix_Tree_changed x.1 x.2.1 x.2.2.1 (fun r1 w' => K (.int .i64 r1) w') w =
    ev Go.Proofs.Tryd.prog (tabC [(27, fun args w K Kp => unArgs [.one (.ptr), .one (.int .u64), .one (.int .u64)] args.toList fun x => c_stretch_Set_Count x.1 x.2.1 x.2.2.1 (fun r1 w' => K (.int .u64 r1) w') w), (28, fun args w K Kp => unArgs [.one (.ptr), .one (.int .u64), .one (.int .u64)] args.toList fun x => c_stretch_Set_Add x.1 x.2.1 x.2.2.1 (fun  w' => K (.tuple ⟨[]⟩) w') w), (26, fun args w K Kp => unArgs [.one (.ptr)] args.toList fun x => c_radix_Tree_changed x.1 (fun  w' => K (.tuple ⟨[]⟩) w') w)]) (ground Go.Proofs.Tryd.prog) ann9 body9 (finQ Go.Proofs.Tryd.prog Go.Proofs.Tryd.f9 K Kp) (initF (mkArgs [.one (.ptr), .one (.int .u64), .one (.int .u64)] x)) w := by kernel_rfl
theorem tie9 (x : ArgsV [.one (.ptr), .one (.int .u64), .one (.int .u64)]) (K Kp : Value → World → Prop) (w : World) : F.radix_Tree_Grow env x.1 x.2.1 x.2.2.1 (fun r1 w' => K (.int .i64 r1) w') w =
    ev Go.Proofs.Tryd.prog (tabC [(27, C27), (28, C28), (26, C26)]) (ground Go.Proofs.Tryd.prog) ann9 body9 (finQ Go.Proofs.Tryd.prog Go.Proofs.Tryd.f9 K Kp) (initF (mkArgs [.one (.ptr), .one (.int .u64), .one (.int .u64)] x)) w := tieZ9 (F.stretch_Set_Count env) (F.stretch_Set_Add env) (F.radix_Tree_changed env) x K Kp w
theorem fits9 : FitsOne Go.Proofs.Tryd.prog 9 C9 :=
  fits_of_tie (T := [(27, C27), (28, C28), (26, C26)]) (A := ann9) (fn := Go.Proofs.Tryd.f9) (c := body9) (fits_cons fits27 (fits_cons fits28 (fits_cons fits26 fits_nil))) mixed Go.Proofs.Tryd.func9 Go.Proofs.Tryd.call9 (by kernel_rfl) (by kernel_rfl) (by kernel_rfl) tie9

/- F.stretch_Set_All -/
noncomputable def C37 : Entry := fun args w K Kp => unArgs [.one (.ptr)] args.toList fun x => F.stretch_Set_All env x.1 (fun r1 w' => K (.slice r1.base r1.len r1.cap) w') w
noncomputable def body37 : Code := (Go.Proofs.Tryd.f37.body).getD .skip
def ann37 : Ann := { loops := [], joins := [] }
theorem tie37 (x : ArgsV [.one (.ptr)]) (K Kp : Value → World → Prop) (w : World) : F.stretch_Set_All env x.1 (fun r1 w' => K (.slice r1.base r1.len r1.cap) w') w =
    ev Go.Proofs.Tryd.prog (tabC []) (ground Go.Proofs.Tryd.prog) ann37 body37 (finQ Go.Proofs.Tryd.prog Go.Proofs.Tryd.f37 K Kp) (initF (mkArgs [.one (.ptr)] x)) w := by kernel_rfl
theorem fits37 : FitsOne Go.Proofs.Tryd.prog 37 C37 :=
  fits_of_tie (T := []) (A := ann37) (fn := Go.Proofs.Tryd.f37) (c := body37) fits_nil mixed Go.Proofs.Tryd.func37 Go.Proofs.Tryd.call37 (by kernel_rfl) (by kernel_rfl) (by kernel_rfl) tie37

/- F.radix_Tree_Find -/
noncomputable def C29 : Entry := fun args w K Kp => unArgs [.one (.ptr), .one (.int .u64)] args.toList fun x => F.radix_Tree_Find env x.1 x.2.1 (fun r1 r2 w' => K (.tuple ⟨[.int .u64 r1, .bool r2]⟩) w') w
noncomputable def body29 : Code := (Go.Proofs.Tryd.f29.body).getD .skip
def ann29 : Ann := { loops := [(4, [(15, .one (.int .i64))])], joins := [] }
def T0.radix_Tree_Find (E : Env) (c_stretch_Set_All : ∀ (a0 : (Option Addr)) (K : SlV → World → Prop) (w : World), Prop) (a0 : (Option Addr)) (a1 : Int) (K : Int → Bool → World → Prop) (w : World) : Prop :=
  CND ((a1 : Int) == 0) (
    K 0 false w
  ) (
    NC a0 fun p1 =>
    c_stretch_Set_All (some (p1.add 2)) (fun r2 w3 =>
    LOOP (Int × Unit) (0, ()) w3 fun s4 _ w5 next6 =>
      CND (decide ((s4.1 : Int) < ((r2.len : Nat) : Int))) (
        NC r2.base fun p7 =>
        ((0 : Int) ≤ s4.1 ∧ (s4.1 : Int) < (r2.len : Nat)) ∧
        ∃ c8 : Int, w5.cell? ((p7.add (Int.toNat s4.1 * 2)).add 0) = some (.int .u64 c8) ∧
        ∃ c9 : Int, w5.cell? ((p7.add (Int.toNat s4.1 * 2)).add 1) = some (.int .u64 c9) ∧
        AL (.cells #[.int .u64 0, .int .u64 0] E.t_stretch_One) w5 fun b10 w11 =>
        stCells (Addr.mk b10 0 none) 0 [.int .u64 c8, .int .u64 c9] w11 fun w12 =>
        ∃ x13 : Int, w12.cell? ((Addr.mk b10 0 none).add 1) = some (.int .u64 x13) ∧
        ∃ x14 : Int, w12.cell? (Addr.mk b10 0 none) = some (.int .u64 x14) ∧
        CND (decide (((u64 (x13 - x14)) : Int) ≥ a1)) (
          ∃ x15 : Int, w12.cell? (Addr.mk b10 0 none) = some (.int .u64 x15) ∧
          K x15 true w12
        ) (
          next6 (i64 (s4.1 + 1), ()) w12
        )
      ) (
        K 0 false w5
      )
    ) w
  )

theorem tieZ29 (c_stretch_Set_All : ∀ (a0 : (Option Addr)) (K : SlV → World → Prop) (w : World), Prop) (x : ArgsV [.one (.ptr), .one (.int .u64)]) (K Kp : Value → World → Prop) (w : World) : T0.radix_Tree_Find env c_stretch_Set_All x.1 x.2.1 (fun r1 r2 w' => K (.tuple ⟨[.int .u64 r1, .bool r2]⟩) w') w =
    ev Go.Proofs.Tryd.prog (tabC [(37, fun args w K Kp => unArgs [.one (.ptr)] args.toList fun x => c_stretch_Set_All x.1 (fun r1 w' => K (.slice r1.base r1.len r1.cap) w') w)]) (ground Go.Proofs.Tryd.prog) ann29 body29 (finQ Go.Proofs.Tryd.prog Go.Proofs.Tryd.f29 K Kp) (initF (mkArgs [.one (.ptr), .one (.int .u64)] x)) w := by kernel_rfl
theorem tie29 (x : ArgsV [.one (.ptr), .one (.int .u64)]) (K Kp : Value → World → Prop) (w : World) : F.radix_Tree_Find env x.1 x.2.1 (fun r1 r2 w' => K (.tuple ⟨[.int .u64 r1, .bool r2]⟩) w') w =
    ev Go.Proofs.Tryd.prog (tabC [(37, C37)]) (ground Go.Proofs.Tryd.prog) ann29 body29 (finQ Go.Proofs.Tryd.prog Go.Proofs.Tryd.f29 K Kp) (initF (mkArgs [.one (.ptr), .one (.int .u64)] x)) w := tieZ29 (F.stretch_Set_All env) x K Kp w
theorem fits29 : FitsOne Go.Proofs.Tryd.prog 29 C29 :=
  fits_of_tie (T := [(37, C37)]) (A := ann29) (fn := Go.Proofs.Tryd.f29) (c := body29) (fits_cons fits37 fits_nil) mixed Go.Proofs.Tryd.func29 Go.Proofs.Tryd.call29 (by kernel_rfl) (by kernel_rfl) (by kernel_rfl) tie29

/- F.pcache_Cache_Empty -/
noncomputable def C15 : Entry := fun args w K Kp => unArgs [.one (.ptr)] args.toList fun x => F.pcache_Cache_Empty env x.1 (fun r1 w' => K (.bool r1) w') w
noncomputable def body15 : Code := (Go.Proofs.Tryd.f15.body).getD .skip
def ann15 : Ann := { loops := [], joins := [] }
theorem tie15 (x : ArgsV [.one (.ptr)]) (K Kp : Value → World → Prop) (w : World) : F.pcache_Cache_Empty env x.1 (fun r1 w' => K (.bool r1) w') w =
    ev Go.Proofs.Tryd.prog (tabC []) (ground Go.Proofs.Tryd.prog) ann15 body15 (finQ Go.Proofs.Tryd.prog Go.Proofs.Tryd.f15 K Kp) (initF (mkArgs [.one (.ptr)] x)) w := by kernel_rfl
theorem fits15 : FitsOne Go.Proofs.Tryd.prog 15 C15 :=
  fits_of_tie (T := []) (A := ann15) (fn := Go.Proofs.Tryd.f15) (c := body15) fits_nil mixed Go.Proofs.Tryd.func15 Go.Proofs.Tryd.call15 (by kernel_rfl) (by kernel_rfl) (by kernel_rfl) tie15

/- F.radix_Tree_looked -/
noncomputable def C54 : Entry := fun args w K Kp => unArgs [.one (.ptr), .one (.int .u64), .one (.int .u64), .one (.bool), .one (.int .i64)] args.toList fun x => F.radix_Tree_looked env x.1 x.2.1 x.2.2.1 x.2.2.2.1 x.2.2.2.2.1 (fun r1 w' => K (.int .i64 r1) w') w
noncomputable def body54 : Code := (Go.Proofs.Tryd.f54.body).getD .skip
def ann54 : Ann := { loops := [], joins := [(4, [(11, .one (.int .u64))]), (5, [(14, .one (.bool))])] }
def T0.radix_Tree_looked (E : Env) (c_stretch_Set_Count : ∀ (a0 : (Option Addr)) (a1 : Int) (a2 : Int) (K : Int → World → Prop) (w : World), Prop) (a0 : (Option Addr)) (a1 : Int) (a2 : Int) (a3 : Bool) (a4 : Int) (K : Int → World → Prop) (w : World) : Prop :=
  JOIN (Int × Unit) (fun J1 =>
    CND (a3) (
      J1 (a2, ()) w
    ) (
      J1 (0, ()) w
    )
  ) fun s2 _ w3 =>
    JOIN (Bool × Unit) (fun J4 =>
      CND ((a2 : Int) == 0) (
        J4 (true, ()) w3
      ) (
        CND (decide ((a1 : Int) ≥ 34359738368)) (
          J4 (true, ()) w3
        ) (
          CND (decide ((a2 : Int) > (u64 (34359738368 - a1)))) (
            J4 (true, ()) w3
          ) (
            NC a0 fun p7 =>
            c_stretch_Set_Count (some p7) a1 (u64 (a1 + a2)) (fun r8 w9 =>
            J4 ((r8 : Int) != a2, ()) w9
            ) w3
          )
        )
      )
    ) fun s5 _ w6 =>
      CND (s5.1) (
        K 10 w6
      ) (
        NC a0 fun p10 =>
        c_stretch_Set_Count (some (p10.add 2)) a1 (u64 (a1 + a2)) (fun r11 w12 =>
        CND ((r11 : Int) != s2.1) (
          K a4 w12
        ) (
          K 0 w12
        )
        ) w6
      )

theorem tieZ54 (c_stretch_Set_Count : ∀ (a0 : (Option Addr)) (a1 : Int) (a2 : Int) (K : Int → World → Prop) (w : World), Prop) (x : ArgsV [.one (.ptr), .one (.int .u64), .one (.int .u64), .one (.bool), .one (.int .i64)]) (K Kp : Value → World → Prop) (w : World) : T0.radix_Tree_looked env c_stretch_Set_Count x.1 x.2.1 x.2.2.1 x.2.2.2.1 x.2.2.2.2.1 (fun r1 w' => K (.int .i64 r1) w') w =
    ev Go.Proofs.Tryd.prog (tabC [(27, fun args w K Kp => unArgs [.one (.ptr), .one (.int .u64), .one (.int .u64)] args.toList fun x => c_stretch_Set_Count x.1 x.2.1 x.2.2.1 (fun r1 w' => K (.int .u64 r1) w') w)]) (ground Go.Proofs.Tryd.prog) ann54 body54 (finQ Go.Proofs.Tryd.prog Go.Proofs.Tryd.f54 K Kp) (initF (mkArgs [.one (.ptr), .one (.int .u64), .one (.int .u64), .one (.bool), .one (.int .i64)] x)) w := by kernel_rfl
theorem tie54 (x : ArgsV [.one (.ptr), .one (.int .u64), .one (.int .u64), .one (.bool), .one (.int .i64)]) (K Kp : Value → World → Prop) (w : World) : F.radix_Tree_looked env x.1 x.2.1 x.2.2.1 x.2.2.2.1 x.2.2.2.2.1 (fun r1 w' => K (.int .i64 r1) w') w =
    ev Go.Proofs.Tryd.prog (tabC [(27, C27)]) (ground Go.Proofs.Tryd.prog) ann54 body54 (finQ Go.Proofs.Tryd.prog Go.Proofs.Tryd.f54 K Kp) (initF (mkArgs [.one (.ptr), .one (.int .u64), .one (.int .u64), .one (.bool), .one (.int .i64)] x)) w := tieZ54 (F.stretch_Set_Count env) x K Kp w
theorem fits54 : FitsOne Go.Proofs.Tryd.prog 54 C54 :=
  fits_of_tie (T := [(27, C27)]) (A := ann54) (fn := Go.Proofs.Tryd.f54) (c := body54) (fits_cons fits27 fits_nil) mixed Go.Proofs.Tryd.func54 Go.Proofs.Tryd.call54 (by kernel_rfl) (by kernel_rfl) (by kernel_rfl) tie54

/- F.radix_Tree_Take -/
noncomputable def C30 : Entry := fun args w K Kp => unArgs [.one (.ptr), .one (.int .u64), .one (.int .u64)] args.toList fun x => F.radix_Tree_Take env x.1 x.2.1 x.2.2.1 (fun r1 r2 w' => K (.tuple ⟨[.int .u64 r1, .int .i64 r2]⟩) w') w
noncomputable def body30 : Code := (Go.Proofs.Tryd.f30.body).getD .skip
def ann30 : Ann := { loops := [], joins := [] }
def T0.radix_Tree_Take (E : Env) (c_radix_Tree_looked : ∀ (a0 : (Option Addr)) (a1 : Int) (a2 : Int) (a3 : Bool) (a4 : Int) (K : Int → World → Prop) (w : World), Prop) (c_stretch_Set_Count : ∀ (a0 : (Option Addr)) (a1 : Int) (a2 : Int) (K : Int → World → Prop) (w : World), Prop) (c_stretch_Set_Cut : ∀ (a0 : (Option Addr)) (a1 : Int) (a2 : Int) (K : World → Prop) (w : World), Prop) (c_radix_Tree_changed : ∀ (a0 : (Option Addr)) (K : World → Prop) (w : World), Prop) (a0 : (Option Addr)) (a1 : Int) (a2 : Int) (K : Int → Int → World → Prop) (w : World) : Prop :=
  c_radix_Tree_looked a0 a1 a2 true 32 (fun r1 w2 =>
  CND ((r1 : Int) != 0) (
    K 0 r1 w2
  ) (
    NC a0 fun p3 =>
    c_stretch_Set_Count (some (p3.add 4)) a1 (u64 (a1 + a2)) (fun r4 w5 =>
    NC a0 fun p6 =>
    c_stretch_Set_Cut (some (p6.add 2)) a1 (u64 (a1 + a2)) (fun  w7 =>
    NC a0 fun p8 =>
    c_stretch_Set_Cut (some (p8.add 4)) a1 (u64 (a1 + a2)) (fun  w9 =>
    NC a0 fun p10 =>
    c_stretch_Set_Cut (some (p10.add 6)) a1 (u64 (a1 + a2)) (fun  w11 =>
    c_radix_Tree_changed a0 (fun  w12 =>
    K r4 0 w12
    ) w11
    ) w9
    ) w7
    ) w5
    ) w2
  )
  ) w

theorem tieZ30 (c_radix_Tree_looked : ∀ (a0 : (Option Addr)) (a1 : Int) (a2 : Int) (a3 : Bool) (a4 : Int) (K : Int → World → Prop) (w : World), Prop) (c_stretch_Set_Count : ∀ (a0 : (Option Addr)) (a1 : Int) (a2 : Int) (K : Int → World → Prop) (w : World), Prop) (c_stretch_Set_Cut : ∀ (a0 : (Option Addr)) (a1 : Int) (a2 : Int) (K : World → Prop) (w : World), Prop) (c_radix_Tree_changed : ∀ (a0 : (Option Addr)) (K : World → Prop) (w : World), Prop) (x : ArgsV [.one (.ptr), .one (.int .u64), .one (.int .u64)]) (K Kp : Value → World → Prop) (w : World) : T0.radix_Tree_Take env c_radix_Tree_looked c_stretch_Set_Count c_stretch_Set_Cut c_radix_Tree_changed x.1 x.2.1 x.2.2.1 (fun r1 r2 w' => K (.tuple ⟨[.int .u64 r1, .int .i64 r2]⟩) w') w =
    ev Go.Proofs.Tryd.prog (tabC [(54, fun args w K Kp => unArgs [.one (.ptr), .one (.int .u64), .one (.int .u64), .one (.bool), .one (.int .i64)] args.toList fun x => c_radix_Tree_looked x.1 x.2.1 x.2.2.1 x.2.2.2.1 x.2.2.2.2.1 (fun r1 w' => K (.int .i64 r1) w') w), (27, fun args w K Kp => unArgs [.one (.ptr), .one (.int .u64), .one (.int .u64)] args.toList fun x => c_stretch_Set_Count x.1 x.2.1 x.2.2.1 (fun r1 w' => K (.int .u64 r1) w') w), (38, fun args w K Kp => unArgs [.one (.ptr), .one (.int .u64), .one (.int .u64)] args.toList fun x => c_stretch_Set_Cut x.1 x.2.1 x.2.2.1 (fun  w' => K (.tuple ⟨[]⟩) w') w), (26, fun args w K Kp => unArgs [.one (.ptr)] args.toList fun x => c_radix_Tree_changed x.1 (fun  w' => K (.tuple ⟨[]⟩) w') w)]) (ground Go.Proofs.Tryd.prog) ann30 body30 (finQ Go.Proofs.Tryd.prog Go.Proofs.Tryd.f30 K Kp) (initF (mkArgs [.one (.ptr), .one (.int .u64), .one (.int .u64)] x)) w := by kernel_rfl
theorem tie30 (x : ArgsV [.one (.ptr), .one (.int .u64), .one (.int .u64)]) (K Kp : Value → World → Prop) (w : World) : F.radix_Tree_Take env x.1 x.2.1 x.2.2.1 (fun r1 r2 w' => K (.tuple ⟨[.int .u64 r1, .int .i64 r2]⟩) w') w =
    ev Go.Proofs.Tryd.prog (tabC [(54, C54), (27, C27), (38, C38), (26, C26)]) (ground Go.Proofs.Tryd.prog) ann30 body30 (finQ Go.Proofs.Tryd.prog Go.Proofs.Tryd.f30 K Kp) (initF (mkArgs [.one (.ptr), .one (.int .u64), .one (.int .u64)] x)) w := tieZ30 (F.radix_Tree_looked env) (F.stretch_Set_Count env) (F.stretch_Set_Cut env) (F.radix_Tree_changed env) x K Kp w
theorem fits30 : FitsOne Go.Proofs.Tryd.prog 30 C30 :=
  fits_of_tie (T := [(54, C54), (27, C27), (38, C38), (26, C26)]) (A := ann30) (fn := Go.Proofs.Tryd.f30) (c := body30) (fits_cons fits54 (fits_cons fits27 (fits_cons fits38 (fits_cons fits26 fits_nil)))) mixed Go.Proofs.Tryd.func30 Go.Proofs.Tryd.call30 (by kernel_rfl) (by kernel_rfl) (by kernel_rfl) tie30

/- F.pcache_Cache_Fill -/
noncomputable def C10 : Entry := fun args w K Kp => unArgs [.one (.ptr), .one (.ptr)] args.toList fun x => F.pcache_Cache_Fill env x.1 x.2.1 (fun r1 w' => K (.int .i64 r1) w') w
noncomputable def body10 : Code := (Go.Proofs.Tryd.f10.body).getD .skip
def ann10 : Ann := { loops := [(8, [(28, .one (.int .u64))])], joins := [] }
def T0.pcache_Cache_Fill (E : Env) (c_radix_Tree_Find : ∀ (a0 : (Option Addr)) (a1 : Int) (K : Int → Bool → World → Prop) (w : World), Prop) (c_pcache_Cache_Empty : ∀ (a0 : (Option Addr)) (K : Bool → World → Prop) (w : World), Prop) (c_radix_Tree_Take : ∀ (a0 : (Option Addr)) (a1 : Int) (a2 : Int) (K : Int → Int → World → Prop) (w : World), Prop) (a0 : (Option Addr)) (a1 : (Option Addr)) (K : Int → World → Prop) (w : World) : Prop :=
  c_radix_Tree_Find a1 1 (fun r1 r2 w3 =>
  c_pcache_Cache_Empty a0 (fun r4 w5 =>
  CND (!r4) (
    K 33 w5
  ) (
    CND (!r2) (
      K 30 w5
    ) (
      64 ≠ (0 : Int) ∧
      NC a0 fun p6 =>
      stCells p6 0 [.int .u64 (u64 ((u64 (Int.tdiv r1 64)) * 64))] w5 fun w7 =>
      LOOP (Int × Unit) (0, ()) w7 fun s8 _ w9 next10 =>
        CND (decide ((s8.1 : Int) < 64)) (
          NC a0 fun p11 =>
          ∃ x12 : Int, w9.cell? p11 = some (.int .u64 x12) ∧
          c_radix_Tree_Take a1 (u64 (x12 + s8.1)) 1 (fun r13 r14 w15 =>
          CND ((r14 : Int) == 0) (
            NC a0 fun p16 =>
            ∃ x17 : Int, w15.cell? (p16.add 1) = some (.int .u64 x17) ∧
            (0 : Int) ≤ s8.1 ∧
            NC a0 fun p18 =>
            stCells (p18.add 1) 0 [.int .u64 (bitK .u64 1 x17 (u64 (1 * 2 ^ (min (Int.toNat s8.1) (IntKind.bits .u64)))))] w15 fun w19 =>
            NC a0 fun p20 =>
            ∃ x21 : Int, w19.cell? (p20.add 2) = some (.int .u64 x21) ∧
            (0 : Int) ≤ s8.1 ∧
            NC a0 fun p22 =>
            stCells (p22.add 2) 0 [.int .u64 (bitK .u64 1 x21 (u64 (r13 * 2 ^ (min (Int.toNat s8.1) (IntKind.bits .u64)))))] w19 fun w23 =>
            next10 (u64 (s8.1 + 1), ()) w23
          ) (
            next10 (u64 (s8.1 + 1), ()) w15
          )
          ) w9
        ) (
          K 0 w9
        )
    )
  )
  ) w3
  ) w

theorem tieZ10 (c_radix_Tree_Find : ∀ (a0 : (Option Addr)) (a1 : Int) (K : Int → Bool → World → Prop) (w : World), Prop) (c_pcache_Cache_Empty : ∀ (a0 : (Option Addr)) (K : Bool → World → Prop) (w : World), Prop) (c_radix_Tree_Take : ∀ (a0 : (Option Addr)) (a1 : Int) (a2 : Int) (K : Int → Int → World → Prop) (w : World), Prop) (x : ArgsV [.one (.ptr), .one (.ptr)]) (K Kp : Value → World → Prop) (w : World) : T0.pcache_Cache_Fill env c_radix_Tree_Find c_pcache_Cache_Empty c_radix_Tree_Take x.1 x.2.1 (fun r1 w' => K (.int .i64 r1) w') w =
    ev Go.Proofs.Tryd.prog (tabC [(29, fun args w K Kp => unArgs [.one (.ptr), .one (.int .u64)] args.toList fun x => c_radix_Tree_Find x.1 x.2.1 (fun r1 r2 w' => K (.tuple ⟨[.int .u64 r1, .bool r2]⟩) w') w), (15, fun args w K Kp => unArgs [.one (.ptr)] args.toList fun x => c_pcache_Cache_Empty x.1 (fun r1 w' => K (.bool r1) w') w), (30, fun args w K Kp => unArgs [.one (.ptr), .one (.int .u64), .one (.int .u64)] args.toList fun x => c_radix_Tree_Take x.1 x.2.1 x.2.2.1 (fun r1 r2 w' => K (.tuple ⟨[.int .u64 r1, .int .i64 r2]⟩) w') w)]) (ground Go.Proofs.Tryd.prog) ann10 body10 (finQ Go.Proofs.Tryd.prog Go.Proofs.Tryd.f10 K Kp) (initF (mkArgs [.one (.ptr), .one (.ptr)] x)) w := by kernel_rfl
theorem tie10 (x : ArgsV [.one (.ptr), .one (.ptr)]) (K Kp : Value → World → Prop) (w : World) : F.pcache_Cache_Fill env x.1 x.2.1 (fun r1 w' => K (.int .i64 r1) w') w =
    ev Go.Proofs.Tryd.prog (tabC [(29, C29), (15, C15), (30, C30)]) (ground Go.Proofs.Tryd.prog) ann10 body10 (finQ Go.Proofs.Tryd.prog Go.Proofs.Tryd.f10 K Kp) (initF (mkArgs [.one (.ptr), .one (.ptr)] x)) w := tieZ10 (F.radix_Tree_Find env) (F.pcache_Cache_Empty env) (F.radix_Tree_Take env) x K Kp w
theorem fits10 : FitsOne Go.Proofs.Tryd.prog 10 C10 :=
  fits_of_tie (T := [(29, C29), (15, C15), (30, C30)]) (A := ann10) (fn := Go.Proofs.Tryd.f10) (c := body10) (fits_cons fits29 (fits_cons fits15 (fits_cons fits30 fits_nil))) mixed Go.Proofs.Tryd.func10 Go.Proofs.Tryd.call10 (by kernel_rfl) (by kernel_rfl) (by kernel_rfl) tie10

/- F.pcache_Cache_Tell -/
noncomputable def C11 : Entry := fun args w K Kp => unArgs [.one (.ptr)] args.toList fun x => F.pcache_Cache_Tell env x.1 (fun r1 r2 r3 w' => K (.tuple ⟨[.int .u64 r1, .int .u64 r2, .int .u64 r3]⟩) w') w
noncomputable def body11 : Code := (Go.Proofs.Tryd.f11.body).getD .skip
def ann11 : Ann := { loops := [], joins := [] }
def T0.pcache_Cache_Tell (E : Env) (c_pcache_Cache_Empty : ∀ (a0 : (Option Addr)) (K : Bool → World → Prop) (w : World), Prop) (a0 : (Option Addr)) (K : Int → Int → Int → World → Prop) (w : World) : Prop :=
  c_pcache_Cache_Empty a0 (fun r1 w2 =>
  CND (r1) (
    K 0 0 0 w2
  ) (
    NC a0 fun p3 =>
    ∃ x4 : Int, w2.drew.cell? p3 = some (.int .u64 x4) ∧
    NC a0 fun p5 =>
    ∃ x6 : Int, w2.drew.cell? (p5.add 1) = some (.int .u64 x6) ∧
    NC a0 fun p7 =>
    ∃ x8 : Int, w2.drew.cell? (p7.add 2) = some (.int .u64 x8) ∧
    K x4 x6 x8 w2.drew
  )
  ) w

theorem tieZ11 (c_pcache_Cache_Empty : ∀ (a0 : (Option Addr)) (K : Bool → World → Prop) (w : World), Prop) (x : ArgsV [.one (.ptr)]) (K Kp : Value → World → Prop) (w : World) : T0.pcache_Cache_Tell env c_pcache_Cache_Empty x.1 (fun r1 r2 r3 w' => K (.tuple ⟨[.int .u64 r1, .int .u64 r2, .int .u64 r3]⟩) w') w =
    ev Go.Proofs.Tryd.prog (tabC [(15, fun args w K Kp => unArgs [.one (.ptr)] args.toList fun x => c_pcache_Cache_Empty x.1 (fun r1 w' => K (.bool r1) w') w)]) (ground Go.Proofs.Tryd.prog) ann11 body11 (finQ Go.Proofs.Tryd.prog Go.Proofs.Tryd.f11 K Kp) (initF (mkArgs [.one (.ptr)] x)) w := by kernel_rfl
theorem tie11 (x : ArgsV [.one (.ptr)]) (K Kp : Value → World → Prop) (w : World) : F.pcache_Cache_Tell env x.1 (fun r1 r2 r3 w' => K (.tuple ⟨[.int .u64 r1, .int .u64 r2, .int .u64 r3]⟩) w') w =
    ev Go.Proofs.Tryd.prog (tabC [(15, C15)]) (ground Go.Proofs.Tryd.prog) ann11 body11 (finQ Go.Proofs.Tryd.prog Go.Proofs.Tryd.f11 K Kp) (initF (mkArgs [.one (.ptr)] x)) w := tieZ11 (F.pcache_Cache_Empty env) x K Kp w
theorem fits11 : FitsOne Go.Proofs.Tryd.prog 11 C11 :=
  fits_of_tie (T := [(15, C15)]) (A := ann11) (fn := Go.Proofs.Tryd.f11) (c := body11) (fits_cons fits15 fits_nil) mixed Go.Proofs.Tryd.func11 Go.Proofs.Tryd.call11 (by kernel_rfl) (by kernel_rfl) (by kernel_rfl) tie11

/- F.math_bits_TrailingZeros64 -/
noncomputable def C55 : Entry := fun args w K Kp => unArgs [.one (.int .u64)] args.toList fun x => F.math_bits_TrailingZeros64 env x.1 (fun r1 w' => K (.int .i64 r1) w') w
noncomputable def body55 : Code := (Go.Proofs.Tryd.f55.body).getD .skip
def ann55 : Ann := { loops := [], joins := [] }
theorem tie55 (x : ArgsV [.one (.int .u64)]) (K Kp : Value → World → Prop) (w : World) : F.math_bits_TrailingZeros64 env x.1 (fun r1 w' => K (.int .i64 r1) w') w =
    ev Go.Proofs.Tryd.prog (tabC []) (ground Go.Proofs.Tryd.prog) ann55 body55 (finQ Go.Proofs.Tryd.prog Go.Proofs.Tryd.f55 K Kp) (initF (mkArgs [.one (.int .u64)] x)) w := by kernel_rfl
theorem fits55 : FitsOne Go.Proofs.Tryd.prog 55 C55 :=
  fits_of_tie (T := []) (A := ann55) (fn := Go.Proofs.Tryd.f55) (c := body55) fits_nil mixed Go.Proofs.Tryd.func55 Go.Proofs.Tryd.call55 (by kernel_rfl) (by kernel_rfl) (by kernel_rfl) tie55

/- F.pcache_find -/
noncomputable def C31 : Entry := fun args w K Kp => unArgs [.one (.int .u64), .one (.int .i64)] args.toList fun x => F.pcache_find env x.1 x.2.1 (fun r1 r2 w' => K (.tuple ⟨[.int .i64 r1, .bool r2]⟩) w') w
noncomputable def body31 : Code := (Go.Proofs.Tryd.f31.body).getD .skip
def ann31 : Ann := { loops := [(2, [(0, .one (.int .u64)), (1, .one (.int .i64)), (6, .one (.int .i64))])], joins := [] }
def T0.pcache_find (E : Env) (c_math_bits_TrailingZeros64 : ∀ (a0 : Int) (K : Int → World → Prop) (w : World), Prop) (a0 : Int) (a1 : Int) (K : Int → Bool → World → Prop) (w : World) : Prop :=
  LOOP (Int × Int × Int × Unit) (a0, a1, i64 (a1 - 1), ()) w fun s1 _ w2 next3 =>
    CND (decide ((s1.2.2.1 : Int) > 0)) (
      2 ≠ (0 : Int) ∧
      LET (minI s1.2.2.1 (maxI 1 (i64 (Int.tdiv s1.2.1 2))) : Int) fun by_4 =>
      (0 : Int) ≤ by_4 ∧
      LET (bitK .u64 0 s1.1 (Int.fdiv s1.1 (2 ^ (min (Int.toNat by_4) (IntKind.bits .u64)))) : Int) fun w_5 =>
      next3 (w_5, i64 (s1.2.1 - by_4), i64 (s1.2.2.1 - by_4), ()) w2
    ) (
      c_math_bits_TrailingZeros64 s1.1 (fun r6 w7 =>
      K r6 ((s1.1 : Int) != 0) w7
      ) w2
    )

theorem tieZ31 (c_math_bits_TrailingZeros64 : ∀ (a0 : Int) (K : Int → World → Prop) (w : World), Prop) (x : ArgsV [.one (.int .u64), .one (.int .i64)]) (K Kp : Value → World → Prop) (w : World) : T0.pcache_find env c_math_bits_TrailingZeros64 x.1 x.2.1 (fun r1 r2 w' => K (.tuple ⟨[.int .i64 r1, .bool r2]⟩) w') w =
    ev Go.Proofs.Tryd.prog (tabC [(55, fun args w K Kp => unArgs [.one (.int .u64)] args.toList fun x => c_math_bits_TrailingZeros64 x.1 (fun r1 w' => K (.int .i64 r1) w') w)]) (ground Go.Proofs.Tryd.prog) ann31 body31 (finQ Go.Proofs.Tryd.prog Go.Proofs.Tryd.f31 K Kp) (initF (mkArgs [.one (.int .u64), .one (.int .i64)] x)) w := by kernel_rfl
theorem tie31 (x : ArgsV [.one (.int .u64), .one (.int .i64)]) (K Kp : Value → World → Prop) (w : World) : F.pcache_find env x.1 x.2.1 (fun r1 r2 w' => K (.tuple ⟨[.int .i64 r1, .bool r2]⟩) w') w =
    ev Go.Proofs.Tryd.prog (tabC [(55, C55)]) (ground Go.Proofs.Tryd.prog) ann31 body31 (finQ Go.Proofs.Tryd.prog Go.Proofs.Tryd.f31 K Kp) (initF (mkArgs [.one (.int .u64), .one (.int .i64)] x)) w := tieZ31 (F.math_bits_TrailingZeros64 env) x K Kp w
theorem fits31 : FitsOne Go.Proofs.Tryd.prog 31 C31 :=
  fits_of_tie (T := [(55, C55)]) (A := ann31) (fn := Go.Proofs.Tryd.f31) (c := body31) (fits_cons fits55 fits_nil) mixed Go.Proofs.Tryd.func31 Go.Proofs.Tryd.call31 (by kernel_rfl) (by kernel_rfl) (by kernel_rfl) tie31

/- F.math_bits_OnesCount64 -/
noncomputable def C32 : Entry := fun args w K Kp => unArgs [.one (.int .u64)] args.toList fun x => F.math_bits_OnesCount64 env x.1 (fun r1 w' => K (.int .i64 r1) w') w
noncomputable def body32 : Code := (Go.Proofs.Tryd.f32.body).getD .skip
def ann32 : Ann := { loops := [], joins := [] }
theorem tie32 (x : ArgsV [.one (.int .u64)]) (K Kp : Value → World → Prop) (w : World) : F.math_bits_OnesCount64 env x.1 (fun r1 w' => K (.int .i64 r1) w') w =
    ev Go.Proofs.Tryd.prog (tabC []) (ground Go.Proofs.Tryd.prog) ann32 body32 (finQ Go.Proofs.Tryd.prog Go.Proofs.Tryd.f32 K Kp) (initF (mkArgs [.one (.int .u64)] x)) w := by kernel_rfl
theorem fits32 : FitsOne Go.Proofs.Tryd.prog 32 C32 :=
  fits_of_tie (T := []) (A := ann32) (fn := Go.Proofs.Tryd.f32) (c := body32) fits_nil mixed Go.Proofs.Tryd.func32 Go.Proofs.Tryd.call32 (by kernel_rfl) (by kernel_rfl) (by kernel_rfl) tie32

/- F.pcache_Cache_Alloc -/
noncomputable def C12 : Entry := fun args w K Kp => unArgs [.one (.ptr), .one (.int .i64)] args.toList fun x => F.pcache_Cache_Alloc env x.1 x.2.1 (fun r1 r2 r3 w' => K (.tuple ⟨[.int .u64 r1, .int .i64 r2, .int .i64 r3]⟩) w') w
noncomputable def body12 : Code := (Go.Proofs.Tryd.f12.body).getD .skip
def ann12 : Ann := { loops := [], joins := [(2, [(16, .one (.bool))])] }
def T0.pcache_Cache_Alloc (E : Env) (c_pcache_find : ∀ (a0 : Int) (a1 : Int) (K : Int → Bool → World → Prop) (w : World), Prop) (c_math_bits_OnesCount64 : ∀ (a0 : Int) (K : Int → World → Prop) (w : World), Prop) (a0 : (Option Addr)) (a1 : Int) (K : Int → Int → Int → World → Prop) (w : World) : Prop :=
  JOIN (Bool × Unit) (fun J1 =>
    CND (decide ((a1 : Int) < 1)) (
      J1 (true, ()) w
    ) (
      J1 (decide ((a1 : Int) > 64), ()) w
    )
  ) fun s2 _ w3 =>
    CND (s2.1) (
      K 0 0 1 w3
    ) (
      NC a0 fun p4 =>
      ∃ x5 : Int, w3.cell? (p4.add 1) = some (.int .u64 x5) ∧
      c_pcache_find x5 a1 (fun r6 r7 w8 =>
      CND (!r7) (
        K 0 0 30 w8
      ) (
        (0 : Int) ≤ (i64 (64 - a1)) ∧
        (0 : Int) ≤ r6 ∧
        LET (u64 ((Int.fdiv 18446744073709551615 (2 ^ (min (Int.toNat (i64 (64 - a1))) (IntKind.bits .u64)))) * 2 ^ (min (Int.toNat r6) (IntKind.bits .u64))) : Int) fun mask_9 =>
        NC a0 fun p10 =>
        ∃ x11 : Int, w8.cell? (p10.add 2) = some (.int .u64 x11) ∧
        c_math_bits_OnesCount64 (bitK .u64 0 x11 mask_9) (fun r12 w13 =>
        NC a0 fun p14 =>
        ∃ x15 : Int, w13.cell? (p14.add 1) = some (.int .u64 x15) ∧
        NC a0 fun p16 =>
        stCells (p16.add 1) 0 [.int .u64 (bitK .u64 3 x15 mask_9)] w13 fun w17 =>
        NC a0 fun p18 =>
        ∃ x19 : Int, w17.cell? (p18.add 2) = some (.int .u64 x19) ∧
        NC a0 fun p20 =>
        stCells (p20.add 2) 0 [.int .u64 (bitK .u64 3 x19 mask_9)] w17 fun w21 =>
        NC a0 fun p22 =>
        ∃ x23 : Int, w21.cell? p22 = some (.int .u64 x23) ∧
        K (u64 (x23 + (u64 (r6)))) r12 0 w21
        ) w8
      )
      ) w3
    )

theorem tieZ12 (c_pcache_find : ∀ (a0 : Int) (a1 : Int) (K : Int → Bool → World → Prop) (w : World), Prop) (c_math_bits_OnesCount64 : ∀ (a0 : Int) (K : Int → World → Prop) (w : World), Prop) (x : ArgsV [.one (.ptr), .one (.int .i64)]) (K Kp : Value → World → Prop) (w : World) : T0.pcache_Cache_Alloc env c_pcache_find c_math_bits_OnesCount64 x.1 x.2.1 (fun r1 r2 r3 w' => K (.tuple ⟨[.int .u64 r1, .int .i64 r2, .int .i64 r3]⟩) w') w =
    ev Go.Proofs.Tryd.prog (tabC [(31, fun args w K Kp => unArgs [.one (.int .u64), .one (.int .i64)] args.toList fun x => c_pcache_find x.1 x.2.1 (fun r1 r2 w' => K (.tuple ⟨[.int .i64 r1, .bool r2]⟩) w') w), (32, fun args w K Kp => unArgs [.one (.int .u64)] args.toList fun x => c_math_bits_OnesCount64 x.1 (fun r1 w' => K (.int .i64 r1) w') w)]) (ground Go.Proofs.Tryd.prog) ann12 body12 (finQ Go.Proofs.Tryd.prog Go.Proofs.Tryd.f12 K Kp) (initF (mkArgs [.one (.ptr), .one (.int .i64)] x)) w := by kernel_rfl
theorem tie12 (x : ArgsV [.one (.ptr), .one (.int .i64)]) (K Kp : Value → World → Prop) (w : World) : F.pcache_Cache_Alloc env x.1 x.2.1 (fun r1 r2 r3 w' => K (.tuple ⟨[.int .u64 r1, .int .i64 r2, .int .i64 r3]⟩) w') w =
    ev Go.Proofs.Tryd.prog (tabC [(31, C31), (32, C32)]) (ground Go.Proofs.Tryd.prog) ann12 body12 (finQ Go.Proofs.Tryd.prog Go.Proofs.Tryd.f12 K Kp) (initF (mkArgs [.one (.ptr), .one (.int .i64)] x)) w := tieZ12 (F.pcache_find env) (F.math_bits_OnesCount64 env) x K Kp w
theorem fits12 : FitsOne Go.Proofs.Tryd.prog 12 C12 :=
  fits_of_tie (T := [(31, C31), (32, C32)]) (A := ann12) (fn := Go.Proofs.Tryd.f12) (c := body12) (fits_cons fits31 (fits_cons fits32 fits_nil)) mixed Go.Proofs.Tryd.func12 Go.Proofs.Tryd.call12 (by kernel_rfl) (by kernel_rfl) (by kernel_rfl) tie12

/- F.stretch_Set_Has -/
noncomputable def C33 : Entry := fun args w K Kp => unArgs [.one (.ptr), .one (.int .u64)] args.toList fun x => F.stretch_Set_Has env x.1 x.2.1 (fun r1 w' => K (.bool r1) w') w
noncomputable def body33 : Code := (Go.Proofs.Tryd.f33.body).getD .skip
def ann33 : Ann := { loops := [], joins := [] }
def T0.stretch_Set_Has (E : Env) (c_stretch_Set_at : ∀ (a0 : (Option Addr)) (a1 : Int) (K : Int → World → Prop) (w : World), Prop) (a0 : (Option Addr)) (a1 : Int) (K : Bool → World → Prop) (w : World) : Prop :=
  c_stretch_Set_at a0 a1 (fun r1 w2 =>
  NC a0 fun p3 =>
  ∃ x4 : SlV, w2.cell? p3 = some (.slice x4.base x4.len x4.cap) ∧
  CND (decide ((r1 : Int) < ((x4.len : Nat) : Int))) (
    NC a0 fun p5 =>
    ∃ x6 : SlV, w2.cell? p5 = some (.slice x6.base x6.len x6.cap) ∧
    NC x6.base fun p7 =>
    ((0 : Int) ≤ r1 ∧ (r1 : Int) < (x6.len : Nat)) ∧
    ∃ x8 : Int, w2.cell? (p7.add (Int.toNat r1 * 2)) = some (.int .u64 x8) ∧
    K (decide ((x8 : Int) ≤ a1)) w2
  ) (
    K false w2
  )
  ) w

theorem tieZ33 (c_stretch_Set_at : ∀ (a0 : (Option Addr)) (a1 : Int) (K : Int → World → Prop) (w : World), Prop) (x : ArgsV [.one (.ptr), .one (.int .u64)]) (K Kp : Value → World → Prop) (w : World) : T0.stretch_Set_Has env c_stretch_Set_at x.1 x.2.1 (fun r1 w' => K (.bool r1) w') w =
    ev Go.Proofs.Tryd.prog (tabC [(53, fun args w K Kp => unArgs [.one (.ptr), .one (.int .u64)] args.toList fun x => c_stretch_Set_at x.1 x.2.1 (fun r1 w' => K (.int .i64 r1) w') w)]) (ground Go.Proofs.Tryd.prog) ann33 body33 (finQ Go.Proofs.Tryd.prog Go.Proofs.Tryd.f33 K Kp) (initF (mkArgs [.one (.ptr), .one (.int .u64)] x)) w := by kernel_rfl
theorem tie33 (x : ArgsV [.one (.ptr), .one (.int .u64)]) (K Kp : Value → World → Prop) (w : World) : F.stretch_Set_Has env x.1 x.2.1 (fun r1 w' => K (.bool r1) w') w =
    ev Go.Proofs.Tryd.prog (tabC [(53, C53)]) (ground Go.Proofs.Tryd.prog) ann33 body33 (finQ Go.Proofs.Tryd.prog Go.Proofs.Tryd.f33 K Kp) (initF (mkArgs [.one (.ptr), .one (.int .u64)] x)) w := tieZ33 (F.stretch_Set_at env) x K Kp w
theorem fits33 : FitsOne Go.Proofs.Tryd.prog 33 C33 :=
  fits_of_tie (T := [(53, C53)]) (A := ann33) (fn := Go.Proofs.Tryd.f33) (c := body33) (fits_cons fits53 fits_nil) mixed Go.Proofs.Tryd.func33 Go.Proofs.Tryd.call33 (by kernel_rfl) (by kernel_rfl) (by kernel_rfl) tie33

/- F.radix_Tree_State -/
noncomputable def C13 : Entry := fun args w K Kp => unArgs [.one (.ptr), .one (.int .u64)] args.toList fun x => F.radix_Tree_State env x.1 x.2.1 (fun r1 r2 r3 w' => K (.tuple ⟨[.bool r1, .bool r2, .bool r3]⟩) w') w
noncomputable def body13 : Code := (Go.Proofs.Tryd.f13.body).getD .skip
def ann13 : Ann := { loops := [], joins := [] }
def T0.radix_Tree_State (E : Env) (c_stretch_Set_Has : ∀ (a0 : (Option Addr)) (a1 : Int) (K : Bool → World → Prop) (w : World), Prop) (a0 : (Option Addr)) (a1 : Int) (K : Bool → Bool → Bool → World → Prop) (w : World) : Prop :=
  NC a0 fun p1 =>
  NC a0 fun p2 =>
  NC a0 fun p3 =>
  c_stretch_Set_Has (some p1) a1 (fun r4 w5 =>
  c_stretch_Set_Has (some (p2.add 2)) a1 (fun r6 w7 =>
  c_stretch_Set_Has (some (p3.add 4)) a1 (fun r8 w9 =>
  K r4 r6 r8 w9
  ) w7
  ) w5
  ) w.drew

theorem tieZ13 (c_stretch_Set_Has : ∀ (a0 : (Option Addr)) (a1 : Int) (K : Bool → World → Prop) (w : World), Prop) (x : ArgsV [.one (.ptr), .one (.int .u64)]) (K Kp : Value → World → Prop) (w : World) : T0.radix_Tree_State env c_stretch_Set_Has x.1 x.2.1 (fun r1 r2 r3 w' => K (.tuple ⟨[.bool r1, .bool r2, .bool r3]⟩) w') w =
    ev Go.Proofs.Tryd.prog (tabC [(33, fun args w K Kp => unArgs [.one (.ptr), .one (.int .u64)] args.toList fun x => c_stretch_Set_Has x.1 x.2.1 (fun r1 w' => K (.bool r1) w') w)]) (ground Go.Proofs.Tryd.prog) ann13 body13 (finQ Go.Proofs.Tryd.prog Go.Proofs.Tryd.f13 K Kp) (initF (mkArgs [.one (.ptr), .one (.int .u64)] x)) w := by kernel_rfl
theorem tie13 (x : ArgsV [.one (.ptr), .one (.int .u64)]) (K Kp : Value → World → Prop) (w : World) : F.radix_Tree_State env x.1 x.2.1 (fun r1 r2 r3 w' => K (.tuple ⟨[.bool r1, .bool r2, .bool r3]⟩) w') w =
    ev Go.Proofs.Tryd.prog (tabC [(33, C33)]) (ground Go.Proofs.Tryd.prog) ann13 body13 (finQ Go.Proofs.Tryd.prog Go.Proofs.Tryd.f13 K Kp) (initF (mkArgs [.one (.ptr), .one (.int .u64)] x)) w := tieZ13 (F.stretch_Set_Has env) x K Kp w
theorem fits13 : FitsOne Go.Proofs.Tryd.prog 13 C13 :=
  fits_of_tie (T := [(33, C33)]) (A := ann13) (fn := Go.Proofs.Tryd.f13) (c := body13) (fits_cons fits33 fits_nil) mixed Go.Proofs.Tryd.func13 Go.Proofs.Tryd.call13 (by kernel_rfl) (by kernel_rfl) (by kernel_rfl) tie13

/- F.stretch_Set_Sum -/
noncomputable def C35 : Entry := fun args w K Kp => unArgs [.one (.ptr)] args.toList fun x => F.stretch_Set_Sum env x.1 (fun r1 w' => K (.int .u64 r1) w') w
noncomputable def body35 : Code := (Go.Proofs.Tryd.f35.body).getD .skip
def ann35 : Ann := { loops := [], joins := [] }
theorem tie35 (x : ArgsV [.one (.ptr)]) (K Kp : Value → World → Prop) (w : World) : F.stretch_Set_Sum env x.1 (fun r1 w' => K (.int .u64 r1) w') w =
    ev Go.Proofs.Tryd.prog (tabC []) (ground Go.Proofs.Tryd.prog) ann35 body35 (finQ Go.Proofs.Tryd.prog Go.Proofs.Tryd.f35 K Kp) (initF (mkArgs [.one (.ptr)] x)) w := by kernel_rfl
theorem fits35 : FitsOne Go.Proofs.Tryd.prog 35 C35 :=
  fits_of_tie (T := []) (A := ann35) (fn := Go.Proofs.Tryd.f35) (c := body35) fits_nil mixed Go.Proofs.Tryd.func35 Go.Proofs.Tryd.call35 (by kernel_rfl) (by kernel_rfl) (by kernel_rfl) tie35

/- F.radix_Tree_Free -/
noncomputable def C17 : Entry := fun args w K Kp => unArgs [.one (.ptr)] args.toList fun x => F.radix_Tree_Free env x.1 (fun r1 w' => K (.int .u64 r1) w') w
noncomputable def body17 : Code := (Go.Proofs.Tryd.f17.body).getD .skip
def ann17 : Ann := { loops := [], joins := [] }
def T0.radix_Tree_Free (E : Env) (c_stretch_Set_Sum : ∀ (a0 : (Option Addr)) (K : Int → World → Prop) (w : World), Prop) (a0 : (Option Addr)) (K : Int → World → Prop) (w : World) : Prop :=
  NC a0 fun p1 =>
  c_stretch_Set_Sum (some (p1.add 2)) (fun r2 w3 =>
  K r2 w3
  ) w

theorem tieZ17 (c_stretch_Set_Sum : ∀ (a0 : (Option Addr)) (K : Int → World → Prop) (w : World), Prop) (x : ArgsV [.one (.ptr)]) (K Kp : Value → World → Prop) (w : World) : T0.radix_Tree_Free env c_stretch_Set_Sum x.1 (fun r1 w' => K (.int .u64 r1) w') w =
    ev Go.Proofs.Tryd.prog (tabC [(35, fun args w K Kp => unArgs [.one (.ptr)] args.toList fun x => c_stretch_Set_Sum x.1 (fun r1 w' => K (.int .u64 r1) w') w)]) (ground Go.Proofs.Tryd.prog) ann17 body17 (finQ Go.Proofs.Tryd.prog Go.Proofs.Tryd.f17 K Kp) (initF (mkArgs [.one (.ptr)] x)) w := by kernel_rfl
theorem tie17 (x : ArgsV [.one (.ptr)]) (K Kp : Value → World → Prop) (w : World) : F.radix_Tree_Free env x.1 (fun r1 w' => K (.int .u64 r1) w') w =
    ev Go.Proofs.Tryd.prog (tabC [(35, C35)]) (ground Go.Proofs.Tryd.prog) ann17 body17 (finQ Go.Proofs.Tryd.prog Go.Proofs.Tryd.f17 K Kp) (initF (mkArgs [.one (.ptr)] x)) w := tieZ17 (F.stretch_Set_Sum env) x K Kp w
theorem fits17 : FitsOne Go.Proofs.Tryd.prog 17 C17 :=
  fits_of_tie (T := [(35, C35)]) (A := ann17) (fn := Go.Proofs.Tryd.f17) (c := body17) (fits_cons fits35 fits_nil) mixed Go.Proofs.Tryd.func17 Go.Proofs.Tryd.call17 (by kernel_rfl) (by kernel_rfl) (by kernel_rfl) tie17

/- F.mallowlaw10_awake -/
noncomputable def C14 : Entry := fun args w K Kp => unArgs [] args.toList fun x => F.mallowlaw10_awake env  (fun r1 w' => K (.bool r1) w') w
noncomputable def body14 : Code := (Go.Proofs.Tryd.f14.body).getD .skip
def ann14 : Ann := { loops := [], joins := [(4, [(22, .one (.bool))])] }
def T0.mallowlaw10_awake (E : Env) (c_radix_New : ∀ (K : (Option Addr) → World → Prop) (w : World), Prop) (c_pcache_New : ∀ (K : (Option Addr) → World → Prop) (w : World), Prop) (c_radix_Tree_Grow : ∀ (a0 : (Option Addr)) (a1 : Int) (a2 : Int) (K : Int → World → Prop) (w : World), Prop) (c_pcache_Cache_Fill : ∀ (a0 : (Option Addr)) (a1 : (Option Addr)) (K : Int → World → Prop) (w : World), Prop) (c_pcache_Cache_Tell : ∀ (a0 : (Option Addr)) (K : Int → Int → Int → World → Prop) (w : World), Prop) (c_pcache_Cache_Alloc : ∀ (a0 : (Option Addr)) (a1 : Int) (K : Int → Int → Int → World → Prop) (w : World), Prop) (c_radix_Tree_Free : ∀ (a0 : (Option Addr)) (K : Int → World → Prop) (w : World), Prop) (c_pcache_Cache_Empty : ∀ (a0 : (Option Addr)) (K : Bool → World → Prop) (w : World), Prop) (K : Bool → World → Prop) (w : World) : Prop :=
  c_radix_New  (fun r1 w2 =>
  c_pcache_New  (fun r3 w4 =>
  JOIN (Bool × Unit) (fun J5 =>
    CND (r1.isNone) (
      J5 (true, ()) w4
    ) (
      CND (r3.isNone) (
        J5 (true, ()) w4
      ) (
        c_radix_Tree_Grow r1 1 1 (fun r8 w9 =>
        J5 ((r8 : Int) != 0, ()) w9
        ) w4
      )
    )
  ) fun s6 _ w7 =>
    CND (s6.1) (
      K false w7
    ) (
      c_pcache_Cache_Fill r3 r1 (fun r10 w11 =>
      c_pcache_Cache_Tell r3 (fun r12 r13 r14 w15 =>
      c_pcache_Cache_Alloc r3 3 (fun r16 r17 r18 w19 =>
      CND ((r10 : Int) == 0) (
        CND ((r12 : Int) == 512) (
          CND ((r13 : Int) == 18446744073709551615) (
            CND ((r14 : Int) == r13) (
              CND ((r16 : Int) == 512) (
                CND ((r17 : Int) == 3) (
                  CND ((r18 : Int) == 0) (
                    c_radix_Tree_Free r1 (fun r20 w21 =>
                    CND ((r20 : Int) == 448) (
                      c_pcache_Cache_Empty r3 (fun r22 w23 =>
                      K (!r22) w23
                      ) w21
                    ) (
                      K false w21
                    )
                    ) w19
                  ) (
                    K false w19
                  )
                ) (
                  K false w19
                )
              ) (
                K false w19
              )
            ) (
              K false w19
            )
          ) (
            K false w19
          )
        ) (
          K false w19
        )
      ) (
        K false w19
      )
      ) w15
      ) w11
      ) w7
    )
  ) w2
  ) w

theorem tieZ14 (c_radix_New : ∀ (K : (Option Addr) → World → Prop) (w : World), Prop) (c_pcache_New : ∀ (K : (Option Addr) → World → Prop) (w : World), Prop) (c_radix_Tree_Grow : ∀ (a0 : (Option Addr)) (a1 : Int) (a2 : Int) (K : Int → World → Prop) (w : World), Prop) (c_pcache_Cache_Fill : ∀ (a0 : (Option Addr)) (a1 : (Option Addr)) (K : Int → World → Prop) (w : World), Prop) (c_pcache_Cache_Tell : ∀ (a0 : (Option Addr)) (K : Int → Int → Int → World → Prop) (w : World), Prop) (c_pcache_Cache_Alloc : ∀ (a0 : (Option Addr)) (a1 : Int) (K : Int → Int → Int → World → Prop) (w : World), Prop) (c_radix_Tree_Free : ∀ (a0 : (Option Addr)) (K : Int → World → Prop) (w : World), Prop) (c_pcache_Cache_Empty : ∀ (a0 : (Option Addr)) (K : Bool → World → Prop) (w : World), Prop) (x : ArgsV []) (K Kp : Value → World → Prop) (w : World) : T0.mallowlaw10_awake env c_radix_New c_pcache_New c_radix_Tree_Grow c_pcache_Cache_Fill c_pcache_Cache_Tell c_pcache_Cache_Alloc c_radix_Tree_Free c_pcache_Cache_Empty  (fun r1 w' => K (.bool r1) w') w =
    ev Go.Proofs.Tryd.prog (tabC [(7, fun args w K Kp => unArgs [] args.toList fun x => c_radix_New  (fun r1 w' => K (.pointer r1) w') w), (8, fun args w K Kp => unArgs [] args.toList fun x => c_pcache_New  (fun r1 w' => K (.pointer r1) w') w), (9, fun args w K Kp => unArgs [.one (.ptr), .one (.int .u64), .one (.int .u64)] args.toList fun x => c_radix_Tree_Grow x.1 x.2.1 x.2.2.1 (fun r1 w' => K (.int .i64 r1) w') w), (10, fun args w K Kp => unArgs [.one (.ptr), .one (.ptr)] args.toList fun x => c_pcache_Cache_Fill x.1 x.2.1 (fun r1 w' => K (.int .i64 r1) w') w), (11, fun args w K Kp => unArgs [.one (.ptr)] args.toList fun x => c_pcache_Cache_Tell x.1 (fun r1 r2 r3 w' => K (.tuple ⟨[.int .u64 r1, .int .u64 r2, .int .u64 r3]⟩) w') w), (12, fun args w K Kp => unArgs [.one (.ptr), .one (.int .i64)] args.toList fun x => c_pcache_Cache_Alloc x.1 x.2.1 (fun r1 r2 r3 w' => K (.tuple ⟨[.int .u64 r1, .int .i64 r2, .int .i64 r3]⟩) w') w), (17, fun args w K Kp => unArgs [.one (.ptr)] args.toList fun x => c_radix_Tree_Free x.1 (fun r1 w' => K (.int .u64 r1) w') w), (15, fun args w K Kp => unArgs [.one (.ptr)] args.toList fun x => c_pcache_Cache_Empty x.1 (fun r1 w' => K (.bool r1) w') w)]) (ground Go.Proofs.Tryd.prog) ann14 body14 (finQ Go.Proofs.Tryd.prog Go.Proofs.Tryd.f14 K Kp) (initF (mkArgs [] x)) w := by kernel_rfl
theorem tie14 (x : ArgsV []) (K Kp : Value → World → Prop) (w : World) : F.mallowlaw10_awake env  (fun r1 w' => K (.bool r1) w') w =
    ev Go.Proofs.Tryd.prog (tabC [(7, C7), (8, C8), (9, C9), (10, C10), (11, C11), (12, C12), (17, C17), (15, C15)]) (ground Go.Proofs.Tryd.prog) ann14 body14 (finQ Go.Proofs.Tryd.prog Go.Proofs.Tryd.f14 K Kp) (initF (mkArgs [] x)) w := tieZ14 (F.radix_New env) (F.pcache_New env) (F.radix_Tree_Grow env) (F.pcache_Cache_Fill env) (F.pcache_Cache_Tell env) (F.pcache_Cache_Alloc env) (F.radix_Tree_Free env) (F.pcache_Cache_Empty env) x K Kp w
theorem fits14 : FitsOne Go.Proofs.Tryd.prog 14 C14 :=
  fits_of_tie (T := [(7, C7), (8, C8), (9, C9), (10, C10), (11, C11), (12, C12), (17, C17), (15, C15)]) (A := ann14) (fn := Go.Proofs.Tryd.f14) (c := body14) (fits_cons fits7 (fits_cons fits8 (fits_cons fits9 (fits_cons fits10 (fits_cons fits11 (fits_cons fits12 (fits_cons fits17 (fits_cons fits15 fits_nil)))))))) mixed Go.Proofs.Tryd.func14 Go.Proofs.Tryd.call14 (by kernel_rfl) (by kernel_rfl) (by kernel_rfl) tie14

/- F.mallowlaw10_CacheGives -/
noncomputable def C3 : Entry := fun args w K Kp => unArgs [.one (.sl)] args.toList fun x => F.mallowlaw10_CacheGives env x.1 (fun r1 w' => K (.bool r1) w') w
noncomputable def body3 : Code := (Go.Proofs.Tryd.f3.body).getD .skip
def ann3 : Ann := { loops := [(9, [(6, .one (.int .i64))]), (19, [(14, .one (.int .i64)), (15, .one (.int .i64))]), (23, [(16, .one (.bool)), (17, .one (.int .i64))]), (34, [(18, .one (.int .i64))])], joins := [(6, [(43, .one (.bool))]), (15, [(73, .one (.bool))]), (16, [(83, .one (.bool))]), (28, [(14, .one (.int .i64))]), (32, [(129, .one (.bool))]), (41, [(159, .one (.bool))])] }
def T0.mallowlaw10_CacheGives (E : Env) (c_radix_New : ∀ (K : (Option Addr) → World → Prop) (w : World), Prop) (c_pcache_New : ∀ (K : (Option Addr) → World → Prop) (w : World), Prop) (c_radix_Tree_Grow : ∀ (a0 : (Option Addr)) (a1 : Int) (a2 : Int) (K : Int → World → Prop) (w : World), Prop) (c_pcache_Cache_Fill : ∀ (a0 : (Option Addr)) (a1 : (Option Addr)) (K : Int → World → Prop) (w : World), Prop) (c_pcache_Cache_Tell : ∀ (a0 : (Option Addr)) (K : Int → Int → Int → World → Prop) (w : World), Prop) (c_pcache_Cache_Alloc : ∀ (a0 : (Option Addr)) (a1 : Int) (K : Int → Int → Int → World → Prop) (w : World), Prop) (c_radix_Tree_State : ∀ (a0 : (Option Addr)) (a1 : Int) (K : Bool → Bool → Bool → World → Prop) (w : World), Prop) (c_mallowlaw10_awake : ∀ (K : Bool → World → Prop) (w : World), Prop) (a0 : SlV) (K : Bool → World → Prop) (w : World) : Prop :=
  CND (decide ((((a0.len : Nat) : Int) : Int) > 80)) (
    K true w
  ) (
    c_radix_New  (fun r1 w2 =>
    c_pcache_New  (fun r3 w4 =>
    JOIN (Bool × Unit) (fun J5 =>
      CND (r1.isNone) (
        J5 (true, ()) w4
      ) (
        CND (r3.isNone) (
          J5 (true, ()) w4
        ) (
          c_radix_Tree_Grow r1 5 1 (fun r8 w9 =>
          CND ((r8 : Int) != 0) (
            J5 (true, ()) w9
          ) (
            c_pcache_Cache_Fill r3 r1 (fun r10 w11 =>
            J5 ((r10 : Int) != 0, ()) w11
            ) w9
          )
          ) w4
        )
      )
    ) fun s6 _ w7 =>
      CND (s6.1) (
        K false w7
      ) (
        ((0 : Int) ≤ 64 ∧ (64 : Int) ≤ 64 ∧ (64 : Int) < 9223372036854775808 ∧ ((1 : Nat) : Int) * 64 ≤ 140737488355328) ∧
        AL (.cells (mkZero #[.bool false] (Int.toNat 64 * 1)) E.t_bool) w7 fun b12 w13 =>
        LOOP (Int × Unit) (0, ()) w13 fun s14 _ w15 next16 =>
          CND (decide ((s14.1 : Int) < ((a0.len : Nat) : Int))) (
            NC a0.base fun p17 =>
            ((0 : Int) ≤ s14.1 ∧ (s14.1 : Int) < (a0.len : Nat)) ∧
            ∃ x18 : Int, w15.cell? (p17.add (Int.toNat s14.1 * 1)) = some (.int .i64 x18) ∧
            c_pcache_Cache_Tell r3 (fun r19 r20 r21 w22 =>
            c_pcache_Cache_Alloc r3 x18 (fun r23 r24 r25 w26 =>
            JOIN (Bool × Unit) (fun J27 =>
              CND (decide ((x18 : Int) < 1)) (
                J27 (true, ()) w26
              ) (
                J27 (decide ((x18 : Int) > 64), ()) w26
              )
            ) fun s28 _ w29 =>
              CND (s28.1) (
                JOIN (Bool × Unit) (fun J30 =>
                  CND ((r25 : Int) != 1) (
                    J30 (true, ()) w29
                  ) (
                    CND ((r23 : Int) != 0) (
                      J30 (true, ()) w29
                    ) (
                      J30 ((r24 : Int) != 0, ()) w29
                    )
                  )
                ) fun s31 _ w32 =>
                  CND (s31.1) (
                    K false w32
                  ) (
                    next16 (i64 (s14.1 + 1), ()) w32
                  )
              ) (
                JOIN (Int × Unit) (fun J33 =>
                  LOOP (Int × Int × Unit) ((-1), 0, ()) w29 fun s36 _ w37 next38 =>
                    CND (decide (((i64 (s36.2.1 + x18)) : Int) ≤ 64)) (
                      CND (decide ((s36.1 : Int) < 0)) (
                        LOOP (Bool × Int × Unit) (true, s36.2.1, ()) w37 fun s39 _ w40 next41 =>
                          CND (decide ((s39.2.1 : Int) < (i64 (s36.2.1 + x18)))) (
                            CND (s39.1) (
                              ((0 : Int) ≤ s39.2.1 ∧ (s39.2.1 : Int) < ((Int.toNat 64) : Nat)) ∧
                              ∃ x42 : Bool, w40.cell? ((Addr.mk b12 0 none).add (Int.toNat s39.2.1 * 1)) = some (.bool x42) ∧
                              next41 (!x42, i64 (s39.2.1 + 1), ()) w40
                            ) (
                              next41 (false, i64 (s39.2.1 + 1), ()) w40
                            )
                          ) (
                            CND (s39.1) (
                              next38 (s36.2.1, i64 (s36.2.1 + 1), ()) w40
                            ) (
                              next38 (s36.1, i64 (s36.2.1 + 1), ()) w40
                            )
                          )
                      ) (
                        J33 (s36.1, ()) w37
                      )
                    ) (
                      J33 (s36.1, ()) w37
                    )
                ) fun s34 _ w35 =>
                  CND (decide ((s34.1 : Int) < 0)) (
                    CND ((r25 : Int) != 30) (
                      K false w35
                    ) (
                      next16 (i64 (s14.1 + 1), ()) w35
                    )
                  ) (
                    JOIN (Bool × Unit) (fun J43 =>
                      CND ((r25 : Int) != 0) (
                        J43 (true, ()) w35
                      ) (
                        CND ((r23 : Int) != (u64 (2560 + (u64 (s34.1))))) (
                          J43 (true, ()) w35
                        ) (
                          J43 ((r24 : Int) != x18, ()) w35
                        )
                      )
                    ) fun s44 _ w45 =>
                      CND (s44.1) (
                        K false w45
                      ) (
                        LOOP (Int × Unit) (s34.1, ()) w45 fun s46 _ w47 next48 =>
                          CND (decide ((s46.1 : Int) < (i64 (s34.1 + x18)))) (
                            (0 : Int) ≤ s46.1 ∧
                            CND (((bitK .u64 0 (Int.fdiv r20 (2 ^ (min (Int.toNat s46.1) (IntKind.bits .u64)))) 1) : Int) == 0) (
                              K false w47
                            ) (
                              ((0 : Int) ≤ s46.1 ∧ (s46.1 : Int) < ((Int.toNat 64) : Nat)) ∧
                              stCells ((Addr.mk b12 0 none).add (Int.toNat s46.1 * 1)) 0 [.bool true] w47 fun w49 =>
                              c_radix_Tree_State r1 (u64 (2560 + (u64 (s46.1)))) (fun r50 r51 r52 w53 =>
                              JOIN (Bool × Unit) (fun J54 =>
                                CND (!r50) (
                                  J54 (true, ()) w53
                                ) (
                                  J54 (r51, ()) w53
                                )
                              ) fun s55 _ w56 =>
                                CND (s55.1) (
                                  K false w56
                                ) (
                                  next48 (i64 (s46.1 + 1), ()) w56
                                )
                              ) w49
                            )
                          ) (
                            next16 (i64 (s14.1 + 1), ()) w47
                          )
                      )
                  )
              )
            ) w22
            ) w15
          ) (
            c_mallowlaw10_awake  (fun r57 w58 =>
            K r57 w58
            ) w15
          )
      )
    ) w2
    ) w
  )

theorem tieZ3 (c_radix_New : ∀ (K : (Option Addr) → World → Prop) (w : World), Prop) (c_pcache_New : ∀ (K : (Option Addr) → World → Prop) (w : World), Prop) (c_radix_Tree_Grow : ∀ (a0 : (Option Addr)) (a1 : Int) (a2 : Int) (K : Int → World → Prop) (w : World), Prop) (c_pcache_Cache_Fill : ∀ (a0 : (Option Addr)) (a1 : (Option Addr)) (K : Int → World → Prop) (w : World), Prop) (c_pcache_Cache_Tell : ∀ (a0 : (Option Addr)) (K : Int → Int → Int → World → Prop) (w : World), Prop) (c_pcache_Cache_Alloc : ∀ (a0 : (Option Addr)) (a1 : Int) (K : Int → Int → Int → World → Prop) (w : World), Prop) (c_radix_Tree_State : ∀ (a0 : (Option Addr)) (a1 : Int) (K : Bool → Bool → Bool → World → Prop) (w : World), Prop) (c_mallowlaw10_awake : ∀ (K : Bool → World → Prop) (w : World), Prop) (x : ArgsV [.one (.sl)]) (K Kp : Value → World → Prop) (w : World) : T0.mallowlaw10_CacheGives env c_radix_New c_pcache_New c_radix_Tree_Grow c_pcache_Cache_Fill c_pcache_Cache_Tell c_pcache_Cache_Alloc c_radix_Tree_State c_mallowlaw10_awake x.1 (fun r1 w' => K (.bool r1) w') w =
    ev Go.Proofs.Tryd.prog (tabC [(7, fun args w K Kp => unArgs [] args.toList fun x => c_radix_New  (fun r1 w' => K (.pointer r1) w') w), (8, fun args w K Kp => unArgs [] args.toList fun x => c_pcache_New  (fun r1 w' => K (.pointer r1) w') w), (9, fun args w K Kp => unArgs [.one (.ptr), .one (.int .u64), .one (.int .u64)] args.toList fun x => c_radix_Tree_Grow x.1 x.2.1 x.2.2.1 (fun r1 w' => K (.int .i64 r1) w') w), (10, fun args w K Kp => unArgs [.one (.ptr), .one (.ptr)] args.toList fun x => c_pcache_Cache_Fill x.1 x.2.1 (fun r1 w' => K (.int .i64 r1) w') w), (11, fun args w K Kp => unArgs [.one (.ptr)] args.toList fun x => c_pcache_Cache_Tell x.1 (fun r1 r2 r3 w' => K (.tuple ⟨[.int .u64 r1, .int .u64 r2, .int .u64 r3]⟩) w') w), (12, fun args w K Kp => unArgs [.one (.ptr), .one (.int .i64)] args.toList fun x => c_pcache_Cache_Alloc x.1 x.2.1 (fun r1 r2 r3 w' => K (.tuple ⟨[.int .u64 r1, .int .i64 r2, .int .i64 r3]⟩) w') w), (13, fun args w K Kp => unArgs [.one (.ptr), .one (.int .u64)] args.toList fun x => c_radix_Tree_State x.1 x.2.1 (fun r1 r2 r3 w' => K (.tuple ⟨[.bool r1, .bool r2, .bool r3]⟩) w') w), (14, fun args w K Kp => unArgs [] args.toList fun x => c_mallowlaw10_awake  (fun r1 w' => K (.bool r1) w') w)]) (ground Go.Proofs.Tryd.prog) ann3 body3 (finQ Go.Proofs.Tryd.prog Go.Proofs.Tryd.f3 K Kp) (initF (mkArgs [.one (.sl)] x)) w := by kernel_rfl
theorem tie3 (x : ArgsV [.one (.sl)]) (K Kp : Value → World → Prop) (w : World) : F.mallowlaw10_CacheGives env x.1 (fun r1 w' => K (.bool r1) w') w =
    ev Go.Proofs.Tryd.prog (tabC [(7, C7), (8, C8), (9, C9), (10, C10), (11, C11), (12, C12), (13, C13), (14, C14)]) (ground Go.Proofs.Tryd.prog) ann3 body3 (finQ Go.Proofs.Tryd.prog Go.Proofs.Tryd.f3 K Kp) (initF (mkArgs [.one (.sl)] x)) w := tieZ3 (F.radix_New env) (F.pcache_New env) (F.radix_Tree_Grow env) (F.pcache_Cache_Fill env) (F.pcache_Cache_Tell env) (F.pcache_Cache_Alloc env) (F.radix_Tree_State env) (F.mallowlaw10_awake env) x K Kp w
theorem fits3 : FitsOne Go.Proofs.Tryd.prog 3 C3 :=
  fits_of_tie (T := [(7, C7), (8, C8), (9, C9), (10, C10), (11, C11), (12, C12), (13, C13), (14, C14)]) (A := ann3) (fn := Go.Proofs.Tryd.f3) (c := body3) (fits_cons fits7 (fits_cons fits8 (fits_cons fits9 (fits_cons fits10 (fits_cons fits11 (fits_cons fits12 (fits_cons fits13 (fits_cons fits14 fits_nil)))))))) mixed Go.Proofs.Tryd.func3 Go.Proofs.Tryd.call3 (by kernel_rfl) (by kernel_rfl) (by kernel_rfl) tie3

/- F.radix_Tree_freed -/
noncomputable def C36 : Entry := fun args w K Kp => unArgs [.one (.ptr), .one (.int .u64), .one (.int .u64), .one (.ptr)] args.toList fun x => F.radix_Tree_freed env x.1 x.2.1 x.2.2.1 x.2.2.2.1 (fun r1 w' => K (.int .i64 r1) w') w
noncomputable def body36 : Code := (Go.Proofs.Tryd.f36.body).getD .skip
def ann36 : Ann := { loops := [], joins := [] }
def T0.radix_Tree_freed (E : Env) (c_radix_Tree_looked : ∀ (a0 : (Option Addr)) (a1 : Int) (a2 : Int) (a3 : Bool) (a4 : Int) (K : Int → World → Prop) (w : World), Prop) (c_stretch_Set_Add : ∀ (a0 : (Option Addr)) (a1 : Int) (a2 : Int) (K : World → Prop) (w : World), Prop) (c_radix_Tree_changed : ∀ (a0 : (Option Addr)) (K : World → Prop) (w : World), Prop) (a0 : (Option Addr)) (a1 : Int) (a2 : Int) (a3 : (Option Addr)) (K : Int → World → Prop) (w : World) : Prop :=
  c_radix_Tree_looked a0 a1 a2 false 31 (fun r1 w2 =>
  CND ((r1 : Int) != 0) (
    K r1 w2
  ) (
    NC a0 fun p3 =>
    c_stretch_Set_Add (some (p3.add 2)) a1 (u64 (a1 + a2)) (fun  w4 =>
    c_stretch_Set_Add a3 a1 (u64 (a1 + a2)) (fun  w5 =>
    c_radix_Tree_changed a0 (fun  w6 =>
    K 0 w6
    ) w5
    ) w4
    ) w2
  )
  ) w

theorem tieZ36 (c_radix_Tree_looked : ∀ (a0 : (Option Addr)) (a1 : Int) (a2 : Int) (a3 : Bool) (a4 : Int) (K : Int → World → Prop) (w : World), Prop) (c_stretch_Set_Add : ∀ (a0 : (Option Addr)) (a1 : Int) (a2 : Int) (K : World → Prop) (w : World), Prop) (c_radix_Tree_changed : ∀ (a0 : (Option Addr)) (K : World → Prop) (w : World), Prop) (x : ArgsV [.one (.ptr), .one (.int .u64), .one (.int .u64), .one (.ptr)]) (K Kp : Value → World → Prop) (w : World) : T0.radix_Tree_freed env c_radix_Tree_looked c_stretch_Set_Add c_radix_Tree_changed x.1 x.2.1 x.2.2.1 x.2.2.2.1 (fun r1 w' => K (.int .i64 r1) w') w =
    ev Go.Proofs.Tryd.prog (tabC [(54, fun args w K Kp => unArgs [.one (.ptr), .one (.int .u64), .one (.int .u64), .one (.bool), .one (.int .i64)] args.toList fun x => c_radix_Tree_looked x.1 x.2.1 x.2.2.1 x.2.2.2.1 x.2.2.2.2.1 (fun r1 w' => K (.int .i64 r1) w') w), (28, fun args w K Kp => unArgs [.one (.ptr), .one (.int .u64), .one (.int .u64)] args.toList fun x => c_stretch_Set_Add x.1 x.2.1 x.2.2.1 (fun  w' => K (.tuple ⟨[]⟩) w') w), (26, fun args w K Kp => unArgs [.one (.ptr)] args.toList fun x => c_radix_Tree_changed x.1 (fun  w' => K (.tuple ⟨[]⟩) w') w)]) (ground Go.Proofs.Tryd.prog) ann36 body36 (finQ Go.Proofs.Tryd.prog Go.Proofs.Tryd.f36 K Kp) (initF (mkArgs [.one (.ptr), .one (.int .u64), .one (.int .u64), .one (.ptr)] x)) w := by kernel_rfl
theorem tie36 (x : ArgsV [.one (.ptr), .one (.int .u64), .one (.int .u64), .one (.ptr)]) (K Kp : Value → World → Prop) (w : World) : F.radix_Tree_freed env x.1 x.2.1 x.2.2.1 x.2.2.2.1 (fun r1 w' => K (.int .i64 r1) w') w =
    ev Go.Proofs.Tryd.prog (tabC [(54, C54), (28, C28), (26, C26)]) (ground Go.Proofs.Tryd.prog) ann36 body36 (finQ Go.Proofs.Tryd.prog Go.Proofs.Tryd.f36 K Kp) (initF (mkArgs [.one (.ptr), .one (.int .u64), .one (.int .u64), .one (.ptr)] x)) w := tieZ36 (F.radix_Tree_looked env) (F.stretch_Set_Add env) (F.radix_Tree_changed env) x K Kp w
theorem fits36 : FitsOne Go.Proofs.Tryd.prog 36 C36 :=
  fits_of_tie (T := [(54, C54), (28, C28), (26, C26)]) (A := ann36) (fn := Go.Proofs.Tryd.f36) (c := body36) (fits_cons fits54 (fits_cons fits28 (fits_cons fits26 fits_nil))) mixed Go.Proofs.Tryd.func36 Go.Proofs.Tryd.call36 (by kernel_rfl) (by kernel_rfl) (by kernel_rfl) tie36

/- F.radix_Tree_Back -/
noncomputable def C34 : Entry := fun args w K Kp => unArgs [.one (.ptr), .one (.int .u64), .one (.int .u64)] args.toList fun x => F.radix_Tree_Back env x.1 x.2.1 x.2.2.1 (fun r1 w' => K (.int .i64 r1) w') w
noncomputable def body34 : Code := (Go.Proofs.Tryd.f34.body).getD .skip
def ann34 : Ann := { loops := [], joins := [] }
def T0.radix_Tree_Back (E : Env) (c_radix_Tree_freed : ∀ (a0 : (Option Addr)) (a1 : Int) (a2 : Int) (a3 : (Option Addr)) (K : Int → World → Prop) (w : World), Prop) (a0 : (Option Addr)) (a1 : Int) (a2 : Int) (K : Int → World → Prop) (w : World) : Prop :=
  NC a0 fun p1 =>
  c_radix_Tree_freed a0 a1 a2 (some (p1.add 4)) (fun r2 w3 =>
  K r2 w3
  ) w

theorem tieZ34 (c_radix_Tree_freed : ∀ (a0 : (Option Addr)) (a1 : Int) (a2 : Int) (a3 : (Option Addr)) (K : Int → World → Prop) (w : World), Prop) (x : ArgsV [.one (.ptr), .one (.int .u64), .one (.int .u64)]) (K Kp : Value → World → Prop) (w : World) : T0.radix_Tree_Back env c_radix_Tree_freed x.1 x.2.1 x.2.2.1 (fun r1 w' => K (.int .i64 r1) w') w =
    ev Go.Proofs.Tryd.prog (tabC [(36, fun args w K Kp => unArgs [.one (.ptr), .one (.int .u64), .one (.int .u64), .one (.ptr)] args.toList fun x => c_radix_Tree_freed x.1 x.2.1 x.2.2.1 x.2.2.2.1 (fun r1 w' => K (.int .i64 r1) w') w)]) (ground Go.Proofs.Tryd.prog) ann34 body34 (finQ Go.Proofs.Tryd.prog Go.Proofs.Tryd.f34 K Kp) (initF (mkArgs [.one (.ptr), .one (.int .u64), .one (.int .u64)] x)) w := by kernel_rfl
theorem tie34 (x : ArgsV [.one (.ptr), .one (.int .u64), .one (.int .u64)]) (K Kp : Value → World → Prop) (w : World) : F.radix_Tree_Back env x.1 x.2.1 x.2.2.1 (fun r1 w' => K (.int .i64 r1) w') w =
    ev Go.Proofs.Tryd.prog (tabC [(36, C36)]) (ground Go.Proofs.Tryd.prog) ann34 body34 (finQ Go.Proofs.Tryd.prog Go.Proofs.Tryd.f34 K Kp) (initF (mkArgs [.one (.ptr), .one (.int .u64), .one (.int .u64)] x)) w := tieZ34 (F.radix_Tree_freed env) x K Kp w
theorem fits34 : FitsOne Go.Proofs.Tryd.prog 34 C34 :=
  fits_of_tie (T := [(36, C36)]) (A := ann34) (fn := Go.Proofs.Tryd.f34) (c := body34) (fits_cons fits36 fits_nil) mixed Go.Proofs.Tryd.func34 Go.Proofs.Tryd.call34 (by kernel_rfl) (by kernel_rfl) (by kernel_rfl) tie34

/- F.radix_Tree_Give -/
noncomputable def C19 : Entry := fun args w K Kp => unArgs [.one (.ptr), .one (.int .u64), .one (.int .u64)] args.toList fun x => F.radix_Tree_Give env x.1 x.2.1 x.2.2.1 (fun r1 w' => K (.int .i64 r1) w') w
noncomputable def body19 : Code := (Go.Proofs.Tryd.f19.body).getD .skip
def ann19 : Ann := { loops := [], joins := [] }
def T0.radix_Tree_Give (E : Env) (c_radix_Tree_freed : ∀ (a0 : (Option Addr)) (a1 : Int) (a2 : Int) (a3 : (Option Addr)) (K : Int → World → Prop) (w : World), Prop) (a0 : (Option Addr)) (a1 : Int) (a2 : Int) (K : Int → World → Prop) (w : World) : Prop :=
  NC a0 fun p1 =>
  c_radix_Tree_freed a0 a1 a2 (some (p1.add 6)) (fun r2 w3 =>
  K r2 w3
  ) w

theorem tieZ19 (c_radix_Tree_freed : ∀ (a0 : (Option Addr)) (a1 : Int) (a2 : Int) (a3 : (Option Addr)) (K : Int → World → Prop) (w : World), Prop) (x : ArgsV [.one (.ptr), .one (.int .u64), .one (.int .u64)]) (K Kp : Value → World → Prop) (w : World) : T0.radix_Tree_Give env c_radix_Tree_freed x.1 x.2.1 x.2.2.1 (fun r1 w' => K (.int .i64 r1) w') w =
    ev Go.Proofs.Tryd.prog (tabC [(36, fun args w K Kp => unArgs [.one (.ptr), .one (.int .u64), .one (.int .u64), .one (.ptr)] args.toList fun x => c_radix_Tree_freed x.1 x.2.1 x.2.2.1 x.2.2.2.1 (fun r1 w' => K (.int .i64 r1) w') w)]) (ground Go.Proofs.Tryd.prog) ann19 body19 (finQ Go.Proofs.Tryd.prog Go.Proofs.Tryd.f19 K Kp) (initF (mkArgs [.one (.ptr), .one (.int .u64), .one (.int .u64)] x)) w := by kernel_rfl
theorem tie19 (x : ArgsV [.one (.ptr), .one (.int .u64), .one (.int .u64)]) (K Kp : Value → World → Prop) (w : World) : F.radix_Tree_Give env x.1 x.2.1 x.2.2.1 (fun r1 w' => K (.int .i64 r1) w') w =
    ev Go.Proofs.Tryd.prog (tabC [(36, C36)]) (ground Go.Proofs.Tryd.prog) ann19 body19 (finQ Go.Proofs.Tryd.prog Go.Proofs.Tryd.f19 K Kp) (initF (mkArgs [.one (.ptr), .one (.int .u64), .one (.int .u64)] x)) w := tieZ19 (F.radix_Tree_freed env) x K Kp w
theorem fits19 : FitsOne Go.Proofs.Tryd.prog 19 C19 :=
  fits_of_tie (T := [(36, C36)]) (A := ann19) (fn := Go.Proofs.Tryd.f19) (c := body19) (fits_cons fits36 fits_nil) mixed Go.Proofs.Tryd.func19 Go.Proofs.Tryd.call19 (by kernel_rfl) (by kernel_rfl) (by kernel_rfl) tie19

/- F.pcache_Cache_Flush -/
noncomputable def C16 : Entry := fun args w K Kp => unArgs [.one (.ptr), .one (.ptr)] args.toList fun x => F.pcache_Cache_Flush env x.1 x.2.1 (fun  w' => K (.tuple ⟨[]⟩) w') w
noncomputable def body16 : Code := (Go.Proofs.Tryd.f16.body).getD .skip
def ann16 : Ann := { loops := [(1, [(5, .one (.int .u64))])], joins := [] }
def T0.pcache_Cache_Flush (E : Env) (c_radix_Tree_Back : ∀ (a0 : (Option Addr)) (a1 : Int) (a2 : Int) (K : Int → World → Prop) (w : World), Prop) (c_radix_Tree_Give : ∀ (a0 : (Option Addr)) (a1 : Int) (a2 : Int) (K : Int → World → Prop) (w : World), Prop) (a0 : (Option Addr)) (a1 : (Option Addr)) (K : World → Prop) (w : World) : Prop :=
  LOOP (Int × Unit) (0, ()) w fun s1 _ w2 next3 =>
    CND (decide ((s1.1 : Int) < 64)) (
      NC a0 fun p4 =>
      ∃ x5 : Int, w2.cell? (p4.add 1) = some (.int .u64 x5) ∧
      (0 : Int) ≤ s1.1 ∧
      CND (((bitK .u64 0 (Int.fdiv x5 (2 ^ (min (Int.toNat s1.1) (IntKind.bits .u64)))) 1) : Int) == 0) (
        next3 (u64 (s1.1 + 1), ()) w2
      ) (
        NC a0 fun p6 =>
        ∃ x7 : Int, w2.cell? (p6.add 2) = some (.int .u64 x7) ∧
        (0 : Int) ≤ s1.1 ∧
        CND (((bitK .u64 0 (Int.fdiv x7 (2 ^ (min (Int.toNat s1.1) (IntKind.bits .u64)))) 1) : Int) == 1) (
          NC a0 fun p8 =>
          ∃ x9 : Int, w2.cell? p8 = some (.int .u64 x9) ∧
          c_radix_Tree_Back a1 (u64 (x9 + s1.1)) 1 (fun r10 w11 =>
          next3 (u64 (s1.1 + 1), ()) w11
          ) w2
        ) (
          NC a0 fun p12 =>
          ∃ x13 : Int, w2.cell? p12 = some (.int .u64 x13) ∧
          c_radix_Tree_Give a1 (u64 (x13 + s1.1)) 1 (fun r14 w15 =>
          next3 (u64 (s1.1 + 1), ()) w15
          ) w2
        )
      )
    ) (
      NC a0 fun p16 =>
      stCells p16 0 [.int .u64 0, .int .u64 0, .int .u64 0] w2 fun w17 =>
      K  w17
    )

theorem tieZ16 (c_radix_Tree_Back : ∀ (a0 : (Option Addr)) (a1 : Int) (a2 : Int) (K : Int → World → Prop) (w : World), Prop) (c_radix_Tree_Give : ∀ (a0 : (Option Addr)) (a1 : Int) (a2 : Int) (K : Int → World → Prop) (w : World), Prop) (x : ArgsV [.one (.ptr), .one (.ptr)]) (K Kp : Value → World → Prop) (w : World) : T0.pcache_Cache_Flush env c_radix_Tree_Back c_radix_Tree_Give x.1 x.2.1 (fun  w' => K (.tuple ⟨[]⟩) w') w =
    ev Go.Proofs.Tryd.prog (tabC [(34, fun args w K Kp => unArgs [.one (.ptr), .one (.int .u64), .one (.int .u64)] args.toList fun x => c_radix_Tree_Back x.1 x.2.1 x.2.2.1 (fun r1 w' => K (.int .i64 r1) w') w), (19, fun args w K Kp => unArgs [.one (.ptr), .one (.int .u64), .one (.int .u64)] args.toList fun x => c_radix_Tree_Give x.1 x.2.1 x.2.2.1 (fun r1 w' => K (.int .i64 r1) w') w)]) (ground Go.Proofs.Tryd.prog) ann16 body16 (finQ Go.Proofs.Tryd.prog Go.Proofs.Tryd.f16 K Kp) (initF (mkArgs [.one (.ptr), .one (.ptr)] x)) w := by kernel_rfl
theorem tie16 (x : ArgsV [.one (.ptr), .one (.ptr)]) (K Kp : Value → World → Prop) (w : World) : F.pcache_Cache_Flush env x.1 x.2.1 (fun  w' => K (.tuple ⟨[]⟩) w') w =
    ev Go.Proofs.Tryd.prog (tabC [(34, C34), (19, C19)]) (ground Go.Proofs.Tryd.prog) ann16 body16 (finQ Go.Proofs.Tryd.prog Go.Proofs.Tryd.f16 K Kp) (initF (mkArgs [.one (.ptr), .one (.ptr)] x)) w := tieZ16 (F.radix_Tree_Back env) (F.radix_Tree_Give env) x K Kp w
theorem fits16 : FitsOne Go.Proofs.Tryd.prog 16 C16 :=
  fits_of_tie (T := [(34, C34), (19, C19)]) (A := ann16) (fn := Go.Proofs.Tryd.f16) (c := body16) (fits_cons fits34 (fits_cons fits19 fits_nil)) mixed Go.Proofs.Tryd.func16 Go.Proofs.Tryd.call16 (by kernel_rfl) (by kernel_rfl) (by kernel_rfl) tie16

/- F.mallowlaw10_CacheTwo -/
noncomputable def C4 : Entry := fun args w K Kp => unArgs [.one (.sl)] args.toList fun x => F.mallowlaw10_CacheTwo env x.1 (fun r1 w' => K (.bool r1) w') w
noncomputable def body4 : Code := (Go.Proofs.Tryd.f4.body).getD .skip
def ann4 : Ann := { loops := [(9, [(6, .one (.int .i64))]), (20, [(12, .one (.int .u64))]), (30, [(19, .one (.int .u64))])], joins := [(6, [(48, .one (.bool))]), (14, []), (28, [(123, .one (.bool))]), (35, [(149, .one (.bool))])] }
def T0.mallowlaw10_CacheTwo (E : Env) (c_radix_New : ∀ (K : (Option Addr) → World → Prop) (w : World), Prop) (c_pcache_New : ∀ (K : (Option Addr) → World → Prop) (w : World), Prop) (c_radix_Tree_Grow : ∀ (a0 : (Option Addr)) (a1 : Int) (a2 : Int) (K : Int → World → Prop) (w : World), Prop) (c_pcache_Cache_Empty : ∀ (a0 : (Option Addr)) (K : Bool → World → Prop) (w : World), Prop) (c_pcache_Cache_Fill : ∀ (a0 : (Option Addr)) (a1 : (Option Addr)) (K : Int → World → Prop) (w : World), Prop) (c_pcache_Cache_Alloc : ∀ (a0 : (Option Addr)) (a1 : Int) (K : Int → Int → Int → World → Prop) (w : World), Prop) (c_pcache_Cache_Flush : ∀ (a0 : (Option Addr)) (a1 : (Option Addr)) (K : World → Prop) (w : World), Prop) (c_pcache_Cache_Tell : ∀ (a0 : (Option Addr)) (K : Int → Int → Int → World → Prop) (w : World), Prop) (c_radix_Tree_State : ∀ (a0 : (Option Addr)) (a1 : Int) (K : Bool → Bool → Bool → World → Prop) (w : World), Prop) (c_radix_Tree_Free : ∀ (a0 : (Option Addr)) (K : Int → World → Prop) (w : World), Prop) (c_mallowlaw10_awake : ∀ (K : Bool → World → Prop) (w : World), Prop) (a0 : SlV) (K : Bool → World → Prop) (w : World) : Prop :=
  CND (decide ((((a0.len : Nat) : Int) : Int) > 60)) (
    K true w
  ) (
    c_radix_New  (fun r1 w2 =>
    c_pcache_New  (fun r3 w4 =>
    c_pcache_New  (fun r5 w6 =>
    AL (.cells ⟨[.pointer r3, .pointer r5]⟩ E.t__pcache_Cache) w6 fun b7 w8 =>
    JOIN (Bool × Unit) (fun J9 =>
      CND (r1.isNone) (
        J9 (true, ()) w8
      ) (
        ((0 : Int) ≤ 0 ∧ (0 : Int) < (2 : Nat)) ∧
        ∃ x12 : (Option Addr), w8.cell? ((Addr.mk b7 0 none).add (Int.toNat 0 * 1)) = some (.pointer x12) ∧
        CND (x12.isNone) (
          J9 (true, ()) w8
        ) (
          ((0 : Int) ≤ 1 ∧ (1 : Int) < (2 : Nat)) ∧
          ∃ x13 : (Option Addr), w8.cell? ((Addr.mk b7 0 none).add (Int.toNat 1 * 1)) = some (.pointer x13) ∧
          CND (x13.isNone) (
            J9 (true, ()) w8
          ) (
            c_radix_Tree_Grow r1 6 1 (fun r14 w15 =>
            J9 ((r14 : Int) != 0, ()) w15
            ) w8
          )
        )
      )
    ) fun s10 _ w11 =>
      CND (s10.1) (
        K false w11
      ) (
        AL (.map #[] 0) w11 fun b16 w17 =>
        LOOP (Int × Unit) (0, ()) w17 fun s18 _ w19 next20 =>
          CND (decide ((s18.1 : Int) < ((a0.len : Nat) : Int))) (
            ((0 : Int) ≤ (bitK .i64 0 s18.1 1) ∧ ((bitK .i64 0 s18.1 1) : Int) < (2 : Nat)) ∧
            ∃ x21 : (Option Addr), w19.cell? ((Addr.mk b7 0 none).add (Int.toNat (bitK .i64 0 s18.1 1) * 1)) = some (.pointer x21) ∧
            JOIN (Unit) (fun J22 =>
              c_pcache_Cache_Empty x21 (fun r25 w26 =>
              CND (r25) (
                c_pcache_Cache_Fill x21 r1 (fun r27 w28 =>
                J22 (()) w28
                ) w26
              ) (
                J22 (()) w26
              )
              ) w19
            ) fun s23 _ w24 =>
              NC a0.base fun p29 =>
              ((0 : Int) ≤ s18.1 ∧ (s18.1 : Int) < (a0.len : Nat)) ∧
              ∃ x30 : Int, w24.cell? (p29.add (Int.toNat s18.1 * 1)) = some (.int .i64 x30) ∧
              c_pcache_Cache_Alloc x21 x30 (fun r31 r32 r33 w34 =>
              CND ((r33 : Int) != 0) (
                5 ≠ (0 : Int) ∧
                CND (((Int.tmod s18.1 5) : Int) == 4) (
                  c_pcache_Cache_Flush x21 r1 (fun  w35 =>
                  next20 (i64 (s18.1 + 1), ()) w35
                  ) w34
                ) (
                  next20 (i64 (s18.1 + 1), ()) w34
                )
              ) (
                LOOP (Int × Unit) (r31, ()) w34 fun s36 _ w37 next38 =>
                  CND (decide ((s36.1 : Int) < (u64 (r31 + (u64 (x30)))))) (
                    LKP .u64 s36.1 (some b16) w37 (.bool false) fun v39 ok40 es41 =>
                    ∃ x42 : Bool, v39 = .bool x42 ∧
                    CND (x42) (
                      K false w37
                    ) (
                      MUPD .u64 s36.1 (.bool true) (some b16) w37 fun w43 =>
                      next38 (u64 (s36.1 + 1), ()) w43
                    )
                  ) (
                    ((0 : Int) ≤ 0 ∧ (0 : Int) < (2 : Nat)) ∧
                    ∃ x44 : (Option Addr), w37.cell? ((Addr.mk b7 0 none).add (Int.toNat 0 * 1)) = some (.pointer x44) ∧
                    c_pcache_Cache_Tell x44 (fun r45 r46 r47 w48 =>
                    ((0 : Int) ≤ 1 ∧ (1 : Int) < (2 : Nat)) ∧
                    ∃ x49 : (Option Addr), w48.cell? ((Addr.mk b7 0 none).add (Int.toNat 1 * 1)) = some (.pointer x49) ∧
                    c_pcache_Cache_Tell x49 (fun r50 r51 r52 w53 =>
                    JOIN (Bool × Unit) (fun J54 =>
                      CND ((r45 : Int) == r50) (
                        J54 (((bitK .u64 0 r46 r51) : Int) != 0, ()) w53
                      ) (
                        J54 (false, ()) w53
                      )
                    ) fun s55 _ w56 =>
                      CND (s55.1) (
                        K false w56
                      ) (
                        LOOP (Int × Unit) (0, ()) w56 fun s57 _ w58 next59 =>
                          CND (decide ((s57.1 : Int) < 64)) (
                            (0 : Int) ≤ s57.1 ∧
                            CND (((bitK .u64 0 (Int.fdiv r46 (2 ^ (min (Int.toNat s57.1) (IntKind.bits .u64)))) 1) : Int) == 1) (
                              c_radix_Tree_State r1 (u64 (r45 + s57.1)) (fun r60 r61 r62 w63 =>
                              JOIN (Bool × Unit) (fun J64 =>
                                CND (r61) (
                                  J64 (true, ()) w63
                                ) (
                                  LKP .u64 (u64 (r45 + s57.1)) (some b16) w63 (.bool false) fun v67 ok68 es69 =>
                                  ∃ x70 : Bool, v67 = .bool x70 ∧
                                  J64 (x70, ()) w63
                                )
                              ) fun s65 _ w66 =>
                                CND (s65.1) (
                                  K false w66
                                ) (
                                  next59 (u64 (s57.1 + 1), ()) w66
                                )
                              ) w58
                            ) (
                              next59 (u64 (s57.1 + 1), ()) w58
                            )
                          ) (
                            next20 (i64 (s18.1 + 1), ()) w58
                          )
                      )
                    ) w48
                    ) w37
                  )
              )
              ) w24
          ) (
            c_radix_Tree_Free r1 (fun r71 w72 =>
            ∃ es73 : Array MapEntry, mapAt w72 (some b16) es73 ∧
            CND (decide ((r71 : Int) ≤ (u64 (512 - (u64 (((es73.size : Nat) : Int))))))) (
              c_mallowlaw10_awake  (fun r74 w75 =>
              K r74 w75
              ) w72
            ) (
              K false w72
            )
            ) w19
          )
      )
    ) w4
    ) w2
    ) w
  )

theorem tieZ4 (c_radix_New : ∀ (K : (Option Addr) → World → Prop) (w : World), Prop) (c_pcache_New : ∀ (K : (Option Addr) → World → Prop) (w : World), Prop) (c_radix_Tree_Grow : ∀ (a0 : (Option Addr)) (a1 : Int) (a2 : Int) (K : Int → World → Prop) (w : World), Prop) (c_pcache_Cache_Empty : ∀ (a0 : (Option Addr)) (K : Bool → World → Prop) (w : World), Prop) (c_pcache_Cache_Fill : ∀ (a0 : (Option Addr)) (a1 : (Option Addr)) (K : Int → World → Prop) (w : World), Prop) (c_pcache_Cache_Alloc : ∀ (a0 : (Option Addr)) (a1 : Int) (K : Int → Int → Int → World → Prop) (w : World), Prop) (c_pcache_Cache_Flush : ∀ (a0 : (Option Addr)) (a1 : (Option Addr)) (K : World → Prop) (w : World), Prop) (c_pcache_Cache_Tell : ∀ (a0 : (Option Addr)) (K : Int → Int → Int → World → Prop) (w : World), Prop) (c_radix_Tree_State : ∀ (a0 : (Option Addr)) (a1 : Int) (K : Bool → Bool → Bool → World → Prop) (w : World), Prop) (c_radix_Tree_Free : ∀ (a0 : (Option Addr)) (K : Int → World → Prop) (w : World), Prop) (c_mallowlaw10_awake : ∀ (K : Bool → World → Prop) (w : World), Prop) (x : ArgsV [.one (.sl)]) (K Kp : Value → World → Prop) (w : World) : T0.mallowlaw10_CacheTwo env c_radix_New c_pcache_New c_radix_Tree_Grow c_pcache_Cache_Empty c_pcache_Cache_Fill c_pcache_Cache_Alloc c_pcache_Cache_Flush c_pcache_Cache_Tell c_radix_Tree_State c_radix_Tree_Free c_mallowlaw10_awake x.1 (fun r1 w' => K (.bool r1) w') w =
    ev Go.Proofs.Tryd.prog (tabC [(7, fun args w K Kp => unArgs [] args.toList fun x => c_radix_New  (fun r1 w' => K (.pointer r1) w') w), (8, fun args w K Kp => unArgs [] args.toList fun x => c_pcache_New  (fun r1 w' => K (.pointer r1) w') w), (9, fun args w K Kp => unArgs [.one (.ptr), .one (.int .u64), .one (.int .u64)] args.toList fun x => c_radix_Tree_Grow x.1 x.2.1 x.2.2.1 (fun r1 w' => K (.int .i64 r1) w') w), (15, fun args w K Kp => unArgs [.one (.ptr)] args.toList fun x => c_pcache_Cache_Empty x.1 (fun r1 w' => K (.bool r1) w') w), (10, fun args w K Kp => unArgs [.one (.ptr), .one (.ptr)] args.toList fun x => c_pcache_Cache_Fill x.1 x.2.1 (fun r1 w' => K (.int .i64 r1) w') w), (12, fun args w K Kp => unArgs [.one (.ptr), .one (.int .i64)] args.toList fun x => c_pcache_Cache_Alloc x.1 x.2.1 (fun r1 r2 r3 w' => K (.tuple ⟨[.int .u64 r1, .int .i64 r2, .int .i64 r3]⟩) w') w), (16, fun args w K Kp => unArgs [.one (.ptr), .one (.ptr)] args.toList fun x => c_pcache_Cache_Flush x.1 x.2.1 (fun  w' => K (.tuple ⟨[]⟩) w') w), (11, fun args w K Kp => unArgs [.one (.ptr)] args.toList fun x => c_pcache_Cache_Tell x.1 (fun r1 r2 r3 w' => K (.tuple ⟨[.int .u64 r1, .int .u64 r2, .int .u64 r3]⟩) w') w), (13, fun args w K Kp => unArgs [.one (.ptr), .one (.int .u64)] args.toList fun x => c_radix_Tree_State x.1 x.2.1 (fun r1 r2 r3 w' => K (.tuple ⟨[.bool r1, .bool r2, .bool r3]⟩) w') w), (17, fun args w K Kp => unArgs [.one (.ptr)] args.toList fun x => c_radix_Tree_Free x.1 (fun r1 w' => K (.int .u64 r1) w') w), (14, fun args w K Kp => unArgs [] args.toList fun x => c_mallowlaw10_awake  (fun r1 w' => K (.bool r1) w') w)]) (ground Go.Proofs.Tryd.prog) ann4 body4 (finQ Go.Proofs.Tryd.prog Go.Proofs.Tryd.f4 K Kp) (initF (mkArgs [.one (.sl)] x)) w := by kernel_rfl
theorem tie4 (x : ArgsV [.one (.sl)]) (K Kp : Value → World → Prop) (w : World) : F.mallowlaw10_CacheTwo env x.1 (fun r1 w' => K (.bool r1) w') w =
    ev Go.Proofs.Tryd.prog (tabC [(7, C7), (8, C8), (9, C9), (15, C15), (10, C10), (12, C12), (16, C16), (11, C11), (13, C13), (17, C17), (14, C14)]) (ground Go.Proofs.Tryd.prog) ann4 body4 (finQ Go.Proofs.Tryd.prog Go.Proofs.Tryd.f4 K Kp) (initF (mkArgs [.one (.sl)] x)) w := tieZ4 (F.radix_New env) (F.pcache_New env) (F.radix_Tree_Grow env) (F.pcache_Cache_Empty env) (F.pcache_Cache_Fill env) (F.pcache_Cache_Alloc env) (F.pcache_Cache_Flush env) (F.pcache_Cache_Tell env) (F.radix_Tree_State env) (F.radix_Tree_Free env) (F.mallowlaw10_awake env) x K Kp w
theorem fits4 : FitsOne Go.Proofs.Tryd.prog 4 C4 :=
  fits_of_tie (T := [(7, C7), (8, C8), (9, C9), (15, C15), (10, C10), (12, C12), (16, C16), (11, C11), (13, C13), (17, C17), (14, C14)]) (A := ann4) (fn := Go.Proofs.Tryd.f4) (c := body4) (fits_cons fits7 (fits_cons fits8 (fits_cons fits9 (fits_cons fits15 (fits_cons fits10 (fits_cons fits12 (fits_cons fits16 (fits_cons fits11 (fits_cons fits13 (fits_cons fits17 (fits_cons fits14 fits_nil))))))))))) mixed Go.Proofs.Tryd.func4 Go.Proofs.Tryd.call4 (by kernel_rfl) (by kernel_rfl) (by kernel_rfl) tie4

/- F.radix_Tree_Alloc -/
noncomputable def C18 : Entry := fun args w K Kp => unArgs [.one (.ptr), .one (.int .u64)] args.toList fun x => F.radix_Tree_Alloc env x.1 x.2.1 (fun r1 r2 r3 w' => K (.tuple ⟨[.int .u64 r1, .int .u64 r2, .int .i64 r3]⟩) w') w
noncomputable def body18 : Code := (Go.Proofs.Tryd.f18.body).getD .skip
def ann18 : Ann := { loops := [], joins := [] }
def T0.radix_Tree_Alloc (E : Env) (c_radix_Tree_Find : ∀ (a0 : (Option Addr)) (a1 : Int) (K : Int → Bool → World → Prop) (w : World), Prop) (c_radix_Tree_Take : ∀ (a0 : (Option Addr)) (a1 : Int) (a2 : Int) (K : Int → Int → World → Prop) (w : World), Prop) (a0 : (Option Addr)) (a1 : Int) (K : Int → Int → Int → World → Prop) (w : World) : Prop :=
  CND ((a1 : Int) == 0) (
    K 0 0 1 w
  ) (
    c_radix_Tree_Find a0 a1 (fun r1 r2 w3 =>
    CND (!r2) (
      K 0 0 30 w3
    ) (
      c_radix_Tree_Take a0 r1 a1 (fun r4 r5 w6 =>
      K r1 r4 r5 w6
      ) w3
    )
    ) w
  )

theorem tieZ18 (c_radix_Tree_Find : ∀ (a0 : (Option Addr)) (a1 : Int) (K : Int → Bool → World → Prop) (w : World), Prop) (c_radix_Tree_Take : ∀ (a0 : (Option Addr)) (a1 : Int) (a2 : Int) (K : Int → Int → World → Prop) (w : World), Prop) (x : ArgsV [.one (.ptr), .one (.int .u64)]) (K Kp : Value → World → Prop) (w : World) : T0.radix_Tree_Alloc env c_radix_Tree_Find c_radix_Tree_Take x.1 x.2.1 (fun r1 r2 r3 w' => K (.tuple ⟨[.int .u64 r1, .int .u64 r2, .int .i64 r3]⟩) w') w =
    ev Go.Proofs.Tryd.prog (tabC [(29, fun args w K Kp => unArgs [.one (.ptr), .one (.int .u64)] args.toList fun x => c_radix_Tree_Find x.1 x.2.1 (fun r1 r2 w' => K (.tuple ⟨[.int .u64 r1, .bool r2]⟩) w') w), (30, fun args w K Kp => unArgs [.one (.ptr), .one (.int .u64), .one (.int .u64)] args.toList fun x => c_radix_Tree_Take x.1 x.2.1 x.2.2.1 (fun r1 r2 w' => K (.tuple ⟨[.int .u64 r1, .int .i64 r2]⟩) w') w)]) (ground Go.Proofs.Tryd.prog) ann18 body18 (finQ Go.Proofs.Tryd.prog Go.Proofs.Tryd.f18 K Kp) (initF (mkArgs [.one (.ptr), .one (.int .u64)] x)) w := by kernel_rfl
theorem tie18 (x : ArgsV [.one (.ptr), .one (.int .u64)]) (K Kp : Value → World → Prop) (w : World) : F.radix_Tree_Alloc env x.1 x.2.1 (fun r1 r2 r3 w' => K (.tuple ⟨[.int .u64 r1, .int .u64 r2, .int .i64 r3]⟩) w') w =
    ev Go.Proofs.Tryd.prog (tabC [(29, C29), (30, C30)]) (ground Go.Proofs.Tryd.prog) ann18 body18 (finQ Go.Proofs.Tryd.prog Go.Proofs.Tryd.f18 K Kp) (initF (mkArgs [.one (.ptr), .one (.int .u64)] x)) w := tieZ18 (F.radix_Tree_Find env) (F.radix_Tree_Take env) x K Kp w
theorem fits18 : FitsOne Go.Proofs.Tryd.prog 18 C18 :=
  fits_of_tie (T := [(29, C29), (30, C30)]) (A := ann18) (fn := Go.Proofs.Tryd.f18) (c := body18) (fits_cons fits29 (fits_cons fits30 fits_nil)) mixed Go.Proofs.Tryd.func18 Go.Proofs.Tryd.call18 (by kernel_rfl) (by kernel_rfl) (by kernel_rfl) tie18

/- F.radix_Tree_Scavenge -/
noncomputable def C20 : Entry := fun args w K Kp => unArgs [.one (.ptr), .one (.int .u64)] args.toList fun x => F.radix_Tree_Scavenge env x.1 x.2.1 (fun r1 r2 w' => K (.tuple ⟨[.int .u64 r1, .int .u64 r2]⟩) w') w
noncomputable def body20 : Code := (Go.Proofs.Tryd.f20.body).getD .skip
def ann20 : Ann := { loops := [], joins := [(3, [(20, .one (.bool))])] }
def T0.radix_Tree_Scavenge (E : Env) (c_stretch_Set_All : ∀ (a0 : (Option Addr)) (K : SlV → World → Prop) (w : World), Prop) (c_stretch_Set_Cut : ∀ (a0 : (Option Addr)) (a1 : Int) (a2 : Int) (K : World → Prop) (w : World), Prop) (c_stretch_Set_Add : ∀ (a0 : (Option Addr)) (a1 : Int) (a2 : Int) (K : World → Prop) (w : World), Prop) (a0 : (Option Addr)) (a1 : Int) (K : Int → Int → World → Prop) (w : World) : Prop :=
  NC a0 fun p1 =>
  c_stretch_Set_All (some (p1.add 6)) (fun r2 w3 =>
  JOIN (Bool × Unit) (fun J4 =>
    CND ((((r2.len : Nat) : Int) : Int) == 0) (
      J4 (true, ()) w3
    ) (
      J4 ((a1 : Int) == 0, ()) w3
    )
  ) fun s5 _ w6 =>
    CND (s5.1) (
      K 0 0 w6
    ) (
      NC r2.base fun p7 =>
      ((0 : Int) ≤ (i64 (((r2.len : Nat) : Int) - 1)) ∧ ((i64 (((r2.len : Nat) : Int) - 1)) : Int) < (r2.len : Nat)) ∧
      ∃ c8 : Int, w6.cell? ((p7.add (Int.toNat (i64 (((r2.len : Nat) : Int) - 1)) * 2)).add 0) = some (.int .u64 c8) ∧
      ∃ c9 : Int, w6.cell? ((p7.add (Int.toNat (i64 (((r2.len : Nat) : Int) - 1)) * 2)).add 1) = some (.int .u64 c9) ∧
      AL (.cells #[.int .u64 0, .int .u64 0] E.t_stretch_One) w6 fun b10 w11 =>
      stCells (Addr.mk b10 0 none) 0 [.int .u64 c8, .int .u64 c9] w11 fun w12 =>
      ∃ x13 : Int, w12.cell? (Addr.mk b10 0 none) = some (.int .u64 x13) ∧
      ∃ x14 : Int, w12.cell? ((Addr.mk b10 0 none).add 1) = some (.int .u64 x14) ∧
      512 ≠ (0 : Int) ∧
      LET (maxI x13 (u64 ((u64 (Int.tdiv (u64 (x14 - 1)) 512)) * 512)) : Int) fun from_15 =>
      ∃ x16 : Int, w12.cell? ((Addr.mk b10 0 none).add 1) = some (.int .u64 x16) ∧
      LET (minI (u64 (x16 - from_15)) a1 : Int) fun n_17 =>
      ∃ x18 : Int, w12.cell? ((Addr.mk b10 0 none).add 1) = some (.int .u64 x18) ∧
      NC a0 fun p19 =>
      c_stretch_Set_Cut (some (p19.add 6)) (u64 (x18 - n_17)) (u64 ((u64 (x18 - n_17)) + n_17)) (fun  w20 =>
      NC a0 fun p21 =>
      c_stretch_Set_Add (some (p21.add 4)) (u64 (x18 - n_17)) (u64 ((u64 (x18 - n_17)) + n_17)) (fun  w22 =>
      K (u64 (x18 - n_17)) n_17 w22
      ) w20
      ) w12
    )
  ) w

theorem tieZ20 (c_stretch_Set_All : ∀ (a0 : (Option Addr)) (K : SlV → World → Prop) (w : World), Prop) (c_stretch_Set_Cut : ∀ (a0 : (Option Addr)) (a1 : Int) (a2 : Int) (K : World → Prop) (w : World), Prop) (c_stretch_Set_Add : ∀ (a0 : (Option Addr)) (a1 : Int) (a2 : Int) (K : World → Prop) (w : World), Prop) (x : ArgsV [.one (.ptr), .one (.int .u64)]) (K Kp : Value → World → Prop) (w : World) : T0.radix_Tree_Scavenge env c_stretch_Set_All c_stretch_Set_Cut c_stretch_Set_Add x.1 x.2.1 (fun r1 r2 w' => K (.tuple ⟨[.int .u64 r1, .int .u64 r2]⟩) w') w =
    ev Go.Proofs.Tryd.prog (tabC [(37, fun args w K Kp => unArgs [.one (.ptr)] args.toList fun x => c_stretch_Set_All x.1 (fun r1 w' => K (.slice r1.base r1.len r1.cap) w') w), (38, fun args w K Kp => unArgs [.one (.ptr), .one (.int .u64), .one (.int .u64)] args.toList fun x => c_stretch_Set_Cut x.1 x.2.1 x.2.2.1 (fun  w' => K (.tuple ⟨[]⟩) w') w), (28, fun args w K Kp => unArgs [.one (.ptr), .one (.int .u64), .one (.int .u64)] args.toList fun x => c_stretch_Set_Add x.1 x.2.1 x.2.2.1 (fun  w' => K (.tuple ⟨[]⟩) w') w)]) (ground Go.Proofs.Tryd.prog) ann20 body20 (finQ Go.Proofs.Tryd.prog Go.Proofs.Tryd.f20 K Kp) (initF (mkArgs [.one (.ptr), .one (.int .u64)] x)) w := by kernel_rfl
theorem tie20 (x : ArgsV [.one (.ptr), .one (.int .u64)]) (K Kp : Value → World → Prop) (w : World) : F.radix_Tree_Scavenge env x.1 x.2.1 (fun r1 r2 w' => K (.tuple ⟨[.int .u64 r1, .int .u64 r2]⟩) w') w =
    ev Go.Proofs.Tryd.prog (tabC [(37, C37), (38, C38), (28, C28)]) (ground Go.Proofs.Tryd.prog) ann20 body20 (finQ Go.Proofs.Tryd.prog Go.Proofs.Tryd.f20 K Kp) (initF (mkArgs [.one (.ptr), .one (.int .u64)] x)) w := tieZ20 (F.stretch_Set_All env) (F.stretch_Set_Cut env) (F.stretch_Set_Add env) x K Kp w
theorem fits20 : FitsOne Go.Proofs.Tryd.prog 20 C20 :=
  fits_of_tie (T := [(37, C37), (38, C38), (28, C28)]) (A := ann20) (fn := Go.Proofs.Tryd.f20) (c := body20) (fits_cons fits37 (fits_cons fits38 (fits_cons fits28 fits_nil))) mixed Go.Proofs.Tryd.func20 Go.Proofs.Tryd.call20 (by kernel_rfl) (by kernel_rfl) (by kernel_rfl) tie20

/- F.mallowlaw10_CacheUndo -/
noncomputable def C5 : Entry := fun args w K Kp => unArgs [.one (.sl), .one (.int .u64)] args.toList fun x => F.mallowlaw10_CacheUndo env x.1 x.2.1 (fun r1 w' => K (.bool r1) w') w
noncomputable def body5 : Code := (Go.Proofs.Tryd.f5.body).getD .skip
def ann5 : Ann := { loops := [(8, [(7, .one (.int .i64))]), (18, [(11, .one (.sl)), (12, .one (.int .u64))]), (28, [(20, .one (.int .u64)), (21, .one (.int .u64))]), (36, [(23, .one (.int .u64))])], joins := [(6, [(42, .one (.bool))]), (11, [(60, .one (.bool))]), (14, [(87, .one (.bool))]), (34, [(145, .one (.bool))]), (40, [(175, .one (.bool))])] }
def T0.mallowlaw10_CacheUndo (E : Env) (c_radix_New : ∀ (K : (Option Addr) → World → Prop) (w : World), Prop) (c_pcache_New : ∀ (K : (Option Addr) → World → Prop) (w : World), Prop) (c_radix_Tree_Grow : ∀ (a0 : (Option Addr)) (a1 : Int) (a2 : Int) (K : Int → World → Prop) (w : World), Prop) (c_radix_Tree_Alloc : ∀ (a0 : (Option Addr)) (a1 : Int) (K : Int → Int → Int → World → Prop) (w : World), Prop) (c_radix_Tree_Give : ∀ (a0 : (Option Addr)) (a1 : Int) (a2 : Int) (K : Int → World → Prop) (w : World), Prop) (c_radix_Tree_Scavenge : ∀ (a0 : (Option Addr)) (a1 : Int) (K : Int → Int → World → Prop) (w : World), Prop) (c_radix_Tree_State : ∀ (a0 : (Option Addr)) (a1 : Int) (K : Bool → Bool → Bool → World → Prop) (w : World), Prop) (c_pcache_Cache_Fill : ∀ (a0 : (Option Addr)) (a1 : (Option Addr)) (K : Int → World → Prop) (w : World), Prop) (c_pcache_Cache_Empty : ∀ (a0 : (Option Addr)) (K : Bool → World → Prop) (w : World), Prop) (c_pcache_Cache_Tell : ∀ (a0 : (Option Addr)) (K : Int → Int → Int → World → Prop) (w : World), Prop) (c_radix_Tree_Free : ∀ (a0 : (Option Addr)) (K : Int → World → Prop) (w : World), Prop) (c_pcache_Cache_Flush : ∀ (a0 : (Option Addr)) (a1 : (Option Addr)) (K : World → Prop) (w : World), Prop) (c_mallowlaw10_awake : ∀ (K : Bool → World → Prop) (w : World), Prop) (a0 : SlV) (a1 : Int) (K : Bool → World → Prop) (w : World) : Prop :=
  CND (decide ((((a0.len : Nat) : Int) : Int) > 40)) (
    K true w
  ) (
    c_radix_New  (fun r1 w2 =>
    c_pcache_New  (fun r3 w4 =>
    JOIN (Bool × Unit) (fun J5 =>
      CND (r1.isNone) (
        J5 (true, ()) w4
      ) (
        CND (r3.isNone) (
          J5 (true, ()) w4
        ) (
          c_radix_Tree_Grow r1 1 1 (fun r8 w9 =>
          J5 ((r8 : Int) != 0, ()) w9
          ) w4
        )
      )
    ) fun s6 _ w7 =>
      CND (s6.1) (
        K false w7
      ) (
        LOOP (Int × Unit) (0, ()) w7 fun s10 _ w11 next12 =>
          CND (decide ((s10.1 : Int) < ((a0.len : Nat) : Int))) (
            JOIN (Bool × Unit) (fun J13 =>
              NC a0.base fun p16 =>
              ((0 : Int) ≤ s10.1 ∧ (s10.1 : Int) < (a0.len : Nat)) ∧
              ∃ x17 : Int, w11.cell? (p16.add (Int.toNat s10.1 * 1)) = some (.int .u64 x17) ∧
              CND (decide ((x17 : Int) < 1)) (
                J13 (true, ()) w11
              ) (
                NC a0.base fun p18 =>
                ((0 : Int) ≤ s10.1 ∧ (s10.1 : Int) < (a0.len : Nat)) ∧
                ∃ x19 : Int, w11.cell? (p18.add (Int.toNat s10.1 * 1)) = some (.int .u64 x19) ∧
                J13 (decide ((x19 : Int) > 100), ()) w11
              )
            ) fun s14 _ w15 =>
              CND (s14.1) (
                K true w15
              ) (
                NC a0.base fun p20 =>
                ((0 : Int) ≤ s10.1 ∧ (s10.1 : Int) < (a0.len : Nat)) ∧
                ∃ x21 : Int, w15.cell? (p20.add (Int.toNat s10.1 * 1)) = some (.int .u64 x21) ∧
                c_radix_Tree_Alloc r1 x21 (fun r22 r23 r24 w25 =>
                JOIN (Bool × Unit) (fun J26 =>
                  CND ((r24 : Int) == 0) (
                    3 ≠ (0 : Int) ∧
                    CND (((Int.tmod s10.1 3) : Int) == 1) (
                      NC a0.base fun p29 =>
                      ((0 : Int) ≤ s10.1 ∧ (s10.1 : Int) < (a0.len : Nat)) ∧
                      ∃ x30 : Int, w25.cell? (p29.add (Int.toNat s10.1 * 1)) = some (.int .u64 x30) ∧
                      c_radix_Tree_Give r1 r22 x30 (fun r31 w32 =>
                      J26 ((r31 : Int) != 0, ()) w32
                      ) w25
                    ) (
                      J26 (false, ()) w25
                    )
                  ) (
                    J26 (false, ()) w25
                  )
                ) fun s27 _ w28 =>
                  CND (s27.1) (
                    K false w28
                  ) (
                    next12 (i64 (s10.1 + 1), ()) w28
                  )
                ) w15
              )
          ) (
            c_radix_Tree_Scavenge r1 a1 (fun r33 r34 w35 =>
            LOOP (SlV × Int × Unit) (⟨none, 0, 0⟩, 512, ()) w35 fun s36 _ w37 next38 =>
              CND (decide ((s36.2.1 : Int) < 1024)) (
                c_radix_Tree_State r1 s36.2.1 (fun r39 r40 r41 w42 =>
                AL (.cells ⟨[.bool r40, .bool r41]⟩ E.t_bool) w42 fun b43 w44 =>
                APP E.t_bool 1 1 #[.bool false] s36.1 ⟨(some (Addr.mk b43 0 none)), 2, 2⟩ w44 fun s45 w46 =>
                next38 (s45, u64 (s36.2.1 + 1), ()) w46
                ) w37
              ) (
                c_pcache_Cache_Fill r3 r1 (fun r47 w48 =>
                c_pcache_Cache_Empty r3 (fun r49 w50 =>
                CND (((r47 : Int) == 0) == r49) (
                  K false w50
                ) (
                  c_pcache_Cache_Tell r3 (fun r51 r52 r53 w54 =>
                  LOOP (Int × Int × Unit) (0, r52, ()) w54 fun s55 _ w56 next57 =>
                    CND (decide ((s55.2.1 : Int) > 0)) (
                      LET (u64 (s55.1 + (bitK .u64 0 s55.2.1 1)) : Int) fun n_58 =>
                      (0 : Int) ≤ 1 ∧
                      LET (Int.fdiv s55.2.1 (2 ^ (min (Int.toNat 1) (IntKind.bits .u64))) : Int) fun x_59 =>
                      next57 (n_58, x_59, ()) w56
                    ) (
                      c_radix_Tree_Free r1 (fun r60 w61 =>
                      c_pcache_Cache_Flush r3 r1 (fun  w62 =>
                      JOIN (Bool × Unit) (fun J63 =>
                        c_pcache_Cache_Empty r3 (fun r66 w67 =>
                        CND (!r66) (
                          J63 (true, ()) w67
                        ) (
                          c_radix_Tree_Free r1 (fun r68 w69 =>
                          J63 ((r68 : Int) != (u64 (r60 + s55.1)), ()) w69
                          ) w67
                        )
                        ) w62
                      ) fun s64 _ w65 =>
                        CND (s64.1) (
                          K false w65
                        ) (
                          LOOP (Int × Unit) (512, ()) w65 fun s70 _ w71 next72 =>
                            CND (decide ((s70.1 : Int) < 1024)) (
                              c_radix_Tree_State r1 s70.1 (fun r73 r74 r75 w76 =>
                              JOIN (Bool × Unit) (fun J77 =>
                                NC s36.1.base fun p80 =>
                                ((0 : Int) ≤ (u64 (2 * (u64 (s70.1 - 512)))) ∧ ((u64 (2 * (u64 (s70.1 - 512)))) : Int) < (s36.1.len : Nat)) ∧
                                ∃ x81 : Bool, w76.cell? (p80.add (Int.toNat (u64 (2 * (u64 (s70.1 - 512)))) * 1)) = some (.bool x81) ∧
                                CND (!(r74 == x81)) (
                                  J77 (true, ()) w76
                                ) (
                                  NC s36.1.base fun p82 =>
                                  ((0 : Int) ≤ (u64 ((u64 (2 * (u64 (s70.1 - 512)))) + 1)) ∧ ((u64 ((u64 (2 * (u64 (s70.1 - 512)))) + 1)) : Int) < (s36.1.len : Nat)) ∧
                                  ∃ x83 : Bool, w76.cell? (p82.add (Int.toNat (u64 ((u64 (2 * (u64 (s70.1 - 512)))) + 1)) * 1)) = some (.bool x83) ∧
                                  J77 (!(r75 == x83), ()) w76
                                )
                              ) fun s78 _ w79 =>
                                CND (s78.1) (
                                  K false w79
                                ) (
                                  next72 (u64 (s70.1 + 1), ()) w79
                                )
                              ) w71
                            ) (
                              c_mallowlaw10_awake  (fun r84 w85 =>
                              K r84 w85
                              ) w71
                            )
                        )
                      ) w61
                      ) w56
                    )
                  ) w50
                )
                ) w48
                ) w37
              )
            ) w11
          )
      )
    ) w2
    ) w
  )

theorem tieZ5 (c_radix_New : ∀ (K : (Option Addr) → World → Prop) (w : World), Prop) (c_pcache_New : ∀ (K : (Option Addr) → World → Prop) (w : World), Prop) (c_radix_Tree_Grow : ∀ (a0 : (Option Addr)) (a1 : Int) (a2 : Int) (K : Int → World → Prop) (w : World), Prop) (c_radix_Tree_Alloc : ∀ (a0 : (Option Addr)) (a1 : Int) (K : Int → Int → Int → World → Prop) (w : World), Prop) (c_radix_Tree_Give : ∀ (a0 : (Option Addr)) (a1 : Int) (a2 : Int) (K : Int → World → Prop) (w : World), Prop) (c_radix_Tree_Scavenge : ∀ (a0 : (Option Addr)) (a1 : Int) (K : Int → Int → World → Prop) (w : World), Prop) (c_radix_Tree_State : ∀ (a0 : (Option Addr)) (a1 : Int) (K : Bool → Bool → Bool → World → Prop) (w : World), Prop) (c_pcache_Cache_Fill : ∀ (a0 : (Option Addr)) (a1 : (Option Addr)) (K : Int → World → Prop) (w : World), Prop) (c_pcache_Cache_Empty : ∀ (a0 : (Option Addr)) (K : Bool → World → Prop) (w : World), Prop) (c_pcache_Cache_Tell : ∀ (a0 : (Option Addr)) (K : Int → Int → Int → World → Prop) (w : World), Prop) (c_radix_Tree_Free : ∀ (a0 : (Option Addr)) (K : Int → World → Prop) (w : World), Prop) (c_pcache_Cache_Flush : ∀ (a0 : (Option Addr)) (a1 : (Option Addr)) (K : World → Prop) (w : World), Prop) (c_mallowlaw10_awake : ∀ (K : Bool → World → Prop) (w : World), Prop) (x : ArgsV [.one (.sl), .one (.int .u64)]) (K Kp : Value → World → Prop) (w : World) : T0.mallowlaw10_CacheUndo env c_radix_New c_pcache_New c_radix_Tree_Grow c_radix_Tree_Alloc c_radix_Tree_Give c_radix_Tree_Scavenge c_radix_Tree_State c_pcache_Cache_Fill c_pcache_Cache_Empty c_pcache_Cache_Tell c_radix_Tree_Free c_pcache_Cache_Flush c_mallowlaw10_awake x.1 x.2.1 (fun r1 w' => K (.bool r1) w') w =
    ev Go.Proofs.Tryd.prog (tabC [(7, fun args w K Kp => unArgs [] args.toList fun x => c_radix_New  (fun r1 w' => K (.pointer r1) w') w), (8, fun args w K Kp => unArgs [] args.toList fun x => c_pcache_New  (fun r1 w' => K (.pointer r1) w') w), (9, fun args w K Kp => unArgs [.one (.ptr), .one (.int .u64), .one (.int .u64)] args.toList fun x => c_radix_Tree_Grow x.1 x.2.1 x.2.2.1 (fun r1 w' => K (.int .i64 r1) w') w), (18, fun args w K Kp => unArgs [.one (.ptr), .one (.int .u64)] args.toList fun x => c_radix_Tree_Alloc x.1 x.2.1 (fun r1 r2 r3 w' => K (.tuple ⟨[.int .u64 r1, .int .u64 r2, .int .i64 r3]⟩) w') w), (19, fun args w K Kp => unArgs [.one (.ptr), .one (.int .u64), .one (.int .u64)] args.toList fun x => c_radix_Tree_Give x.1 x.2.1 x.2.2.1 (fun r1 w' => K (.int .i64 r1) w') w), (20, fun args w K Kp => unArgs [.one (.ptr), .one (.int .u64)] args.toList fun x => c_radix_Tree_Scavenge x.1 x.2.1 (fun r1 r2 w' => K (.tuple ⟨[.int .u64 r1, .int .u64 r2]⟩) w') w), (13, fun args w K Kp => unArgs [.one (.ptr), .one (.int .u64)] args.toList fun x => c_radix_Tree_State x.1 x.2.1 (fun r1 r2 r3 w' => K (.tuple ⟨[.bool r1, .bool r2, .bool r3]⟩) w') w), (10, fun args w K Kp => unArgs [.one (.ptr), .one (.ptr)] args.toList fun x => c_pcache_Cache_Fill x.1 x.2.1 (fun r1 w' => K (.int .i64 r1) w') w), (15, fun args w K Kp => unArgs [.one (.ptr)] args.toList fun x => c_pcache_Cache_Empty x.1 (fun r1 w' => K (.bool r1) w') w), (11, fun args w K Kp => unArgs [.one (.ptr)] args.toList fun x => c_pcache_Cache_Tell x.1 (fun r1 r2 r3 w' => K (.tuple ⟨[.int .u64 r1, .int .u64 r2, .int .u64 r3]⟩) w') w), (17, fun args w K Kp => unArgs [.one (.ptr)] args.toList fun x => c_radix_Tree_Free x.1 (fun r1 w' => K (.int .u64 r1) w') w), (16, fun args w K Kp => unArgs [.one (.ptr), .one (.ptr)] args.toList fun x => c_pcache_Cache_Flush x.1 x.2.1 (fun  w' => K (.tuple ⟨[]⟩) w') w), (14, fun args w K Kp => unArgs [] args.toList fun x => c_mallowlaw10_awake  (fun r1 w' => K (.bool r1) w') w)]) (ground Go.Proofs.Tryd.prog) ann5 body5 (finQ Go.Proofs.Tryd.prog Go.Proofs.Tryd.f5 K Kp) (initF (mkArgs [.one (.sl), .one (.int .u64)] x)) w := by kernel_rfl
theorem tie5 (x : ArgsV [.one (.sl), .one (.int .u64)]) (K Kp : Value → World → Prop) (w : World) : F.mallowlaw10_CacheUndo env x.1 x.2.1 (fun r1 w' => K (.bool r1) w') w =
    ev Go.Proofs.Tryd.prog (tabC [(7, C7), (8, C8), (9, C9), (18, C18), (19, C19), (20, C20), (13, C13), (10, C10), (15, C15), (11, C11), (17, C17), (16, C16), (14, C14)]) (ground Go.Proofs.Tryd.prog) ann5 body5 (finQ Go.Proofs.Tryd.prog Go.Proofs.Tryd.f5 K Kp) (initF (mkArgs [.one (.sl), .one (.int .u64)] x)) w := tieZ5 (F.radix_New env) (F.pcache_New env) (F.radix_Tree_Grow env) (F.radix_Tree_Alloc env) (F.radix_Tree_Give env) (F.radix_Tree_Scavenge env) (F.radix_Tree_State env) (F.pcache_Cache_Fill env) (F.pcache_Cache_Empty env) (F.pcache_Cache_Tell env) (F.radix_Tree_Free env) (F.pcache_Cache_Flush env) (F.mallowlaw10_awake env) x K Kp w
theorem fits5 : FitsOne Go.Proofs.Tryd.prog 5 C5 :=
  fits_of_tie (T := [(7, C7), (8, C8), (9, C9), (18, C18), (19, C19), (20, C20), (13, C13), (10, C10), (15, C15), (11, C11), (17, C17), (16, C16), (14, C14)]) (A := ann5) (fn := Go.Proofs.Tryd.f5) (c := body5) (fits_cons fits7 (fits_cons fits8 (fits_cons fits9 (fits_cons fits18 (fits_cons fits19 (fits_cons fits20 (fits_cons fits13 (fits_cons fits10 (fits_cons fits15 (fits_cons fits11 (fits_cons fits17 (fits_cons fits16 (fits_cons fits14 fits_nil))))))))))))) mixed Go.Proofs.Tryd.func5 Go.Proofs.Tryd.call5 (by kernel_rfl) (by kernel_rfl) (by kernel_rfl) tie5

/- F.mallowref9_Tree_find -/
noncomputable def C39 : Entry := fun args w K Kp => unArgs [.one (.ptr), .one (.int .u64)] args.toList fun x => F.mallowref9_Tree_find env x.1 x.2.1 (fun r1 r2 w' => K (.tuple ⟨[.int .i64 r1, .bool r2]⟩) w') w
noncomputable def body39 : Code := (Go.Proofs.Tryd.f39.body).getD .skip
def ann39 : Ann := { loops := [(2, [(6, .one (.int .i64))])], joins := [(4, [(6, .one (.int .i64))])] }
theorem tie39 (x : ArgsV [.one (.ptr), .one (.int .u64)]) (K Kp : Value → World → Prop) (w : World) : F.mallowref9_Tree_find env x.1 x.2.1 (fun r1 r2 w' => K (.tuple ⟨[.int .i64 r1, .bool r2]⟩) w') w =
    ev Go.Proofs.Tryd.prog (tabC []) (ground Go.Proofs.Tryd.prog) ann39 body39 (finQ Go.Proofs.Tryd.prog Go.Proofs.Tryd.f39 K Kp) (initF (mkArgs [.one (.ptr), .one (.int .u64)] x)) w := by kernel_rfl
theorem fits39 : FitsOne Go.Proofs.Tryd.prog 39 C39 :=
  fits_of_tie (T := []) (A := ann39) (fn := Go.Proofs.Tryd.f39) (c := body39) fits_nil mixed Go.Proofs.Tryd.func39 Go.Proofs.Tryd.call39 (by kernel_rfl) (by kernel_rfl) (by kernel_rfl) tie39

/- F.mallowref6_Right -/
noncomputable def C68 : Entry := fun args w K Kp => unArgs [.one (.int .i64), .one (.int .i64)] args.toList fun x => F.mallowref6_Right env x.1 x.2.1 (fun r1 w' => K (.bool r1) w') w
noncomputable def body68 : Code := (Go.Proofs.Tryd.f68.body).getD .skip
def ann68 : Ann := { loops := [], joins := [] }
theorem tie68 (x : ArgsV [.one (.int .i64), .one (.int .i64)]) (K Kp : Value → World → Prop) (w : World) : F.mallowref6_Right env x.1 x.2.1 (fun r1 w' => K (.bool r1) w') w =
    ev Go.Proofs.Tryd.prog (tabC []) (ground Go.Proofs.Tryd.prog) ann68 body68 (finQ Go.Proofs.Tryd.prog Go.Proofs.Tryd.f68 K Kp) (initF (mkArgs [.one (.int .i64), .one (.int .i64)] x)) w := by kernel_rfl
theorem fits68 : FitsOne Go.Proofs.Tryd.prog 68 C68 :=
  fits_of_tie (T := []) (A := ann68) (fn := Go.Proofs.Tryd.f68) (c := body68) fits_nil mixed Go.Proofs.Tryd.func68 Go.Proofs.Tryd.call68 (by kernel_rfl) (by kernel_rfl) (by kernel_rfl) tie68

/- F.mallowref6_Row_Put -/
noncomputable def C56 : Entry := fun args w K Kp => unArgs [.one (.ptr), .one (.int .i64), .one (.int .i64), .one (.bool)] args.toList fun x => F.mallowref6_Row_Put env x.1 x.2.1 x.2.2.1 x.2.2.2.1 (fun r1 w' => K (.int .i64 r1) w') w
noncomputable def body56 : Code := (Go.Proofs.Tryd.f56.body).getD .skip
def ann56 : Ann := { loops := [(4, [(9, .one (.int .i64))])], joins := [] }
def T0.mallowref6_Row_Put (E : Env) (c_mallowref6_Right : ∀ (a0 : Int) (a1 : Int) (K : Bool → World → Prop) (w : World), Prop) (a0 : (Option Addr)) (a1 : Int) (a2 : Int) (a3 : Bool) (K : Int → World → Prop) (w : World) : Prop :=
  c_mallowref6_Right a1 a2 (fun r1 w2 =>
  CND (!r1) (
    K 1 w2
  ) (
    LOOP (Int × Unit) (a1, ()) w2 fun s3 _ w4 next5 =>
      CND (decide ((s3.1 : Int) < (i64 (a1 + a2)))) (
        NC a0 fun p6 =>
        ((0 : Int) ≤ s3.1 ∧ (s3.1 : Int) < (512 : Nat)) ∧
        stCells (p6.add (Int.toNat s3.1 * 1)) 0 [.bool a3] w4 fun w7 =>
        next5 (i64 (s3.1 + 1), ()) w7
      ) (
        K 0 w4
      )
  )
  ) w

theorem tieZ56 (c_mallowref6_Right : ∀ (a0 : Int) (a1 : Int) (K : Bool → World → Prop) (w : World), Prop) (x : ArgsV [.one (.ptr), .one (.int .i64), .one (.int .i64), .one (.bool)]) (K Kp : Value → World → Prop) (w : World) : T0.mallowref6_Row_Put env c_mallowref6_Right x.1 x.2.1 x.2.2.1 x.2.2.2.1 (fun r1 w' => K (.int .i64 r1) w') w =
    ev Go.Proofs.Tryd.prog (tabC [(68, fun args w K Kp => unArgs [.one (.int .i64), .one (.int .i64)] args.toList fun x => c_mallowref6_Right x.1 x.2.1 (fun r1 w' => K (.bool r1) w') w)]) (ground Go.Proofs.Tryd.prog) ann56 body56 (finQ Go.Proofs.Tryd.prog Go.Proofs.Tryd.f56 K Kp) (initF (mkArgs [.one (.ptr), .one (.int .i64), .one (.int .i64), .one (.bool)] x)) w := by kernel_rfl
theorem tie56 (x : ArgsV [.one (.ptr), .one (.int .i64), .one (.int .i64), .one (.bool)]) (K Kp : Value → World → Prop) (w : World) : F.mallowref6_Row_Put env x.1 x.2.1 x.2.2.1 x.2.2.2.1 (fun r1 w' => K (.int .i64 r1) w') w =
    ev Go.Proofs.Tryd.prog (tabC [(68, C68)]) (ground Go.Proofs.Tryd.prog) ann56 body56 (finQ Go.Proofs.Tryd.prog Go.Proofs.Tryd.f56 K Kp) (initF (mkArgs [.one (.ptr), .one (.int .i64), .one (.int .i64), .one (.bool)] x)) w := tieZ56 (F.mallowref6_Right env) x K Kp w
theorem fits56 : FitsOne Go.Proofs.Tryd.prog 56 C56 :=
  fits_of_tie (T := [(68, C68)]) (A := ann56) (fn := Go.Proofs.Tryd.f56) (c := body56) (fits_cons fits68 fits_nil) mixed Go.Proofs.Tryd.func56 Go.Proofs.Tryd.call56 (by kernel_rfl) (by kernel_rfl) (by kernel_rfl) tie56

/- F.mallowref8_New -/
noncomputable def C40 : Entry := fun args w K Kp => unArgs [] args.toList fun x => F.mallowref8_New env  (fun r1 w' => K (.pointer r1) w') w
noncomputable def body40 : Code := (Go.Proofs.Tryd.f40.body).getD .skip
def ann40 : Ann := { loops := [], joins := [] }
def T0.mallowref8_New (E : Env) (c_mallowref6_Row_Put : ∀ (a0 : (Option Addr)) (a1 : Int) (a2 : Int) (a3 : Bool) (K : Int → World → Prop) (w : World), Prop) (K : (Option Addr) → World → Prop) (w : World) : Prop :=
  AL (.cells (Array.replicate 1024 (.bool false)) E.t_mallowref8_Chunk) w fun b1 w2 =>
  c_mallowref6_Row_Put (some ((Addr.mk b1 0 none).add 512)) 0 512 true (fun r3 w4 =>
  K (some (Addr.mk b1 0 none)) w4
  ) w2

theorem tieZ40 (c_mallowref6_Row_Put : ∀ (a0 : (Option Addr)) (a1 : Int) (a2 : Int) (a3 : Bool) (K : Int → World → Prop) (w : World), Prop) (x : ArgsV []) (K Kp : Value → World → Prop) (w : World) : T0.mallowref8_New env c_mallowref6_Row_Put  (fun r1 w' => K (.pointer r1) w') w =
    ev Go.Proofs.Tryd.prog (tabC [(56, fun args w K Kp => unArgs [.one (.ptr), .one (.int .i64), .one (.int .i64), .one (.bool)] args.toList fun x => c_mallowref6_Row_Put x.1 x.2.1 x.2.2.1 x.2.2.2.1 (fun r1 w' => K (.int .i64 r1) w') w)]) (ground Go.Proofs.Tryd.prog) ann40 body40 (finQ Go.Proofs.Tryd.prog Go.Proofs.Tryd.f40 K Kp) (initF (mkArgs [] x)) w := by kernel_rfl
theorem tie40 (x : ArgsV []) (K Kp : Value → World → Prop) (w : World) : F.mallowref8_New env  (fun r1 w' => K (.pointer r1) w') w =
    ev Go.Proofs.Tryd.prog (tabC [(56, C56)]) (ground Go.Proofs.Tryd.prog) ann40 body40 (finQ Go.Proofs.Tryd.prog Go.Proofs.Tryd.f40 K Kp) (initF (mkArgs [] x)) w := tieZ40 (F.mallowref6_Row_Put env) x K Kp w
theorem fits40 : FitsOne Go.Proofs.Tryd.prog 40 C40 :=
  fits_of_tie (T := [(56, C56)]) (A := ann40) (fn := Go.Proofs.Tryd.f40) (c := body40) (fits_cons fits56 fits_nil) mixed Go.Proofs.Tryd.func40 Go.Proofs.Tryd.call40 (by kernel_rfl) (by kernel_rfl) (by kernel_rfl) tie40

/- F.mallowref9_Tree_Grow -/
noncomputable def C21 : Entry := fun args w K Kp => unArgs [.one (.ptr), .one (.int .u64), .one (.int .u64)] args.toList fun x => F.mallowref9_Tree_Grow env x.1 x.2.1 x.2.2.1 (fun r1 w' => K (.int .i64 r1) w') w
noncomputable def body21 : Code := (Go.Proofs.Tryd.f21.body).getD .skip
def ann21 : Ann := { loops := [(8, [(9, .one (.sl)), (10, .one (.int .u64))])], joins := [(2, [(26, .one (.bool))]), (5, [(53, .one (.bool))])] }
def T0.mallowref9_Tree_Grow (E : Env) (c_mallowref9_Tree_find : ∀ (a0 : (Option Addr)) (a1 : Int) (K : Int → Bool → World → Prop) (w : World), Prop) (c_mallowref8_New : ∀ (K : (Option Addr) → World → Prop) (w : World), Prop) (a0 : (Option Addr)) (a1 : Int) (a2 : Int) (K : Int → World → Prop) (w : World) : Prop :=
  JOIN (Bool × Unit) (fun J1 =>
    CND ((a2 : Int) == 0) (
      J1 (true, ()) w
    ) (
      CND (decide ((a2 : Int) > 262144)) (
        J1 (true, ()) w
      ) (
        CND (decide ((a1 : Int) > 67108864)) (
          J1 (true, ()) w
        ) (
          J1 (decide ((a2 : Int) > (u64 (67108864 - a1))), ()) w
        )
      )
    )
  ) fun s2 _ w3 =>
    CND (s2.1) (
      K 1 w3
    ) (
      c_mallowref9_Tree_find a0 a1 (fun r4 r5 w6 =>
      JOIN (Bool × Unit) (fun J7 =>
        NC a0 fun p10 =>
        ∃ x11 : SlV, w6.cell? p10 = some (.slice x11.base x11.len x11.cap) ∧
        CND (decide ((r4 : Int) < ((x11.len : Nat) : Int))) (
          NC a0 fun p12 =>
          ∃ x13 : SlV, w6.cell? p12 = some (.slice x13.base x13.len x13.cap) ∧
          NC x13.base fun p14 =>
          ((0 : Int) ≤ r4 ∧ (r4 : Int) < (x13.len : Nat)) ∧
          ∃ x15 : Int, w6.cell? (p14.add (Int.toNat r4 * 2)) = some (.int .u64 x15) ∧
          J7 (decide ((x15 : Int) < (u64 (a1 + a2))), ()) w6
        ) (
          J7 (false, ()) w6
        )
      ) fun s8 _ w9 =>
        CND (s8.1) (
          K 34 w9
        ) (
          AL (.cells ⟨[]⟩ E.t_mallowref9_Part) w9 fun b16 w17 =>
          NC a0 fun p18 =>
          ∃ x19 : SlV, w17.cell? p18 = some (.slice x19.base x19.len x19.cap) ∧
          ((0 : Int) ≤ r4 ∧ (r4 : Int) ≤ (x19.cap : Nat)) ∧
          APP E.t_mallowref9_Part 2 16 #[.int .u64 0, .pointer none] ⟨(some (Addr.mk b16 0 none)), 0, 0⟩ ⟨(slB x19.base x19.cap 0 2), (Int.toNat r4), x19.cap⟩ w17 fun s20 w21 =>
          LOOP (SlV × Int × Unit) (s20, 0, ()) w21 fun s22 _ w23 next24 =>
            CND (decide ((s22.2.1 : Int) < a2)) (
              c_mallowref8_New  (fun r25 w26 =>
              AL (.cells ⟨[.int .u64 (u64 (a1 + s22.2.1)), .pointer r25]⟩ E.t_mallowref9_Part) w26 fun b27 w28 =>
              APP E.t_mallowref9_Part 2 16 #[.int .u64 0, .pointer none] s22.1 ⟨(some (Addr.mk b27 0 none)), 1, 1⟩ w28 fun s29 w30 =>
              next24 (s29, u64 (s22.2.1 + 1), ()) w30
              ) w23
            ) (
              NC a0 fun p31 =>
              ∃ x32 : SlV, w23.cell? p31 = some (.slice x32.base x32.len x32.cap) ∧
              ((0 : Int) ≤ r4 ∧ (r4 : Int) ≤ (x32.len : Nat)) ∧
              APP E.t_mallowref9_Part 2 16 #[.int .u64 0, .pointer none] s22.1 ⟨(slB x32.base x32.cap (Int.toNat r4) 2), (x32.len - (Int.toNat r4)), (x32.cap - (Int.toNat r4))⟩ w23 fun s33 w34 =>
              NC a0 fun p35 =>
              stCells p35 0 [.slice s33.base s33.len s33.cap] w34 fun w36 =>
              K 0 w36
            )
        )
      ) w3
    )

theorem tieZ21 (c_mallowref9_Tree_find : ∀ (a0 : (Option Addr)) (a1 : Int) (K : Int → Bool → World → Prop) (w : World), Prop) (c_mallowref8_New : ∀ (K : (Option Addr) → World → Prop) (w : World), Prop) (x : ArgsV [.one (.ptr), .one (.int .u64), .one (.int .u64)]) (K Kp : Value → World → Prop) (w : World) : T0.mallowref9_Tree_Grow env c_mallowref9_Tree_find c_mallowref8_New x.1 x.2.1 x.2.2.1 (fun r1 w' => K (.int .i64 r1) w') w =
    ev Go.Proofs.Tryd.prog (tabC [(39, fun args w K Kp => unArgs [.one (.ptr), .one (.int .u64)] args.toList fun x => c_mallowref9_Tree_find x.1 x.2.1 (fun r1 r2 w' => K (.tuple ⟨[.int .i64 r1, .bool r2]⟩) w') w), (40, fun args w K Kp => unArgs [] args.toList fun x => c_mallowref8_New  (fun r1 w' => K (.pointer r1) w') w)]) (ground Go.Proofs.Tryd.prog) ann21 body21 (finQ Go.Proofs.Tryd.prog Go.Proofs.Tryd.f21 K Kp) (initF (mkArgs [.one (.ptr), .one (.int .u64), .one (.int .u64)] x)) w := by kernel_rfl
theorem tie21 (x : ArgsV [.one (.ptr), .one (.int .u64), .one (.int .u64)]) (K Kp : Value → World → Prop) (w : World) : F.mallowref9_Tree_Grow env x.1 x.2.1 x.2.2.1 (fun r1 w' => K (.int .i64 r1) w') w =
    ev Go.Proofs.Tryd.prog (tabC [(39, C39), (40, C40)]) (ground Go.Proofs.Tryd.prog) ann21 body21 (finQ Go.Proofs.Tryd.prog Go.Proofs.Tryd.f21 K Kp) (initF (mkArgs [.one (.ptr), .one (.int .u64), .one (.int .u64)] x)) w := tieZ21 (F.mallowref9_Tree_find env) (F.mallowref8_New env) x K Kp w
theorem fits21 : FitsOne Go.Proofs.Tryd.prog 21 C21 :=
  fits_of_tie (T := [(39, C39), (40, C40)]) (A := ann21) (fn := Go.Proofs.Tryd.f21) (c := body21) (fits_cons fits39 (fits_cons fits40 fits_nil)) mixed Go.Proofs.Tryd.func21 Go.Proofs.Tryd.call21 (by kernel_rfl) (by kernel_rfl) (by kernel_rfl) tie21

/- F.mallowref10_Cache_Owns -/
noncomputable def C22 : Entry := fun args w K Kp => unArgs [.one (.ptr), .one (.int .u64)] args.toList fun x => F.mallowref10_Cache_Owns env x.1 x.2.1 (fun r1 w' => K (.bool r1) w') w
noncomputable def body22 : Code := (Go.Proofs.Tryd.f22.body).getD .skip
def ann22 : Ann := { loops := [], joins := [] }
theorem tie22 (x : ArgsV [.one (.ptr), .one (.int .u64)]) (K Kp : Value → World → Prop) (w : World) : F.mallowref10_Cache_Owns env x.1 x.2.1 (fun r1 w' => K (.bool r1) w') w =
    ev Go.Proofs.Tryd.prog (tabC []) (ground Go.Proofs.Tryd.prog) ann22 body22 (finQ Go.Proofs.Tryd.prog Go.Proofs.Tryd.f22 K Kp) (initF (mkArgs [.one (.ptr), .one (.int .u64)] x)) w := by kernel_rfl
theorem fits22 : FitsOne Go.Proofs.Tryd.prog 22 C22 :=
  fits_of_tie (T := []) (A := ann22) (fn := Go.Proofs.Tryd.f22) (c := body22) fits_nil mixed Go.Proofs.Tryd.func22 Go.Proofs.Tryd.call22 (by kernel_rfl) (by kernel_rfl) (by kernel_rfl) tie22

/- F.mallowref10_Cache_Empty -/
noncomputable def C49 : Entry := fun args w K Kp => unArgs [.one (.ptr)] args.toList fun x => F.mallowref10_Cache_Empty env x.1 (fun r1 w' => K (.bool r1) w') w
noncomputable def body49 : Code := (Go.Proofs.Tryd.f49.body).getD .skip
def ann49 : Ann := { loops := [(2, [(3, .one (.int .i64))])], joins := [] }
theorem tie49 (x : ArgsV [.one (.ptr)]) (K Kp : Value → World → Prop) (w : World) : F.mallowref10_Cache_Empty env x.1 (fun r1 w' => K (.bool r1) w') w =
    ev Go.Proofs.Tryd.prog (tabC []) (ground Go.Proofs.Tryd.prog) ann49 body49 (finQ Go.Proofs.Tryd.prog Go.Proofs.Tryd.f49 K Kp) (initF (mkArgs [.one (.ptr)] x)) w := by kernel_rfl
theorem fits49 : FitsOne Go.Proofs.Tryd.prog 49 C49 :=
  fits_of_tie (T := []) (A := ann49) (fn := Go.Proofs.Tryd.f49) (c := body49) fits_nil mixed Go.Proofs.Tryd.func49 Go.Proofs.Tryd.call49 (by kernel_rfl) (by kernel_rfl) (by kernel_rfl) tie49

/- F.mallowref9_Tree_Find -/
noncomputable def C59 : Entry := fun args w K Kp => unArgs [.one (.ptr), .one (.int .u64)] args.toList fun x => F.mallowref9_Tree_Find env x.1 x.2.1 (fun r1 r2 w' => K (.tuple ⟨[.int .u64 r1, .bool r2]⟩) w') w
noncomputable def body59 : Code := (Go.Proofs.Tryd.f59.body).getD .skip
def ann59 : Ann := { loops := [(3, [(6, .one (.int .u64)), (7, .one (.int .u64)), (8, .one (.int .i64))]), (9, [(6, .one (.int .u64)), (9, .one (.int .u64))])], joins := [(6, [(37, .one (.bool))]), (7, [(6, .one (.int .u64))]), (14, [(6, .one (.int .u64))])] }
theorem tie59 (x : ArgsV [.one (.ptr), .one (.int .u64)]) (K Kp : Value → World → Prop) (w : World) : F.mallowref9_Tree_Find env x.1 x.2.1 (fun r1 r2 w' => K (.tuple ⟨[.int .u64 r1, .bool r2]⟩) w') w =
    ev Go.Proofs.Tryd.prog (tabC []) (ground Go.Proofs.Tryd.prog) ann59 body59 (finQ Go.Proofs.Tryd.prog Go.Proofs.Tryd.f59 K Kp) (initF (mkArgs [.one (.ptr), .one (.int .u64)] x)) w := by kernel_rfl
theorem fits59 : FitsOne Go.Proofs.Tryd.prog 59 C59 :=
  fits_of_tie (T := []) (A := ann59) (fn := Go.Proofs.Tryd.f59) (c := body59) fits_nil mixed Go.Proofs.Tryd.func59 Go.Proofs.Tryd.call59 (by kernel_rfl) (by kernel_rfl) (by kernel_rfl) tie59

/- F.mallowref9_Tree_First -/
noncomputable def C57 : Entry := fun args w K Kp => unArgs [.one (.ptr)] args.toList fun x => F.mallowref9_Tree_First env x.1 (fun r1 r2 w' => K (.tuple ⟨[.int .u64 r1, .bool r2]⟩) w') w
noncomputable def body57 : Code := (Go.Proofs.Tryd.f57.body).getD .skip
def ann57 : Ann := { loops := [], joins := [] }
def T0.mallowref9_Tree_First (E : Env) (c_mallowref9_Tree_Find : ∀ (a0 : (Option Addr)) (a1 : Int) (K : Int → Bool → World → Prop) (w : World), Prop) (a0 : (Option Addr)) (K : Int → Bool → World → Prop) (w : World) : Prop :=
  c_mallowref9_Tree_Find a0 1 (fun r1 r2 w3 =>
  K r1 r2 w3
  ) w

theorem tieZ57 (c_mallowref9_Tree_Find : ∀ (a0 : (Option Addr)) (a1 : Int) (K : Int → Bool → World → Prop) (w : World), Prop) (x : ArgsV [.one (.ptr)]) (K Kp : Value → World → Prop) (w : World) : T0.mallowref9_Tree_First env c_mallowref9_Tree_Find x.1 (fun r1 r2 w' => K (.tuple ⟨[.int .u64 r1, .bool r2]⟩) w') w =
    ev Go.Proofs.Tryd.prog (tabC [(59, fun args w K Kp => unArgs [.one (.ptr), .one (.int .u64)] args.toList fun x => c_mallowref9_Tree_Find x.1 x.2.1 (fun r1 r2 w' => K (.tuple ⟨[.int .u64 r1, .bool r2]⟩) w') w)]) (ground Go.Proofs.Tryd.prog) ann57 body57 (finQ Go.Proofs.Tryd.prog Go.Proofs.Tryd.f57 K Kp) (initF (mkArgs [.one (.ptr)] x)) w := by kernel_rfl
theorem tie57 (x : ArgsV [.one (.ptr)]) (K Kp : Value → World → Prop) (w : World) : F.mallowref9_Tree_First env x.1 (fun r1 r2 w' => K (.tuple ⟨[.int .u64 r1, .bool r2]⟩) w') w =
    ev Go.Proofs.Tryd.prog (tabC [(59, C59)]) (ground Go.Proofs.Tryd.prog) ann57 body57 (finQ Go.Proofs.Tryd.prog Go.Proofs.Tryd.f57 K Kp) (initF (mkArgs [.one (.ptr)] x)) w := tieZ57 (F.mallowref9_Tree_Find env) x K Kp w
theorem fits57 : FitsOne Go.Proofs.Tryd.prog 57 C57 :=
  fits_of_tie (T := [(59, C59)]) (A := ann57) (fn := Go.Proofs.Tryd.f57) (c := body57) (fits_cons fits59 fits_nil) mixed Go.Proofs.Tryd.func57 Go.Proofs.Tryd.call57 (by kernel_rfl) (by kernel_rfl) (by kernel_rfl) tie57

/- F.mallowref9_Tree_State -/
noncomputable def C25 : Entry := fun args w K Kp => unArgs [.one (.ptr), .one (.int .u64)] args.toList fun x => F.mallowref9_Tree_State env x.1 x.2.1 (fun r1 r2 r3 w' => K (.tuple ⟨[.bool r1, .bool r2, .bool r3]⟩) w') w
noncomputable def body25 : Code := (Go.Proofs.Tryd.f25.body).getD .skip
def ann25 : Ann := { loops := [], joins := [] }
def T0.mallowref9_Tree_State (E : Env) (c_mallowref9_Tree_find : ∀ (a0 : (Option Addr)) (a1 : Int) (K : Int → Bool → World → Prop) (w : World), Prop) (a0 : (Option Addr)) (a1 : Int) (K : Bool → Bool → Bool → World → Prop) (w : World) : Prop :=
  512 ≠ (0 : Int) ∧
  c_mallowref9_Tree_find a0 (u64 (Int.tdiv a1 512)) (fun r1 r2 w3 =>
  CND (!r2) (
    K false false false w3
  ) (
    NC a0 fun p4 =>
    ∃ x5 : SlV, w3.cell? p4 = some (.slice x5.base x5.len x5.cap) ∧
    NC x5.base fun p6 =>
    ((0 : Int) ≤ r1 ∧ (r1 : Int) < (x5.len : Nat)) ∧
    ∃ x7 : (Option Addr), w3.cell? ((p6.add (Int.toNat r1 * 2)).add 1) = some (.pointer x7) ∧
    512 ≠ (0 : Int) ∧
    NC x7 fun p8 =>
    ((0 : Int) ≤ (Int.tmod a1 512) ∧ ((Int.tmod a1 512) : Int) < (512 : Nat)) ∧
    ∃ x9 : Bool, w3.drew.cell? (p8.add (Int.toNat (Int.tmod a1 512) * 1)) = some (.bool x9) ∧
    512 ≠ (0 : Int) ∧
    NC x7 fun p10 =>
    ((0 : Int) ≤ (Int.tmod a1 512) ∧ ((Int.tmod a1 512) : Int) < (512 : Nat)) ∧
    ∃ x11 : Bool, w3.drew.cell? ((p10.add 512).add (Int.toNat (Int.tmod a1 512) * 1)) = some (.bool x11) ∧
    K true (!x9) x11 w3.drew
  )
  ) w

theorem tieZ25 (c_mallowref9_Tree_find : ∀ (a0 : (Option Addr)) (a1 : Int) (K : Int → Bool → World → Prop) (w : World), Prop) (x : ArgsV [.one (.ptr), .one (.int .u64)]) (K Kp : Value → World → Prop) (w : World) : T0.mallowref9_Tree_State env c_mallowref9_Tree_find x.1 x.2.1 (fun r1 r2 r3 w' => K (.tuple ⟨[.bool r1, .bool r2, .bool r3]⟩) w') w =
    ev Go.Proofs.Tryd.prog (tabC [(39, fun args w K Kp => unArgs [.one (.ptr), .one (.int .u64)] args.toList fun x => c_mallowref9_Tree_find x.1 x.2.1 (fun r1 r2 w' => K (.tuple ⟨[.int .i64 r1, .bool r2]⟩) w') w)]) (ground Go.Proofs.Tryd.prog) ann25 body25 (finQ Go.Proofs.Tryd.prog Go.Proofs.Tryd.f25 K Kp) (initF (mkArgs [.one (.ptr), .one (.int .u64)] x)) w := by kernel_rfl
theorem tie25 (x : ArgsV [.one (.ptr), .one (.int .u64)]) (K Kp : Value → World → Prop) (w : World) : F.mallowref9_Tree_State env x.1 x.2.1 (fun r1 r2 r3 w' => K (.tuple ⟨[.bool r1, .bool r2, .bool r3]⟩) w') w =
    ev Go.Proofs.Tryd.prog (tabC [(39, C39)]) (ground Go.Proofs.Tryd.prog) ann25 body25 (finQ Go.Proofs.Tryd.prog Go.Proofs.Tryd.f25 K Kp) (initF (mkArgs [.one (.ptr), .one (.int .u64)] x)) w := tieZ25 (F.mallowref9_Tree_find env) x K Kp w
theorem fits25 : FitsOne Go.Proofs.Tryd.prog 25 C25 :=
  fits_of_tie (T := [(39, C39)]) (A := ann25) (fn := Go.Proofs.Tryd.f25) (c := body25) (fits_cons fits39 fits_nil) mixed Go.Proofs.Tryd.func25 Go.Proofs.Tryd.call25 (by kernel_rfl) (by kernel_rfl) (by kernel_rfl) tie25

/- F.mallowref9_Tree_lies -/
noncomputable def C60 : Entry := fun args w K Kp => unArgs [.one (.ptr), .one (.int .u64), .one (.int .u64)] args.toList fun x => F.mallowref9_Tree_lies env x.1 x.2.1 x.2.2.1 (fun r1 w' => K (.bool r1) w') w
noncomputable def body60 : Code := (Go.Proofs.Tryd.f60.body).getD .skip
def ann60 : Ann := { loops := [(5, [(7, .one (.int .i64)), (9, .one (.int .u64))])], joins := [(2, [(21, .one (.bool))]), (8, [(58, .one (.bool))])] }
def T0.mallowref9_Tree_lies (E : Env) (c_mallowref9_Tree_find : ∀ (a0 : (Option Addr)) (a1 : Int) (K : Int → Bool → World → Prop) (w : World), Prop) (a0 : (Option Addr)) (a1 : Int) (a2 : Int) (K : Bool → World → Prop) (w : World) : Prop :=
  JOIN (Bool × Unit) (fun J1 =>
    CND ((a2 : Int) == 0) (
      J1 (true, ()) w
    ) (
      CND (decide ((a1 : Int) ≥ 34359738368)) (
        J1 (true, ()) w
      ) (
        J1 (decide ((a2 : Int) > (u64 (34359738368 - a1))), ()) w
      )
    )
  ) fun s2 _ w3 =>
    CND (s2.1) (
      K false w3
    ) (
      512 ≠ (0 : Int) ∧
      c_mallowref9_Tree_find a0 (u64 (Int.tdiv a1 512)) (fun r4 r5 w6 =>
      512 ≠ (0 : Int) ∧
      LOOP (Int × Int × Unit) (r4, u64 (Int.tdiv a1 512), ()) w6 fun s7 _ w8 next9 =>
        512 ≠ (0 : Int) ∧
        CND (decide ((s7.2.1 : Int) ≤ (u64 (Int.tdiv (u64 ((u64 (a1 + a2)) - 1)) 512)))) (
          JOIN (Bool × Unit) (fun J10 =>
            NC a0 fun p13 =>
            ∃ x14 : SlV, w8.cell? p13 = some (.slice x14.base x14.len x14.cap) ∧
            CND (decide ((s7.1 : Int) ≥ ((x14.len : Nat) : Int))) (
              J10 (true, ()) w8
            ) (
              NC a0 fun p15 =>
              ∃ x16 : SlV, w8.cell? p15 = some (.slice x16.base x16.len x16.cap) ∧
              NC x16.base fun p17 =>
              ((0 : Int) ≤ s7.1 ∧ (s7.1 : Int) < (x16.len : Nat)) ∧
              ∃ x18 : Int, w8.cell? (p17.add (Int.toNat s7.1 * 2)) = some (.int .u64 x18) ∧
              J10 ((x18 : Int) != s7.2.1, ()) w8
            )
          ) fun s11 _ w12 =>
            CND (s11.1) (
              K false w12
            ) (
              next9 (i64 (s7.1 + 1), u64 (s7.2.1 + 1), ()) w12
            )
        ) (
          K true w8
        )
      ) w3
    )

theorem tieZ60 (c_mallowref9_Tree_find : ∀ (a0 : (Option Addr)) (a1 : Int) (K : Int → Bool → World → Prop) (w : World), Prop) (x : ArgsV [.one (.ptr), .one (.int .u64), .one (.int .u64)]) (K Kp : Value → World → Prop) (w : World) : T0.mallowref9_Tree_lies env c_mallowref9_Tree_find x.1 x.2.1 x.2.2.1 (fun r1 w' => K (.bool r1) w') w =
    ev Go.Proofs.Tryd.prog (tabC [(39, fun args w K Kp => unArgs [.one (.ptr), .one (.int .u64)] args.toList fun x => c_mallowref9_Tree_find x.1 x.2.1 (fun r1 r2 w' => K (.tuple ⟨[.int .i64 r1, .bool r2]⟩) w') w)]) (ground Go.Proofs.Tryd.prog) ann60 body60 (finQ Go.Proofs.Tryd.prog Go.Proofs.Tryd.f60 K Kp) (initF (mkArgs [.one (.ptr), .one (.int .u64), .one (.int .u64)] x)) w := by kernel_rfl
theorem tie60 (x : ArgsV [.one (.ptr), .one (.int .u64), .one (.int .u64)]) (K Kp : Value → World → Prop) (w : World) : F.mallowref9_Tree_lies env x.1 x.2.1 x.2.2.1 (fun r1 w' => K (.bool r1) w') w =
    ev Go.Proofs.Tryd.prog (tabC [(39, C39)]) (ground Go.Proofs.Tryd.prog) ann60 body60 (finQ Go.Proofs.Tryd.prog Go.Proofs.Tryd.f60 K Kp) (initF (mkArgs [.one (.ptr), .one (.int .u64), .one (.int .u64)] x)) w := tieZ60 (F.mallowref9_Tree_find env) x K Kp w
theorem fits60 : FitsOne Go.Proofs.Tryd.prog 60 C60 :=
  fits_of_tie (T := [(39, C39)]) (A := ann60) (fn := Go.Proofs.Tryd.f60) (c := body60) (fits_cons fits39 fits_nil) mixed Go.Proofs.Tryd.func60 Go.Proofs.Tryd.call60 (by kernel_rfl) (by kernel_rfl) (by kernel_rfl) tie60

/- F.mallowref9_Tree_count -/
noncomputable def C61 : Entry := fun args w K Kp => unArgs [.one (.ptr), .one (.int .u64), .one (.int .u64)] args.toList fun x => F.mallowref9_Tree_count env x.1 x.2.1 x.2.2.1 (fun r1 r2 w' => K (.tuple ⟨[.int .u64 r1, .int .u64 r2]⟩) w') w
noncomputable def body61 : Code := (Go.Proofs.Tryd.f61.body).getD .skip
def ann61 : Ann := { loops := [(3, [(8, .one (.int .u64)), (9, .one (.int .u64)), (10, .one (.int .u64))])], joins := [(8, [(8, .one (.int .u64))])] }
def T0.mallowref9_Tree_count (E : Env) (c_mallowref9_Tree_State : ∀ (a0 : (Option Addr)) (a1 : Int) (K : Bool → Bool → Bool → World → Prop) (w : World), Prop) (a0 : (Option Addr)) (a1 : Int) (a2 : Int) (K : Int → Int → World → Prop) (w : World) : Prop :=
  LOOP (Int × Int × Int × Unit) (0, 0, a1, ()) w fun s1 _ w2 next3 =>
    CND (decide ((s1.2.2.1 : Int) < (u64 (a1 + a2)))) (
      c_mallowref9_Tree_State a0 s1.2.2.1 (fun r4 r5 r6 w7 =>
      JOIN (Int × Unit) (fun J8 =>
        CND (!r5) (
          J8 (u64 (s1.1 + 1), ()) w7
        ) (
          J8 (s1.1, ()) w7
        )
      ) fun s9 _ w10 =>
        CND (r6) (
          next3 (s9.1, u64 (s1.2.1 + 1), u64 (s1.2.2.1 + 1), ()) w10
        ) (
          next3 (s9.1, s1.2.1, u64 (s1.2.2.1 + 1), ()) w10
        )
      ) w2
    ) (
      K s1.1 s1.2.1 w2
    )

theorem tieZ61 (c_mallowref9_Tree_State : ∀ (a0 : (Option Addr)) (a1 : Int) (K : Bool → Bool → Bool → World → Prop) (w : World), Prop) (x : ArgsV [.one (.ptr), .one (.int .u64), .one (.int .u64)]) (K Kp : Value → World → Prop) (w : World) : T0.mallowref9_Tree_count env c_mallowref9_Tree_State x.1 x.2.1 x.2.2.1 (fun r1 r2 w' => K (.tuple ⟨[.int .u64 r1, .int .u64 r2]⟩) w') w =
    ev Go.Proofs.Tryd.prog (tabC [(25, fun args w K Kp => unArgs [.one (.ptr), .one (.int .u64)] args.toList fun x => c_mallowref9_Tree_State x.1 x.2.1 (fun r1 r2 r3 w' => K (.tuple ⟨[.bool r1, .bool r2, .bool r3]⟩) w') w)]) (ground Go.Proofs.Tryd.prog) ann61 body61 (finQ Go.Proofs.Tryd.prog Go.Proofs.Tryd.f61 K Kp) (initF (mkArgs [.one (.ptr), .one (.int .u64), .one (.int .u64)] x)) w := by kernel_rfl
theorem tie61 (x : ArgsV [.one (.ptr), .one (.int .u64), .one (.int .u64)]) (K Kp : Value → World → Prop) (w : World) : F.mallowref9_Tree_count env x.1 x.2.1 x.2.2.1 (fun r1 r2 w' => K (.tuple ⟨[.int .u64 r1, .int .u64 r2]⟩) w') w =
    ev Go.Proofs.Tryd.prog (tabC [(25, C25)]) (ground Go.Proofs.Tryd.prog) ann61 body61 (finQ Go.Proofs.Tryd.prog Go.Proofs.Tryd.f61 K Kp) (initF (mkArgs [.one (.ptr), .one (.int .u64), .one (.int .u64)] x)) w := tieZ61 (F.mallowref9_Tree_State env) x K Kp w
theorem fits61 : FitsOne Go.Proofs.Tryd.prog 61 C61 :=
  fits_of_tie (T := [(25, C25)]) (A := ann61) (fn := Go.Proofs.Tryd.f61) (c := body61) (fits_cons fits25 fits_nil) mixed Go.Proofs.Tryd.func61 Go.Proofs.Tryd.call61 (by kernel_rfl) (by kernel_rfl) (by kernel_rfl) tie61

/- F.mallowref9_Tree_put -/
noncomputable def C62 : Entry := fun args w K Kp => unArgs [.one (.ptr), .one (.int .u64), .one (.int .u64), .one (.bool), .one (.bool)] args.toList fun x => F.mallowref9_Tree_put env x.1 x.2.1 x.2.2.1 x.2.2.2.1 x.2.2.2.2.1 (fun  w' => K (.tuple ⟨[]⟩) w') w
noncomputable def body62 : Code := (Go.Proofs.Tryd.f62.body).getD .skip
def ann62 : Ann := { loops := [(1, [(10, .one (.int .u64))])], joins := [] }
def T0.mallowref9_Tree_put (E : Env) (c_mallowref9_Tree_find : ∀ (a0 : (Option Addr)) (a1 : Int) (K : Int → Bool → World → Prop) (w : World), Prop) (a0 : (Option Addr)) (a1 : Int) (a2 : Int) (a3 : Bool) (a4 : Bool) (K : World → Prop) (w : World) : Prop :=
  LOOP (Int × Unit) (a1, ()) w fun s1 _ w2 next3 =>
    CND (decide ((s1.1 : Int) < (u64 (a1 + a2)))) (
      512 ≠ (0 : Int) ∧
      c_mallowref9_Tree_find a0 (u64 (Int.tdiv s1.1 512)) (fun r4 r5 w6 =>
      NC a0 fun p7 =>
      ∃ x8 : SlV, w6.cell? p7 = some (.slice x8.base x8.len x8.cap) ∧
      NC x8.base fun p9 =>
      ((0 : Int) ≤ r4 ∧ (r4 : Int) < (x8.len : Nat)) ∧
      ∃ x10 : (Option Addr), w6.cell? ((p9.add (Int.toNat r4 * 2)).add 1) = some (.pointer x10) ∧
      512 ≠ (0 : Int) ∧
      NC x10 fun p11 =>
      ((0 : Int) ≤ (Int.tmod s1.1 512) ∧ ((Int.tmod s1.1 512) : Int) < (512 : Nat)) ∧
      stCells (p11.add (Int.toNat (Int.tmod s1.1 512) * 1)) 0 [.bool a3] w6 fun w12 =>
      NC a0 fun p13 =>
      ∃ x14 : SlV, w12.cell? p13 = some (.slice x14.base x14.len x14.cap) ∧
      NC x14.base fun p15 =>
      ((0 : Int) ≤ r4 ∧ (r4 : Int) < (x14.len : Nat)) ∧
      ∃ x16 : (Option Addr), w12.cell? ((p15.add (Int.toNat r4 * 2)).add 1) = some (.pointer x16) ∧
      512 ≠ (0 : Int) ∧
      NC x16 fun p17 =>
      ((0 : Int) ≤ (Int.tmod s1.1 512) ∧ ((Int.tmod s1.1 512) : Int) < (512 : Nat)) ∧
      stCells ((p17.add 512).add (Int.toNat (Int.tmod s1.1 512) * 1)) 0 [.bool a4] w12 fun w18 =>
      next3 (u64 (s1.1 + 1), ()) w18
      ) w2
    ) (
      K  w2
    )

theorem tieZ62 (c_mallowref9_Tree_find : ∀ (a0 : (Option Addr)) (a1 : Int) (K : Int → Bool → World → Prop) (w : World), Prop) (x : ArgsV [.one (.ptr), .one (.int .u64), .one (.int .u64), .one (.bool), .one (.bool)]) (K Kp : Value → World → Prop) (w : World) : T0.mallowref9_Tree_put env c_mallowref9_Tree_find x.1 x.2.1 x.2.2.1 x.2.2.2.1 x.2.2.2.2.1 (fun  w' => K (.tuple ⟨[]⟩) w') w =
    ev Go.Proofs.Tryd.prog (tabC [(39, fun args w K Kp => unArgs [.one (.ptr), .one (.int .u64)] args.toList fun x => c_mallowref9_Tree_find x.1 x.2.1 (fun r1 r2 w' => K (.tuple ⟨[.int .i64 r1, .bool r2]⟩) w') w)]) (ground Go.Proofs.Tryd.prog) ann62 body62 (finQ Go.Proofs.Tryd.prog Go.Proofs.Tryd.f62 K Kp) (initF (mkArgs [.one (.ptr), .one (.int .u64), .one (.int .u64), .one (.bool), .one (.bool)] x)) w := by kernel_rfl
theorem tie62 (x : ArgsV [.one (.ptr), .one (.int .u64), .one (.int .u64), .one (.bool), .one (.bool)]) (K Kp : Value → World → Prop) (w : World) : F.mallowref9_Tree_put env x.1 x.2.1 x.2.2.1 x.2.2.2.1 x.2.2.2.2.1 (fun  w' => K (.tuple ⟨[]⟩) w') w =
    ev Go.Proofs.Tryd.prog (tabC [(39, C39)]) (ground Go.Proofs.Tryd.prog) ann62 body62 (finQ Go.Proofs.Tryd.prog Go.Proofs.Tryd.f62 K Kp) (initF (mkArgs [.one (.ptr), .one (.int .u64), .one (.int .u64), .one (.bool), .one (.bool)] x)) w := tieZ62 (F.mallowref9_Tree_find env) x K Kp w
theorem fits62 : FitsOne Go.Proofs.Tryd.prog 62 C62 :=
  fits_of_tie (T := [(39, C39)]) (A := ann62) (fn := Go.Proofs.Tryd.f62) (c := body62) (fits_cons fits39 fits_nil) mixed Go.Proofs.Tryd.func62 Go.Proofs.Tryd.call62 (by kernel_rfl) (by kernel_rfl) (by kernel_rfl) tie62

/- F.mallowref9_Tree_Take -/
noncomputable def C58 : Entry := fun args w K Kp => unArgs [.one (.ptr), .one (.int .u64), .one (.int .u64)] args.toList fun x => F.mallowref9_Tree_Take env x.1 x.2.1 x.2.2.1 (fun r1 r2 w' => K (.tuple ⟨[.int .u64 r1, .int .i64 r2]⟩) w') w
noncomputable def body58 : Code := (Go.Proofs.Tryd.f58.body).getD .skip
def ann58 : Ann := { loops := [], joins := [] }
def T0.mallowref9_Tree_Take (E : Env) (c_mallowref9_Tree_lies : ∀ (a0 : (Option Addr)) (a1 : Int) (a2 : Int) (K : Bool → World → Prop) (w : World), Prop) (c_mallowref9_Tree_count : ∀ (a0 : (Option Addr)) (a1 : Int) (a2 : Int) (K : Int → Int → World → Prop) (w : World), Prop) (c_mallowref9_Tree_put : ∀ (a0 : (Option Addr)) (a1 : Int) (a2 : Int) (a3 : Bool) (a4 : Bool) (K : World → Prop) (w : World), Prop) (a0 : (Option Addr)) (a1 : Int) (a2 : Int) (K : Int → Int → World → Prop) (w : World) : Prop :=
  c_mallowref9_Tree_lies a0 a1 a2 (fun r1 w2 =>
  CND (!r1) (
    K 0 10 w2
  ) (
    c_mallowref9_Tree_count a0 a1 a2 (fun r3 r4 w5 =>
    CND (decide ((r3 : Int) > 0)) (
      K 0 32 w5
    ) (
      c_mallowref9_Tree_put a0 a1 a2 true false (fun  w6 =>
      K r4 0 w6
      ) w5
    )
    ) w2
  )
  ) w

theorem tieZ58 (c_mallowref9_Tree_lies : ∀ (a0 : (Option Addr)) (a1 : Int) (a2 : Int) (K : Bool → World → Prop) (w : World), Prop) (c_mallowref9_Tree_count : ∀ (a0 : (Option Addr)) (a1 : Int) (a2 : Int) (K : Int → Int → World → Prop) (w : World), Prop) (c_mallowref9_Tree_put : ∀ (a0 : (Option Addr)) (a1 : Int) (a2 : Int) (a3 : Bool) (a4 : Bool) (K : World → Prop) (w : World), Prop) (x : ArgsV [.one (.ptr), .one (.int .u64), .one (.int .u64)]) (K Kp : Value → World → Prop) (w : World) : T0.mallowref9_Tree_Take env c_mallowref9_Tree_lies c_mallowref9_Tree_count c_mallowref9_Tree_put x.1 x.2.1 x.2.2.1 (fun r1 r2 w' => K (.tuple ⟨[.int .u64 r1, .int .i64 r2]⟩) w') w =
    ev Go.Proofs.Tryd.prog (tabC [(60, fun args w K Kp => unArgs [.one (.ptr), .one (.int .u64), .one (.int .u64)] args.toList fun x => c_mallowref9_Tree_lies x.1 x.2.1 x.2.2.1 (fun r1 w' => K (.bool r1) w') w), (61, fun args w K Kp => unArgs [.one (.ptr), .one (.int .u64), .one (.int .u64)] args.toList fun x => c_mallowref9_Tree_count x.1 x.2.1 x.2.2.1 (fun r1 r2 w' => K (.tuple ⟨[.int .u64 r1, .int .u64 r2]⟩) w') w), (62, fun args w K Kp => unArgs [.one (.ptr), .one (.int .u64), .one (.int .u64), .one (.bool), .one (.bool)] args.toList fun x => c_mallowref9_Tree_put x.1 x.2.1 x.2.2.1 x.2.2.2.1 x.2.2.2.2.1 (fun  w' => K (.tuple ⟨[]⟩) w') w)]) (ground Go.Proofs.Tryd.prog) ann58 body58 (finQ Go.Proofs.Tryd.prog Go.Proofs.Tryd.f58 K Kp) (initF (mkArgs [.one (.ptr), .one (.int .u64), .one (.int .u64)] x)) w := by kernel_rfl
theorem tie58 (x : ArgsV [.one (.ptr), .one (.int .u64), .one (.int .u64)]) (K Kp : Value → World → Prop) (w : World) : F.mallowref9_Tree_Take env x.1 x.2.1 x.2.2.1 (fun r1 r2 w' => K (.tuple ⟨[.int .u64 r1, .int .i64 r2]⟩) w') w =
    ev Go.Proofs.Tryd.prog (tabC [(60, C60), (61, C61), (62, C62)]) (ground Go.Proofs.Tryd.prog) ann58 body58 (finQ Go.Proofs.Tryd.prog Go.Proofs.Tryd.f58 K Kp) (initF (mkArgs [.one (.ptr), .one (.int .u64), .one (.int .u64)] x)) w := tieZ58 (F.mallowref9_Tree_lies env) (F.mallowref9_Tree_count env) (F.mallowref9_Tree_put env) x K Kp w
theorem fits58 : FitsOne Go.Proofs.Tryd.prog 58 C58 :=
  fits_of_tie (T := [(60, C60), (61, C61), (62, C62)]) (A := ann58) (fn := Go.Proofs.Tryd.f58) (c := body58) (fits_cons fits60 (fits_cons fits61 (fits_cons fits62 fits_nil))) mixed Go.Proofs.Tryd.func58 Go.Proofs.Tryd.call58 (by kernel_rfl) (by kernel_rfl) (by kernel_rfl) tie58

/- F.mallowref10_Cache_Fill -/
noncomputable def C41 : Entry := fun args w K Kp => unArgs [.one (.ptr), .one (.ptr)] args.toList fun x => F.mallowref10_Cache_Fill env x.1 x.2.1 (fun r1 w' => K (.int .i64 r1) w') w
noncomputable def body41 : Code := (Go.Proofs.Tryd.f41.body).getD .skip
def ann41 : Ann := { loops := [(8, [(7, .one (.int .i64))])], joins := [] }
def T0.mallowref10_Cache_Fill (E : Env) (c_mallowref10_Cache_Empty : ∀ (a0 : (Option Addr)) (K : Bool → World → Prop) (w : World), Prop) (c_mallowref9_Tree_First : ∀ (a0 : (Option Addr)) (K : Int → Bool → World → Prop) (w : World), Prop) (c_mallowref9_Tree_State : ∀ (a0 : (Option Addr)) (a1 : Int) (K : Bool → Bool → Bool → World → Prop) (w : World), Prop) (c_mallowref9_Tree_Take : ∀ (a0 : (Option Addr)) (a1 : Int) (a2 : Int) (K : Int → Int → World → Prop) (w : World), Prop) (a0 : (Option Addr)) (a1 : (Option Addr)) (K : Int → World → Prop) (w : World) : Prop :=
  c_mallowref10_Cache_Empty a0 (fun r1 w2 =>
  CND (!r1) (
    K 33 w2
  ) (
    c_mallowref9_Tree_First a1 (fun r3 r4 w5 =>
    CND (!r4) (
      K 30 w5
    ) (
      64 ≠ (0 : Int) ∧
      NC a0 fun p6 =>
      stCells p6 0 [.int .u64 (u64 (r3 - (Int.tmod r3 64)))] w5 fun w7 =>
      LOOP (Int × Unit) (0, ()) w7 fun s8 _ w9 next10 =>
        CND (decide ((s8.1 : Int) < 64)) (
          NC a0 fun p11 =>
          ∃ x12 : Int, w9.cell? p11 = some (.int .u64 x12) ∧
          c_mallowref9_Tree_State a1 (u64 (x12 + (u64 (s8.1)))) (fun r13 r14 r15 w16 =>
          NC a0 fun p17 =>
          ((0 : Int) ≤ s8.1 ∧ (s8.1 : Int) < (64 : Nat)) ∧
          stCells ((p17.add 1).add (Int.toNat s8.1 * 1)) 0 [.bool r14] w16 fun w18 =>
          NC a0 fun p19 =>
          ((0 : Int) ≤ s8.1 ∧ (s8.1 : Int) < (64 : Nat)) ∧
          stCells ((p19.add 65).add (Int.toNat s8.1 * 1)) 0 [.bool r15] w18 fun w20 =>
          CND (r14) (
            NC a0 fun p21 =>
            ∃ x22 : Int, w20.cell? p21 = some (.int .u64 x22) ∧
            c_mallowref9_Tree_Take a1 (u64 (x22 + (u64 (s8.1)))) 1 (fun r23 r24 w25 =>
            next10 (i64 (s8.1 + 1), ()) w25
            ) w20
          ) (
            next10 (i64 (s8.1 + 1), ()) w20
          )
          ) w9
        ) (
          K 0 w9
        )
    )
    ) w2
  )
  ) w

theorem tieZ41 (c_mallowref10_Cache_Empty : ∀ (a0 : (Option Addr)) (K : Bool → World → Prop) (w : World), Prop) (c_mallowref9_Tree_First : ∀ (a0 : (Option Addr)) (K : Int → Bool → World → Prop) (w : World), Prop) (c_mallowref9_Tree_State : ∀ (a0 : (Option Addr)) (a1 : Int) (K : Bool → Bool → Bool → World → Prop) (w : World), Prop) (c_mallowref9_Tree_Take : ∀ (a0 : (Option Addr)) (a1 : Int) (a2 : Int) (K : Int → Int → World → Prop) (w : World), Prop) (x : ArgsV [.one (.ptr), .one (.ptr)]) (K Kp : Value → World → Prop) (w : World) : T0.mallowref10_Cache_Fill env c_mallowref10_Cache_Empty c_mallowref9_Tree_First c_mallowref9_Tree_State c_mallowref9_Tree_Take x.1 x.2.1 (fun r1 w' => K (.int .i64 r1) w') w =
    ev Go.Proofs.Tryd.prog (tabC [(49, fun args w K Kp => unArgs [.one (.ptr)] args.toList fun x => c_mallowref10_Cache_Empty x.1 (fun r1 w' => K (.bool r1) w') w), (57, fun args w K Kp => unArgs [.one (.ptr)] args.toList fun x => c_mallowref9_Tree_First x.1 (fun r1 r2 w' => K (.tuple ⟨[.int .u64 r1, .bool r2]⟩) w') w), (25, fun args w K Kp => unArgs [.one (.ptr), .one (.int .u64)] args.toList fun x => c_mallowref9_Tree_State x.1 x.2.1 (fun r1 r2 r3 w' => K (.tuple ⟨[.bool r1, .bool r2, .bool r3]⟩) w') w), (58, fun args w K Kp => unArgs [.one (.ptr), .one (.int .u64), .one (.int .u64)] args.toList fun x => c_mallowref9_Tree_Take x.1 x.2.1 x.2.2.1 (fun r1 r2 w' => K (.tuple ⟨[.int .u64 r1, .int .i64 r2]⟩) w') w)]) (ground Go.Proofs.Tryd.prog) ann41 body41 (finQ Go.Proofs.Tryd.prog Go.Proofs.Tryd.f41 K Kp) (initF (mkArgs [.one (.ptr), .one (.ptr)] x)) w := by kernel_rfl
theorem tie41 (x : ArgsV [.one (.ptr), .one (.ptr)]) (K Kp : Value → World → Prop) (w : World) : F.mallowref10_Cache_Fill env x.1 x.2.1 (fun r1 w' => K (.int .i64 r1) w') w =
    ev Go.Proofs.Tryd.prog (tabC [(49, C49), (57, C57), (25, C25), (58, C58)]) (ground Go.Proofs.Tryd.prog) ann41 body41 (finQ Go.Proofs.Tryd.prog Go.Proofs.Tryd.f41 K Kp) (initF (mkArgs [.one (.ptr), .one (.ptr)] x)) w := tieZ41 (F.mallowref10_Cache_Empty env) (F.mallowref9_Tree_First env) (F.mallowref9_Tree_State env) (F.mallowref9_Tree_Take env) x K Kp w
theorem fits41 : FitsOne Go.Proofs.Tryd.prog 41 C41 :=
  fits_of_tie (T := [(49, C49), (57, C57), (25, C25), (58, C58)]) (A := ann41) (fn := Go.Proofs.Tryd.f41) (c := body41) (fits_cons fits49 (fits_cons fits57 (fits_cons fits25 (fits_cons fits58 fits_nil)))) mixed Go.Proofs.Tryd.func41 Go.Proofs.Tryd.call41 (by kernel_rfl) (by kernel_rfl) (by kernel_rfl) tie41

/- F.mallowref10_Cache_Alloc -/
noncomputable def C42 : Entry := fun args w K Kp => unArgs [.one (.ptr), .one (.int .i64)] args.toList fun x => F.mallowref10_Cache_Alloc env x.1 x.2.1 (fun r1 r2 r3 w' => K (.tuple ⟨[.int .u64 r1, .int .i64 r2, .int .i64 r3]⟩) w') w
noncomputable def body42 : Code := (Go.Proofs.Tryd.f42.body).getD .skip
def ann42 : Ann := { loops := [(5, [(7, .one (.int .i64)), (8, .one (.int .i64))]), (13, [(9, .one (.int .i64)), (10, .one (.int .i64))])], joins := [(2, [(16, .one (.bool))]), (10, [(7, .one (.int .i64))]), (17, [(9, .one (.int .i64))])] }
theorem tie42 (x : ArgsV [.one (.ptr), .one (.int .i64)]) (K Kp : Value → World → Prop) (w : World) : F.mallowref10_Cache_Alloc env x.1 x.2.1 (fun r1 r2 r3 w' => K (.tuple ⟨[.int .u64 r1, .int .i64 r2, .int .i64 r3]⟩) w') w =
    ev Go.Proofs.Tryd.prog (tabC []) (ground Go.Proofs.Tryd.prog) ann42 body42 (finQ Go.Proofs.Tryd.prog Go.Proofs.Tryd.f42 K Kp) (initF (mkArgs [.one (.ptr), .one (.int .i64)] x)) w := by kernel_rfl
theorem fits42 : FitsOne Go.Proofs.Tryd.prog 42 C42 :=
  fits_of_tie (T := []) (A := ann42) (fn := Go.Proofs.Tryd.f42) (c := body42) fits_nil mixed Go.Proofs.Tryd.func42 Go.Proofs.Tryd.call42 (by kernel_rfl) (by kernel_rfl) (by kernel_rfl) tie42

/- F.mallowref9_Tree_Give -/
noncomputable def C46 : Entry := fun args w K Kp => unArgs [.one (.ptr), .one (.int .u64), .one (.int .u64), .one (.bool)] args.toList fun x => F.mallowref9_Tree_Give env x.1 x.2.1 x.2.2.1 x.2.2.2.1 (fun r1 w' => K (.int .i64 r1) w') w
noncomputable def body46 : Code := (Go.Proofs.Tryd.f46.body).getD .skip
def ann46 : Ann := { loops := [], joins := [] }
def T0.mallowref9_Tree_Give (E : Env) (c_mallowref9_Tree_lies : ∀ (a0 : (Option Addr)) (a1 : Int) (a2 : Int) (K : Bool → World → Prop) (w : World), Prop) (c_mallowref9_Tree_count : ∀ (a0 : (Option Addr)) (a1 : Int) (a2 : Int) (K : Int → Int → World → Prop) (w : World), Prop) (c_mallowref9_Tree_put : ∀ (a0 : (Option Addr)) (a1 : Int) (a2 : Int) (a3 : Bool) (a4 : Bool) (K : World → Prop) (w : World), Prop) (a0 : (Option Addr)) (a1 : Int) (a2 : Int) (a3 : Bool) (K : Int → World → Prop) (w : World) : Prop :=
  c_mallowref9_Tree_lies a0 a1 a2 (fun r1 w2 =>
  CND (!r1) (
    K 10 w2
  ) (
    c_mallowref9_Tree_count a0 a1 a2 (fun r3 r4 w5 =>
    CND (decide ((r3 : Int) < a2)) (
      K 31 w5
    ) (
      c_mallowref9_Tree_put a0 a1 a2 false a3 (fun  w6 =>
      K 0 w6
      ) w5
    )
    ) w2
  )
  ) w

theorem tieZ46 (c_mallowref9_Tree_lies : ∀ (a0 : (Option Addr)) (a1 : Int) (a2 : Int) (K : Bool → World → Prop) (w : World), Prop) (c_mallowref9_Tree_count : ∀ (a0 : (Option Addr)) (a1 : Int) (a2 : Int) (K : Int → Int → World → Prop) (w : World), Prop) (c_mallowref9_Tree_put : ∀ (a0 : (Option Addr)) (a1 : Int) (a2 : Int) (a3 : Bool) (a4 : Bool) (K : World → Prop) (w : World), Prop) (x : ArgsV [.one (.ptr), .one (.int .u64), .one (.int .u64), .one (.bool)]) (K Kp : Value → World → Prop) (w : World) : T0.mallowref9_Tree_Give env c_mallowref9_Tree_lies c_mallowref9_Tree_count c_mallowref9_Tree_put x.1 x.2.1 x.2.2.1 x.2.2.2.1 (fun r1 w' => K (.int .i64 r1) w') w =
    ev Go.Proofs.Tryd.prog (tabC [(60, fun args w K Kp => unArgs [.one (.ptr), .one (.int .u64), .one (.int .u64)] args.toList fun x => c_mallowref9_Tree_lies x.1 x.2.1 x.2.2.1 (fun r1 w' => K (.bool r1) w') w), (61, fun args w K Kp => unArgs [.one (.ptr), .one (.int .u64), .one (.int .u64)] args.toList fun x => c_mallowref9_Tree_count x.1 x.2.1 x.2.2.1 (fun r1 r2 w' => K (.tuple ⟨[.int .u64 r1, .int .u64 r2]⟩) w') w), (62, fun args w K Kp => unArgs [.one (.ptr), .one (.int .u64), .one (.int .u64), .one (.bool), .one (.bool)] args.toList fun x => c_mallowref9_Tree_put x.1 x.2.1 x.2.2.1 x.2.2.2.1 x.2.2.2.2.1 (fun  w' => K (.tuple ⟨[]⟩) w') w)]) (ground Go.Proofs.Tryd.prog) ann46 body46 (finQ Go.Proofs.Tryd.prog Go.Proofs.Tryd.f46 K Kp) (initF (mkArgs [.one (.ptr), .one (.int .u64), .one (.int .u64), .one (.bool)] x)) w := by kernel_rfl
theorem tie46 (x : ArgsV [.one (.ptr), .one (.int .u64), .one (.int .u64), .one (.bool)]) (K Kp : Value → World → Prop) (w : World) : F.mallowref9_Tree_Give env x.1 x.2.1 x.2.2.1 x.2.2.2.1 (fun r1 w' => K (.int .i64 r1) w') w =
    ev Go.Proofs.Tryd.prog (tabC [(60, C60), (61, C61), (62, C62)]) (ground Go.Proofs.Tryd.prog) ann46 body46 (finQ Go.Proofs.Tryd.prog Go.Proofs.Tryd.f46 K Kp) (initF (mkArgs [.one (.ptr), .one (.int .u64), .one (.int .u64), .one (.bool)] x)) w := tieZ46 (F.mallowref9_Tree_lies env) (F.mallowref9_Tree_count env) (F.mallowref9_Tree_put env) x K Kp w
theorem fits46 : FitsOne Go.Proofs.Tryd.prog 46 C46 :=
  fits_of_tie (T := [(60, C60), (61, C61), (62, C62)]) (A := ann46) (fn := Go.Proofs.Tryd.f46) (c := body46) (fits_cons fits60 (fits_cons fits61 (fits_cons fits62 fits_nil))) mixed Go.Proofs.Tryd.func46 Go.Proofs.Tryd.call46 (by kernel_rfl) (by kernel_rfl) (by kernel_rfl) tie46

/- F.mallowref10_Cache_Flush -/
noncomputable def C43 : Entry := fun args w K Kp => unArgs [.one (.ptr), .one (.ptr)] args.toList fun x => F.mallowref10_Cache_Flush env x.1 x.2.1 (fun  w' => K (.tuple ⟨[]⟩) w') w
noncomputable def body43 : Code := (Go.Proofs.Tryd.f43.body).getD .skip
def ann43 : Ann := { loops := [(1, [(4, .one (.int .i64))])], joins := [] }
def T0.mallowref10_Cache_Flush (E : Env) (c_mallowref9_Tree_Give : ∀ (a0 : (Option Addr)) (a1 : Int) (a2 : Int) (a3 : Bool) (K : Int → World → Prop) (w : World), Prop) (a0 : (Option Addr)) (a1 : (Option Addr)) (K : World → Prop) (w : World) : Prop :=
  LOOP (Int × Unit) (0, ()) w fun s1 _ w2 next3 =>
    CND (decide ((s1.1 : Int) < 64)) (
      NC a0 fun p4 =>
      ((0 : Int) ≤ s1.1 ∧ (s1.1 : Int) < (64 : Nat)) ∧
      ∃ x5 : Bool, w2.cell? ((p4.add 1).add (Int.toNat s1.1 * 1)) = some (.bool x5) ∧
      CND (x5) (
        NC a0 fun p6 =>
        ∃ x7 : Int, w2.drew.cell? p6 = some (.int .u64 x7) ∧
        NC a0 fun p8 =>
        ((0 : Int) ≤ s1.1 ∧ (s1.1 : Int) < (64 : Nat)) ∧
        ∃ x9 : Bool, w2.drew.cell? ((p8.add 65).add (Int.toNat s1.1 * 1)) = some (.bool x9) ∧
        c_mallowref9_Tree_Give a1 (u64 (x7 + (u64 (s1.1)))) 1 x9 (fun r10 w11 =>
        w11.cell? p6 = some (.int .u64 x7) ∧
        NC a0 fun p12 =>
        ((0 : Int) ≤ s1.1 ∧ (s1.1 : Int) < (64 : Nat)) ∧
        stCells ((p12.add 1).add (Int.toNat s1.1 * 1)) 0 [.bool false] w11 fun w13 =>
        next3 (i64 (s1.1 + 1), ()) w13
        ) w2.drew
      ) (
        next3 (i64 (s1.1 + 1), ()) w2
      )
    ) (
      K  w2
    )

theorem tieZ43 (c_mallowref9_Tree_Give : ∀ (a0 : (Option Addr)) (a1 : Int) (a2 : Int) (a3 : Bool) (K : Int → World → Prop) (w : World), Prop) (x : ArgsV [.one (.ptr), .one (.ptr)]) (K Kp : Value → World → Prop) (w : World) : T0.mallowref10_Cache_Flush env c_mallowref9_Tree_Give x.1 x.2.1 (fun  w' => K (.tuple ⟨[]⟩) w') w =
    ev Go.Proofs.Tryd.prog (tabC [(46, fun args w K Kp => unArgs [.one (.ptr), .one (.int .u64), .one (.int .u64), .one (.bool)] args.toList fun x => c_mallowref9_Tree_Give x.1 x.2.1 x.2.2.1 x.2.2.2.1 (fun r1 w' => K (.int .i64 r1) w') w)]) (ground Go.Proofs.Tryd.prog) ann43 body43 (finQ Go.Proofs.Tryd.prog Go.Proofs.Tryd.f43 K Kp) (initF (mkArgs [.one (.ptr), .one (.ptr)] x)) w := by kernel_rfl
theorem tie43 (x : ArgsV [.one (.ptr), .one (.ptr)]) (K Kp : Value → World → Prop) (w : World) : F.mallowref10_Cache_Flush env x.1 x.2.1 (fun  w' => K (.tuple ⟨[]⟩) w') w =
    ev Go.Proofs.Tryd.prog (tabC [(46, C46)]) (ground Go.Proofs.Tryd.prog) ann43 body43 (finQ Go.Proofs.Tryd.prog Go.Proofs.Tryd.f43 K Kp) (initF (mkArgs [.one (.ptr), .one (.ptr)] x)) w := tieZ43 (F.mallowref9_Tree_Give env) x K Kp w
theorem fits43 : FitsOne Go.Proofs.Tryd.prog 43 C43 :=
  fits_of_tie (T := [(46, C46)]) (A := ann43) (fn := Go.Proofs.Tryd.f43) (c := body43) (fits_cons fits46 fits_nil) mixed Go.Proofs.Tryd.func43 Go.Proofs.Tryd.call43 (by kernel_rfl) (by kernel_rfl) (by kernel_rfl) tie43

/- F.mallowref9_Tree_Alloc -/
noncomputable def C44 : Entry := fun args w K Kp => unArgs [.one (.ptr), .one (.int .u64)] args.toList fun x => F.mallowref9_Tree_Alloc env x.1 x.2.1 (fun r1 r2 r3 w' => K (.tuple ⟨[.int .u64 r1, .int .u64 r2, .int .i64 r3]⟩) w') w
noncomputable def body44 : Code := (Go.Proofs.Tryd.f44.body).getD .skip
def ann44 : Ann := { loops := [], joins := [] }
def T0.mallowref9_Tree_Alloc (E : Env) (c_mallowref9_Tree_Find : ∀ (a0 : (Option Addr)) (a1 : Int) (K : Int → Bool → World → Prop) (w : World), Prop) (c_mallowref9_Tree_Take : ∀ (a0 : (Option Addr)) (a1 : Int) (a2 : Int) (K : Int → Int → World → Prop) (w : World), Prop) (a0 : (Option Addr)) (a1 : Int) (K : Int → Int → Int → World → Prop) (w : World) : Prop :=
  CND ((a1 : Int) == 0) (
    K 0 0 1 w
  ) (
    c_mallowref9_Tree_Find a0 a1 (fun r1 r2 w3 =>
    CND (!r2) (
      K 0 0 30 w3
    ) (
      c_mallowref9_Tree_Take a0 r1 a1 (fun r4 r5 w6 =>
      K r1 r4 0 w6
      ) w3
    )
    ) w
  )

theorem tieZ44 (c_mallowref9_Tree_Find : ∀ (a0 : (Option Addr)) (a1 : Int) (K : Int → Bool → World → Prop) (w : World), Prop) (c_mallowref9_Tree_Take : ∀ (a0 : (Option Addr)) (a1 : Int) (a2 : Int) (K : Int → Int → World → Prop) (w : World), Prop) (x : ArgsV [.one (.ptr), .one (.int .u64)]) (K Kp : Value → World → Prop) (w : World) : T0.mallowref9_Tree_Alloc env c_mallowref9_Tree_Find c_mallowref9_Tree_Take x.1 x.2.1 (fun r1 r2 r3 w' => K (.tuple ⟨[.int .u64 r1, .int .u64 r2, .int .i64 r3]⟩) w') w =
    ev Go.Proofs.Tryd.prog (tabC [(59, fun args w K Kp => unArgs [.one (.ptr), .one (.int .u64)] args.toList fun x => c_mallowref9_Tree_Find x.1 x.2.1 (fun r1 r2 w' => K (.tuple ⟨[.int .u64 r1, .bool r2]⟩) w') w), (58, fun args w K Kp => unArgs [.one (.ptr), .one (.int .u64), .one (.int .u64)] args.toList fun x => c_mallowref9_Tree_Take x.1 x.2.1 x.2.2.1 (fun r1 r2 w' => K (.tuple ⟨[.int .u64 r1, .int .i64 r2]⟩) w') w)]) (ground Go.Proofs.Tryd.prog) ann44 body44 (finQ Go.Proofs.Tryd.prog Go.Proofs.Tryd.f44 K Kp) (initF (mkArgs [.one (.ptr), .one (.int .u64)] x)) w := by kernel_rfl
theorem tie44 (x : ArgsV [.one (.ptr), .one (.int .u64)]) (K Kp : Value → World → Prop) (w : World) : F.mallowref9_Tree_Alloc env x.1 x.2.1 (fun r1 r2 r3 w' => K (.tuple ⟨[.int .u64 r1, .int .u64 r2, .int .i64 r3]⟩) w') w =
    ev Go.Proofs.Tryd.prog (tabC [(59, C59), (58, C58)]) (ground Go.Proofs.Tryd.prog) ann44 body44 (finQ Go.Proofs.Tryd.prog Go.Proofs.Tryd.f44 K Kp) (initF (mkArgs [.one (.ptr), .one (.int .u64)] x)) w := tieZ44 (F.mallowref9_Tree_Find env) (F.mallowref9_Tree_Take env) x K Kp w
theorem fits44 : FitsOne Go.Proofs.Tryd.prog 44 C44 :=
  fits_of_tie (T := [(59, C59), (58, C58)]) (A := ann44) (fn := Go.Proofs.Tryd.f44) (c := body44) (fits_cons fits59 (fits_cons fits58 fits_nil)) mixed Go.Proofs.Tryd.func44 Go.Proofs.Tryd.call44 (by kernel_rfl) (by kernel_rfl) (by kernel_rfl) tie44

/- F.mallowlaw10_own -/
noncomputable def C45 : Entry := fun args w K Kp => unArgs [.one (.ptr), .one (.ptr), .one (.int .u64)] args.toList fun x => F.mallowlaw10_own env x.1 x.2.1 x.2.2.1 (fun r1 w' => K (.bool r1) w') w
noncomputable def body45 : Code := (Go.Proofs.Tryd.f45.body).getD .skip
def ann45 : Ann := { loops := [], joins := [] }
def T0.mallowlaw10_own (E : Env) (c_mallowref10_Cache_Owns : ∀ (a0 : (Option Addr)) (a1 : Int) (K : Bool → World → Prop) (w : World), Prop) (a0 : (Option Addr)) (a1 : (Option Addr)) (a2 : Int) (K : Bool → World → Prop) (w : World) : Prop :=
  c_mallowref10_Cache_Owns a1 a2 (fun r1 w2 =>
  K r1 w2
  ) w

theorem tieZ45 (c_mallowref10_Cache_Owns : ∀ (a0 : (Option Addr)) (a1 : Int) (K : Bool → World → Prop) (w : World), Prop) (x : ArgsV [.one (.ptr), .one (.ptr), .one (.int .u64)]) (K Kp : Value → World → Prop) (w : World) : T0.mallowlaw10_own env c_mallowref10_Cache_Owns x.1 x.2.1 x.2.2.1 (fun r1 w' => K (.bool r1) w') w =
    ev Go.Proofs.Tryd.prog (tabC [(22, fun args w K Kp => unArgs [.one (.ptr), .one (.int .u64)] args.toList fun x => c_mallowref10_Cache_Owns x.1 x.2.1 (fun r1 w' => K (.bool r1) w') w)]) (ground Go.Proofs.Tryd.prog) ann45 body45 (finQ Go.Proofs.Tryd.prog Go.Proofs.Tryd.f45 K Kp) (initF (mkArgs [.one (.ptr), .one (.ptr), .one (.int .u64)] x)) w := by kernel_rfl
theorem tie45 (x : ArgsV [.one (.ptr), .one (.ptr), .one (.int .u64)]) (K Kp : Value → World → Prop) (w : World) : F.mallowlaw10_own env x.1 x.2.1 x.2.2.1 (fun r1 w' => K (.bool r1) w') w =
    ev Go.Proofs.Tryd.prog (tabC [(22, C22)]) (ground Go.Proofs.Tryd.prog) ann45 body45 (finQ Go.Proofs.Tryd.prog Go.Proofs.Tryd.f45 K Kp) (initF (mkArgs [.one (.ptr), .one (.ptr), .one (.int .u64)] x)) w := tieZ45 (F.mallowref10_Cache_Owns env) x K Kp w
theorem fits45 : FitsOne Go.Proofs.Tryd.prog 45 C45 :=
  fits_of_tie (T := [(22, C22)]) (A := ann45) (fn := Go.Proofs.Tryd.f45) (c := body45) (fits_cons fits22 fits_nil) mixed Go.Proofs.Tryd.func45 Go.Proofs.Tryd.call45 (by kernel_rfl) (by kernel_rfl) (by kernel_rfl) tie45

/- F.mallowref6_Row_Last -/
noncomputable def C69 : Entry := fun args w K Kp => unArgs [.one (.ptr), .one (.int .i64), .one (.int .i64)] args.toList fun x => F.mallowref6_Row_Last env x.1 x.2.1 x.2.2.1 (fun r1 r2 w' => K (.tuple ⟨[.int .i64 r1, .int .i64 r2]⟩) w') w
noncomputable def body69 : Code := (Go.Proofs.Tryd.f69.body).getD .skip
def ann69 : Ann := { loops := [(6, [(8, .one (.int .i64))]), (11, [(9, .one (.int .i64))])], joins := [(3, [(2, .one (.int .i64))]), (4, [(17, .one (.bool))]), (8, [(8, .one (.int .i64))])] }
theorem tie69 (x : ArgsV [.one (.ptr), .one (.int .i64), .one (.int .i64)]) (K Kp : Value → World → Prop) (w : World) : F.mallowref6_Row_Last env x.1 x.2.1 x.2.2.1 (fun r1 r2 w' => K (.tuple ⟨[.int .i64 r1, .int .i64 r2]⟩) w') w =
    ev Go.Proofs.Tryd.prog (tabC []) (ground Go.Proofs.Tryd.prog) ann69 body69 (finQ Go.Proofs.Tryd.prog Go.Proofs.Tryd.f69 K Kp) (initF (mkArgs [.one (.ptr), .one (.int .i64), .one (.int .i64)] x)) w := by kernel_rfl
theorem fits69 : FitsOne Go.Proofs.Tryd.prog 69 C69 :=
  fits_of_tie (T := []) (A := ann69) (fn := Go.Proofs.Tryd.f69) (c := body69) fits_nil mixed Go.Proofs.Tryd.func69 Go.Proofs.Tryd.call69 (by kernel_rfl) (by kernel_rfl) (by kernel_rfl) tie69

/- F.mallowref8_Chunk_Scavenge -/
noncomputable def C63 : Entry := fun args w K Kp => unArgs [.one (.ptr), .one (.int .i64)] args.toList fun x => F.mallowref8_Chunk_Scavenge env x.1 x.2.1 (fun r1 r2 w' => K (.tuple ⟨[.int .i64 r1, .int .i64 r2]⟩) w') w
noncomputable def body63 : Code := (Go.Proofs.Tryd.f63.body).getD .skip
def ann63 : Ann := { loops := [(3, [(7, .one (.int .i64))])], joins := [] }
def T0.mallowref8_Chunk_Scavenge (E : Env) (c_mallowref6_Row_Last : ∀ (a0 : (Option Addr)) (a1 : Int) (a2 : Int) (K : Int → Int → World → Prop) (w : World), Prop) (c_mallowref6_Row_Put : ∀ (a0 : (Option Addr)) (a1 : Int) (a2 : Int) (a3 : Bool) (K : Int → World → Prop) (w : World), Prop) (a0 : (Option Addr)) (a1 : Int) (K : Int → Int → World → Prop) (w : World) : Prop :=
  AL (.cells (Array.replicate 512 (.bool false)) E.t_mallowref6_Row) w fun b1 w2 =>
  LOOP (Int × Unit) (0, ()) w2 fun s3 _ w4 next5 =>
    CND (decide ((s3.1 : Int) < 512)) (
      NC a0 fun p6 =>
      ((0 : Int) ≤ s3.1 ∧ (s3.1 : Int) < (512 : Nat)) ∧
      ∃ x7 : Bool, w4.cell? (p6.add (Int.toNat s3.1 * 1)) = some (.bool x7) ∧
      CND (x7) (
        ((0 : Int) ≤ s3.1 ∧ (s3.1 : Int) < (512 : Nat)) ∧
        stCells ((Addr.mk b1 0 none).add (Int.toNat s3.1 * 1)) 0 [.bool true] w4 fun w8 =>
        next5 (i64 (s3.1 + 1), ()) w8
      ) (
        NC a0 fun p9 =>
        ((0 : Int) ≤ s3.1 ∧ (s3.1 : Int) < (512 : Nat)) ∧
        ∃ x10 : Bool, w4.cell? ((p9.add 512).add (Int.toNat s3.1 * 1)) = some (.bool x10) ∧
        ((0 : Int) ≤ s3.1 ∧ (s3.1 : Int) < (512 : Nat)) ∧
        stCells ((Addr.mk b1 0 none).add (Int.toNat s3.1 * 1)) 0 [.bool x10] w4 fun w11 =>
        next5 (i64 (s3.1 + 1), ()) w11
      )
    ) (
      c_mallowref6_Row_Last (some (Addr.mk b1 0 none)) a1 512 (fun r12 r13 w14 =>
      NC a0 fun p15 =>
      c_mallowref6_Row_Put (some (p15.add 512)) r12 r13 true (fun r16 w17 =>
      K r12 r13 w17
      ) w14
      ) w4
    )

theorem tieZ63 (c_mallowref6_Row_Last : ∀ (a0 : (Option Addr)) (a1 : Int) (a2 : Int) (K : Int → Int → World → Prop) (w : World), Prop) (c_mallowref6_Row_Put : ∀ (a0 : (Option Addr)) (a1 : Int) (a2 : Int) (a3 : Bool) (K : Int → World → Prop) (w : World), Prop) (x : ArgsV [.one (.ptr), .one (.int .i64)]) (K Kp : Value → World → Prop) (w : World) : T0.mallowref8_Chunk_Scavenge env c_mallowref6_Row_Last c_mallowref6_Row_Put x.1 x.2.1 (fun r1 r2 w' => K (.tuple ⟨[.int .i64 r1, .int .i64 r2]⟩) w') w =
    ev Go.Proofs.Tryd.prog (tabC [(69, fun args w K Kp => unArgs [.one (.ptr), .one (.int .i64), .one (.int .i64)] args.toList fun x => c_mallowref6_Row_Last x.1 x.2.1 x.2.2.1 (fun r1 r2 w' => K (.tuple ⟨[.int .i64 r1, .int .i64 r2]⟩) w') w), (56, fun args w K Kp => unArgs [.one (.ptr), .one (.int .i64), .one (.int .i64), .one (.bool)] args.toList fun x => c_mallowref6_Row_Put x.1 x.2.1 x.2.2.1 x.2.2.2.1 (fun r1 w' => K (.int .i64 r1) w') w)]) (ground Go.Proofs.Tryd.prog) ann63 body63 (finQ Go.Proofs.Tryd.prog Go.Proofs.Tryd.f63 K Kp) (initF (mkArgs [.one (.ptr), .one (.int .i64)] x)) w := by kernel_rfl
theorem tie63 (x : ArgsV [.one (.ptr), .one (.int .i64)]) (K Kp : Value → World → Prop) (w : World) : F.mallowref8_Chunk_Scavenge env x.1 x.2.1 (fun r1 r2 w' => K (.tuple ⟨[.int .i64 r1, .int .i64 r2]⟩) w') w =
    ev Go.Proofs.Tryd.prog (tabC [(69, C69), (56, C56)]) (ground Go.Proofs.Tryd.prog) ann63 body63 (finQ Go.Proofs.Tryd.prog Go.Proofs.Tryd.f63 K Kp) (initF (mkArgs [.one (.ptr), .one (.int .i64)] x)) w := tieZ63 (F.mallowref6_Row_Last env) (F.mallowref6_Row_Put env) x K Kp w
theorem fits63 : FitsOne Go.Proofs.Tryd.prog 63 C63 :=
  fits_of_tie (T := [(69, C69), (56, C56)]) (A := ann63) (fn := Go.Proofs.Tryd.f63) (c := body63) (fits_cons fits69 (fits_cons fits56 fits_nil)) mixed Go.Proofs.Tryd.func63 Go.Proofs.Tryd.call63 (by kernel_rfl) (by kernel_rfl) (by kernel_rfl) tie63

/- F.mallowref9_Tree_Scavenge -/
noncomputable def C47 : Entry := fun args w K Kp => unArgs [.one (.ptr), .one (.int .u64)] args.toList fun x => F.mallowref9_Tree_Scavenge env x.1 x.2.1 (fun r1 r2 w' => K (.tuple ⟨[.int .u64 r1, .int .u64 r2]⟩) w') w
noncomputable def body47 : Code := (Go.Proofs.Tryd.f47.body).getD .skip
def ann47 : Ann := { loops := [(4, [(6, .one (.int .i64))])], joins := [(3, [(1, .one (.int .u64))])] }
def T0.mallowref9_Tree_Scavenge (E : Env) (c_mallowref8_Chunk_Scavenge : ∀ (a0 : (Option Addr)) (a1 : Int) (K : Int → Int → World → Prop) (w : World), Prop) (a0 : (Option Addr)) (a1 : Int) (K : Int → Int → World → Prop) (w : World) : Prop :=
  JOIN (Int × Unit) (fun J1 =>
    CND (decide ((a1 : Int) > 512)) (
      J1 (512, ()) w
    ) (
      J1 (a1, ()) w
    )
  ) fun s2 _ w3 =>
    NC a0 fun p4 =>
    ∃ x5 : SlV, w3.cell? p4 = some (.slice x5.base x5.len x5.cap) ∧
    LET (i64 (((x5.len : Nat) : Int) - 1) : Int) fun i_6 =>
    LOOP (Int × Unit) (i_6, ()) w3 fun s7 _ w8 next9 =>
      CND (decide ((s7.1 : Int) ≥ 0)) (
        NC a0 fun p10 =>
        ∃ x11 : SlV, w8.cell? p10 = some (.slice x11.base x11.len x11.cap) ∧
        NC x11.base fun p12 =>
        ((0 : Int) ≤ s7.1 ∧ (s7.1 : Int) < (x11.len : Nat)) ∧
        ∃ x13 : (Option Addr), w8.cell? ((p12.add (Int.toNat s7.1 * 2)).add 1) = some (.pointer x13) ∧
        c_mallowref8_Chunk_Scavenge x13 (i64 (s2.1)) (fun r14 r15 w16 =>
        CND (decide ((r15 : Int) > 0)) (
          NC a0 fun p17 =>
          ∃ x18 : SlV, w16.cell? p17 = some (.slice x18.base x18.len x18.cap) ∧
          NC x18.base fun p19 =>
          ((0 : Int) ≤ s7.1 ∧ (s7.1 : Int) < (x18.len : Nat)) ∧
          ∃ x20 : Int, w16.cell? (p19.add (Int.toNat s7.1 * 2)) = some (.int .u64 x20) ∧
          LET (u64 ((u64 (x20 * 512)) + (u64 (r14))) : Int) fun t21 =>
          K t21 (u64 (r15)) w16
        ) (
          next9 (i64 (s7.1 - 1), ()) w16
        )
        ) w8
      ) (
        K 0 0 w8
      )

theorem tieZ47 (c_mallowref8_Chunk_Scavenge : ∀ (a0 : (Option Addr)) (a1 : Int) (K : Int → Int → World → Prop) (w : World), Prop) (x : ArgsV [.one (.ptr), .one (.int .u64)]) (K Kp : Value → World → Prop) (w : World) : T0.mallowref9_Tree_Scavenge env c_mallowref8_Chunk_Scavenge x.1 x.2.1 (fun r1 r2 w' => K (.tuple ⟨[.int .u64 r1, .int .u64 r2]⟩) w') w =
    ev Go.Proofs.Tryd.prog (tabC [(63, fun args w K Kp => unArgs [.one (.ptr), .one (.int .i64)] args.toList fun x => c_mallowref8_Chunk_Scavenge x.1 x.2.1 (fun r1 r2 w' => K (.tuple ⟨[.int .i64 r1, .int .i64 r2]⟩) w') w)]) (ground Go.Proofs.Tryd.prog) ann47 body47 (finQ Go.Proofs.Tryd.prog Go.Proofs.Tryd.f47 K Kp) (initF (mkArgs [.one (.ptr), .one (.int .u64)] x)) w := by kernel_rfl
theorem tie47 (x : ArgsV [.one (.ptr), .one (.int .u64)]) (K Kp : Value → World → Prop) (w : World) : F.mallowref9_Tree_Scavenge env x.1 x.2.1 (fun r1 r2 w' => K (.tuple ⟨[.int .u64 r1, .int .u64 r2]⟩) w') w =
    ev Go.Proofs.Tryd.prog (tabC [(63, C63)]) (ground Go.Proofs.Tryd.prog) ann47 body47 (finQ Go.Proofs.Tryd.prog Go.Proofs.Tryd.f47 K Kp) (initF (mkArgs [.one (.ptr), .one (.int .u64)] x)) w := tieZ47 (F.mallowref8_Chunk_Scavenge env) x K Kp w
theorem fits47 : FitsOne Go.Proofs.Tryd.prog 47 C47 :=
  fits_of_tie (T := [(63, C63)]) (A := ann47) (fn := Go.Proofs.Tryd.f47) (c := body47) (fits_cons fits63 fits_nil) mixed Go.Proofs.Tryd.func47 Go.Proofs.Tryd.call47 (by kernel_rfl) (by kernel_rfl) (by kernel_rfl) tie47

/- F.mallowlaw10_act -/
noncomputable def C23 : Entry := fun args w K Kp => unArgs [.one (.ptr), .one (.ptr), .one (.ptr), .one (.ptr), .agg [.int .i64, .bool, .int .i64, .int .u64]] args.toList fun x => F.mallowlaw10_act env x.1 x.2.1 x.2.2.1 x.2.2.2.1 x.2.2.2.2.1.1 x.2.2.2.2.1.2.1 x.2.2.2.2.1.2.2.1 x.2.2.2.2.1.2.2.2.1 (fun r1 w' => K (.bool r1) w') w
noncomputable def body23 : Code := (Go.Proofs.Tryd.f23.body).getD .skip
def ann23 : Ann := { loops := [], joins := [] }
def T0.mallowlaw10_act (E : Env) (c_pcache_Cache_Fill : ∀ (a0 : (Option Addr)) (a1 : (Option Addr)) (K : Int → World → Prop) (w : World), Prop) (c_mallowref10_Cache_Fill : ∀ (a0 : (Option Addr)) (a1 : (Option Addr)) (K : Int → World → Prop) (w : World), Prop) (c_pcache_Cache_Alloc : ∀ (a0 : (Option Addr)) (a1 : Int) (K : Int → Int → Int → World → Prop) (w : World), Prop) (c_mallowref10_Cache_Alloc : ∀ (a0 : (Option Addr)) (a1 : Int) (K : Int → Int → Int → World → Prop) (w : World), Prop) (c_pcache_Cache_Flush : ∀ (a0 : (Option Addr)) (a1 : (Option Addr)) (K : World → Prop) (w : World), Prop) (c_mallowref10_Cache_Flush : ∀ (a0 : (Option Addr)) (a1 : (Option Addr)) (K : World → Prop) (w : World), Prop) (c_radix_Tree_Alloc : ∀ (a0 : (Option Addr)) (a1 : Int) (K : Int → Int → Int → World → Prop) (w : World), Prop) (c_mallowref9_Tree_Alloc : ∀ (a0 : (Option Addr)) (a1 : Int) (K : Int → Int → Int → World → Prop) (w : World), Prop) (c_mallowlaw10_own : ∀ (a0 : (Option Addr)) (a1 : (Option Addr)) (a2 : Int) (K : Bool → World → Prop) (w : World), Prop) (c_radix_Tree_Give : ∀ (a0 : (Option Addr)) (a1 : Int) (a2 : Int) (K : Int → World → Prop) (w : World), Prop) (c_mallowref9_Tree_Give : ∀ (a0 : (Option Addr)) (a1 : Int) (a2 : Int) (a3 : Bool) (K : Int → World → Prop) (w : World), Prop) (c_radix_Tree_Scavenge : ∀ (a0 : (Option Addr)) (a1 : Int) (K : Int → Int → World → Prop) (w : World), Prop) (c_mallowref9_Tree_Scavenge : ∀ (a0 : (Option Addr)) (a1 : Int) (K : Int → Int → World → Prop) (w : World), Prop) (a0 : (Option Addr)) (a1 : (Option Addr)) (a2 : (Option Addr)) (a3 : (Option Addr)) (a4_0 : Int) (a4_1 : Bool) (a4_2 : Int) (a4_3 : Int) (K : Bool → World → Prop) (w : World) : Prop :=
  AL (.cells #[.int .i64 a4_0, .bool a4_1, .int .i64 a4_2, .int .u64 a4_3] E.t_mallowlaw10_Act) w fun b1 w2 =>
  ∃ x3 : Int, w2.cell? (Addr.mk b1 0 none) = some (.int .i64 x3) ∧
  CND ((x3 : Int) == 1) (
    c_pcache_Cache_Fill a2 a0 (fun r4 w5 =>
    c_mallowref10_Cache_Fill a3 a1 (fun r6 w7 =>
    K ((r4 : Int) == r6) w7
    ) w5
    ) w2
  ) (
    CND ((x3 : Int) == 2) (
      ∃ x8 : Int, w2.cell? ((Addr.mk b1 0 none).add 2) = some (.int .i64 x8) ∧
      c_pcache_Cache_Alloc a2 x8 (fun r9 r10 r11 w12 =>
      ∃ x13 : Int, w12.cell? ((Addr.mk b1 0 none).add 2) = some (.int .i64 x13) ∧
      c_mallowref10_Cache_Alloc a3 x13 (fun r14 r15 r16 w17 =>
      CND ((r9 : Int) == r14) (
        CND ((r10 : Int) == r15) (
          K ((r11 : Int) == r16) w17
        ) (
          K false w17
        )
      ) (
        K false w17
      )
      ) w12
      ) w2
    ) (
      CND ((x3 : Int) == 3) (
        c_pcache_Cache_Flush a2 a0 (fun  w18 =>
        c_mallowref10_Cache_Flush a3 a1 (fun  w19 =>
        K true w19
        ) w18
        ) w2
      ) (
        CND ((x3 : Int) == 4) (
          ∃ x20 : Int, w2.cell? ((Addr.mk b1 0 none).add 2) = some (.int .i64 x20) ∧
          c_radix_Tree_Alloc a0 (u64 (bitK .i64 0 x20 255)) (fun r21 r22 r23 w24 =>
          ∃ x25 : Int, w24.cell? ((Addr.mk b1 0 none).add 2) = some (.int .i64 x25) ∧
          c_mallowref9_Tree_Alloc a1 (u64 (bitK .i64 0 x25 255)) (fun r26 r27 r28 w29 =>
          CND ((r21 : Int) == r26) (
            CND ((r22 : Int) == r27) (
              K ((r23 : Int) == r28) w29
            ) (
              K false w29
            )
          ) (
            K false w29
          )
          ) w24
          ) w2
        ) (
          CND ((x3 : Int) == 5) (
            ∃ x30 : Int, w2.drew.cell? ((Addr.mk b1 0 none).add 3) = some (.int .u64 x30) ∧
            c_mallowlaw10_own a1 a3 x30 (fun r31 w32 =>
            CND (r31) (
              K true w32
            ) (
              ∃ x33 : Int, w32.cell? ((Addr.mk b1 0 none).add 3) = some (.int .u64 x33) ∧
              ∃ x34 : Int, w32.cell? ((Addr.mk b1 0 none).add 3) = some (.int .u64 x34) ∧
              c_radix_Tree_Give a0 x33 1 (fun r35 w36 =>
              w36.cell? ((Addr.mk b1 0 none).add 3) = some (.int .u64 x34) ∧
              c_mallowref9_Tree_Give a1 x34 1 false (fun r37 w38 =>
              K ((r35 : Int) == r37) w38
              ) w36
              ) w32
            )
            ) w2.drew
          ) (
            CND ((x3 : Int) == 6) (
              ∃ x39 : Int, w2.cell? ((Addr.mk b1 0 none).add 2) = some (.int .i64 x39) ∧
              c_radix_Tree_Scavenge a0 (u64 (bitK .i64 0 x39 255)) (fun r40 r41 w42 =>
              ∃ x43 : Int, w42.cell? ((Addr.mk b1 0 none).add 2) = some (.int .i64 x43) ∧
              c_mallowref9_Tree_Scavenge a1 (u64 (bitK .i64 0 x43 255)) (fun r44 r45 w46 =>
              CND ((r40 : Int) == r44) (
                K ((r41 : Int) == r45) w46
              ) (
                K false w46
              )
              ) w42
              ) w2
            ) (
              K true w2
            )
          )
        )
      )
    )
  )

theorem tieZ23 (c_pcache_Cache_Fill : ∀ (a0 : (Option Addr)) (a1 : (Option Addr)) (K : Int → World → Prop) (w : World), Prop) (c_mallowref10_Cache_Fill : ∀ (a0 : (Option Addr)) (a1 : (Option Addr)) (K : Int → World → Prop) (w : World), Prop) (c_pcache_Cache_Alloc : ∀ (a0 : (Option Addr)) (a1 : Int) (K : Int → Int → Int → World → Prop) (w : World), Prop) (c_mallowref10_Cache_Alloc : ∀ (a0 : (Option Addr)) (a1 : Int) (K : Int → Int → Int → World → Prop) (w : World), Prop) (c_pcache_Cache_Flush : ∀ (a0 : (Option Addr)) (a1 : (Option Addr)) (K : World → Prop) (w : World), Prop) (c_mallowref10_Cache_Flush : ∀ (a0 : (Option Addr)) (a1 : (Option Addr)) (K : World → Prop) (w : World), Prop) (c_radix_Tree_Alloc : ∀ (a0 : (Option Addr)) (a1 : Int) (K : Int → Int → Int → World → Prop) (w : World), Prop) (c_mallowref9_Tree_Alloc : ∀ (a0 : (Option Addr)) (a1 : Int) (K : Int → Int → Int → World → Prop) (w : World), Prop) (c_mallowlaw10_own : ∀ (a0 : (Option Addr)) (a1 : (Option Addr)) (a2 : Int) (K : Bool → World → Prop) (w : World), Prop) (c_radix_Tree_Give : ∀ (a0 : (Option Addr)) (a1 : Int) (a2 : Int) (K : Int → World → Prop) (w : World), Prop) (c_mallowref9_Tree_Give : ∀ (a0 : (Option Addr)) (a1 : Int) (a2 : Int) (a3 : Bool) (K : Int → World → Prop) (w : World), Prop) (c_radix_Tree_Scavenge : ∀ (a0 : (Option Addr)) (a1 : Int) (K : Int → Int → World → Prop) (w : World), Prop) (c_mallowref9_Tree_Scavenge : ∀ (a0 : (Option Addr)) (a1 : Int) (K : Int → Int → World → Prop) (w : World), Prop) (x : ArgsV [.one (.ptr), .one (.ptr), .one (.ptr), .one (.ptr), .agg [.int .i64, .bool, .int .i64, .int .u64]]) (K Kp : Value → World → Prop) (w : World) : T0.mallowlaw10_act env c_pcache_Cache_Fill c_mallowref10_Cache_Fill c_pcache_Cache_Alloc c_mallowref10_Cache_Alloc c_pcache_Cache_Flush c_mallowref10_Cache_Flush c_radix_Tree_Alloc c_mallowref9_Tree_Alloc c_mallowlaw10_own c_radix_Tree_Give c_mallowref9_Tree_Give c_radix_Tree_Scavenge c_mallowref9_Tree_Scavenge x.1 x.2.1 x.2.2.1 x.2.2.2.1 x.2.2.2.2.1.1 x.2.2.2.2.1.2.1 x.2.2.2.2.1.2.2.1 x.2.2.2.2.1.2.2.2.1 (fun r1 w' => K (.bool r1) w') w =
    ev Go.Proofs.Tryd.prog (tabC [(10, fun args w K Kp => unArgs [.one (.ptr), .one (.ptr)] args.toList fun x => c_pcache_Cache_Fill x.1 x.2.1 (fun r1 w' => K (.int .i64 r1) w') w), (41, fun args w K Kp => unArgs [.one (.ptr), .one (.ptr)] args.toList fun x => c_mallowref10_Cache_Fill x.1 x.2.1 (fun r1 w' => K (.int .i64 r1) w') w), (12, fun args w K Kp => unArgs [.one (.ptr), .one (.int .i64)] args.toList fun x => c_pcache_Cache_Alloc x.1 x.2.1 (fun r1 r2 r3 w' => K (.tuple ⟨[.int .u64 r1, .int .i64 r2, .int .i64 r3]⟩) w') w), (42, fun args w K Kp => unArgs [.one (.ptr), .one (.int .i64)] args.toList fun x => c_mallowref10_Cache_Alloc x.1 x.2.1 (fun r1 r2 r3 w' => K (.tuple ⟨[.int .u64 r1, .int .i64 r2, .int .i64 r3]⟩) w') w), (16, fun args w K Kp => unArgs [.one (.ptr), .one (.ptr)] args.toList fun x => c_pcache_Cache_Flush x.1 x.2.1 (fun  w' => K (.tuple ⟨[]⟩) w') w), (43, fun args w K Kp => unArgs [.one (.ptr), .one (.ptr)] args.toList fun x => c_mallowref10_Cache_Flush x.1 x.2.1 (fun  w' => K (.tuple ⟨[]⟩) w') w), (18, fun args w K Kp => unArgs [.one (.ptr), .one (.int .u64)] args.toList fun x => c_radix_Tree_Alloc x.1 x.2.1 (fun r1 r2 r3 w' => K (.tuple ⟨[.int .u64 r1, .int .u64 r2, .int .i64 r3]⟩) w') w), (44, fun args w K Kp => unArgs [.one (.ptr), .one (.int .u64)] args.toList fun x => c_mallowref9_Tree_Alloc x.1 x.2.1 (fun r1 r2 r3 w' => K (.tuple ⟨[.int .u64 r1, .int .u64 r2, .int .i64 r3]⟩) w') w), (45, fun args w K Kp => unArgs [.one (.ptr), .one (.ptr), .one (.int .u64)] args.toList fun x => c_mallowlaw10_own x.1 x.2.1 x.2.2.1 (fun r1 w' => K (.bool r1) w') w), (19, fun args w K Kp => unArgs [.one (.ptr), .one (.int .u64), .one (.int .u64)] args.toList fun x => c_radix_Tree_Give x.1 x.2.1 x.2.2.1 (fun r1 w' => K (.int .i64 r1) w') w), (46, fun args w K Kp => unArgs [.one (.ptr), .one (.int .u64), .one (.int .u64), .one (.bool)] args.toList fun x => c_mallowref9_Tree_Give x.1 x.2.1 x.2.2.1 x.2.2.2.1 (fun r1 w' => K (.int .i64 r1) w') w), (20, fun args w K Kp => unArgs [.one (.ptr), .one (.int .u64)] args.toList fun x => c_radix_Tree_Scavenge x.1 x.2.1 (fun r1 r2 w' => K (.tuple ⟨[.int .u64 r1, .int .u64 r2]⟩) w') w), (47, fun args w K Kp => unArgs [.one (.ptr), .one (.int .u64)] args.toList fun x => c_mallowref9_Tree_Scavenge x.1 x.2.1 (fun r1 r2 w' => K (.tuple ⟨[.int .u64 r1, .int .u64 r2]⟩) w') w)]) (ground Go.Proofs.Tryd.prog) ann23 body23 (finQ Go.Proofs.Tryd.prog Go.Proofs.Tryd.f23 K Kp) (initF (mkArgs [.one (.ptr), .one (.ptr), .one (.ptr), .one (.ptr), .agg [.int .i64, .bool, .int .i64, .int .u64]] x)) w := by kernel_rfl
theorem tie23 (x : ArgsV [.one (.ptr), .one (.ptr), .one (.ptr), .one (.ptr), .agg [.int .i64, .bool, .int .i64, .int .u64]]) (K Kp : Value → World → Prop) (w : World) : F.mallowlaw10_act env x.1 x.2.1 x.2.2.1 x.2.2.2.1 x.2.2.2.2.1.1 x.2.2.2.2.1.2.1 x.2.2.2.2.1.2.2.1 x.2.2.2.2.1.2.2.2.1 (fun r1 w' => K (.bool r1) w') w =
    ev Go.Proofs.Tryd.prog (tabC [(10, C10), (41, C41), (12, C12), (42, C42), (16, C16), (43, C43), (18, C18), (44, C44), (45, C45), (19, C19), (46, C46), (20, C20), (47, C47)]) (ground Go.Proofs.Tryd.prog) ann23 body23 (finQ Go.Proofs.Tryd.prog Go.Proofs.Tryd.f23 K Kp) (initF (mkArgs [.one (.ptr), .one (.ptr), .one (.ptr), .one (.ptr), .agg [.int .i64, .bool, .int .i64, .int .u64]] x)) w := tieZ23 (F.pcache_Cache_Fill env) (F.mallowref10_Cache_Fill env) (F.pcache_Cache_Alloc env) (F.mallowref10_Cache_Alloc env) (F.pcache_Cache_Flush env) (F.mallowref10_Cache_Flush env) (F.radix_Tree_Alloc env) (F.mallowref9_Tree_Alloc env) (F.mallowlaw10_own env) (F.radix_Tree_Give env) (F.mallowref9_Tree_Give env) (F.radix_Tree_Scavenge env) (F.mallowref9_Tree_Scavenge env) x K Kp w
theorem fits23 : FitsOne Go.Proofs.Tryd.prog 23 C23 :=
  fits_of_tie (T := [(10, C10), (41, C41), (12, C12), (42, C42), (16, C16), (43, C43), (18, C18), (44, C44), (45, C45), (19, C19), (46, C46), (20, C20), (47, C47)]) (A := ann23) (fn := Go.Proofs.Tryd.f23) (c := body23) (fits_cons fits10 (fits_cons fits41 (fits_cons fits12 (fits_cons fits42 (fits_cons fits16 (fits_cons fits43 (fits_cons fits18 (fits_cons fits44 (fits_cons fits45 (fits_cons fits19 (fits_cons fits46 (fits_cons fits20 (fits_cons fits47 fits_nil))))))))))))) mixed Go.Proofs.Tryd.func23 Go.Proofs.Tryd.call23 (by kernel_rfl) (by kernel_rfl) (by kernel_rfl) tie23

/- F.mallowref10_Cache_Tell -/
noncomputable def C48 : Entry := fun args w K Kp => unArgs [.one (.ptr)] args.toList fun x => F.mallowref10_Cache_Tell env x.1 (fun r1 r2 r3 w' => K (.tuple ⟨[.int .u64 r1, .int .u64 r2, .int .u64 r3]⟩) w') w
noncomputable def body48 : Code := (Go.Proofs.Tryd.f48.body).getD .skip
def ann48 : Ann := { loops := [(5, [(5, .one (.int .u64)), (6, .one (.int .u64)), (7, .one (.int .i64))])], joins := [] }
def T0.mallowref10_Cache_Tell (E : Env) (c_mallowref10_Cache_Empty : ∀ (a0 : (Option Addr)) (K : Bool → World → Prop) (w : World), Prop) (a0 : (Option Addr)) (K : Int → Int → Int → World → Prop) (w : World) : Prop :=
  c_mallowref10_Cache_Empty a0 (fun r1 w2 =>
  CND (r1) (
    K 0 0 0 w2
  ) (
    LOOP (Int × Int × Int × Unit) (0, 0, 63, ()) w2 fun s3 _ w4 next5 =>
      CND (decide ((s3.2.2.1 : Int) ≥ 0)) (
        NC a0 fun p6 =>
        ((0 : Int) ≤ s3.2.2.1 ∧ (s3.2.2.1 : Int) < (64 : Nat)) ∧
        ∃ x7 : Bool, w4.cell? ((p6.add 1).add (Int.toNat s3.2.2.1 * 1)) = some (.bool x7) ∧
        CND (x7) (
          LET (u64 ((u64 (2 * s3.1)) + 1) : Int) fun has_8 =>
          NC a0 fun p9 =>
          ((0 : Int) ≤ s3.2.2.1 ∧ (s3.2.2.1 : Int) < (64 : Nat)) ∧
          ∃ x10 : Bool, w4.cell? ((p9.add 65).add (Int.toNat s3.2.2.1 * 1)) = some (.bool x10) ∧
          CND (x10) (
            LET (u64 ((u64 (2 * s3.2.1)) + 1) : Int) fun gone_11 =>
            next5 (has_8, gone_11, i64 (s3.2.2.1 - 1), ()) w4
          ) (
            next5 (has_8, u64 (2 * s3.2.1), i64 (s3.2.2.1 - 1), ()) w4
          )
        ) (
          next5 (u64 (2 * s3.1), u64 (2 * s3.2.1), i64 (s3.2.2.1 - 1), ()) w4
        )
      ) (
        NC a0 fun p12 =>
        ∃ x13 : Int, w4.cell? p12 = some (.int .u64 x13) ∧
        K x13 s3.1 s3.2.1 w4
      )
  )
  ) w

theorem tieZ48 (c_mallowref10_Cache_Empty : ∀ (a0 : (Option Addr)) (K : Bool → World → Prop) (w : World), Prop) (x : ArgsV [.one (.ptr)]) (K Kp : Value → World → Prop) (w : World) : T0.mallowref10_Cache_Tell env c_mallowref10_Cache_Empty x.1 (fun r1 r2 r3 w' => K (.tuple ⟨[.int .u64 r1, .int .u64 r2, .int .u64 r3]⟩) w') w =
    ev Go.Proofs.Tryd.prog (tabC [(49, fun args w K Kp => unArgs [.one (.ptr)] args.toList fun x => c_mallowref10_Cache_Empty x.1 (fun r1 w' => K (.bool r1) w') w)]) (ground Go.Proofs.Tryd.prog) ann48 body48 (finQ Go.Proofs.Tryd.prog Go.Proofs.Tryd.f48 K Kp) (initF (mkArgs [.one (.ptr)] x)) w := by kernel_rfl
theorem tie48 (x : ArgsV [.one (.ptr)]) (K Kp : Value → World → Prop) (w : World) : F.mallowref10_Cache_Tell env x.1 (fun r1 r2 r3 w' => K (.tuple ⟨[.int .u64 r1, .int .u64 r2, .int .u64 r3]⟩) w') w =
    ev Go.Proofs.Tryd.prog (tabC [(49, C49)]) (ground Go.Proofs.Tryd.prog) ann48 body48 (finQ Go.Proofs.Tryd.prog Go.Proofs.Tryd.f48 K Kp) (initF (mkArgs [.one (.ptr)] x)) w := tieZ48 (F.mallowref10_Cache_Empty env) x K Kp w
theorem fits48 : FitsOne Go.Proofs.Tryd.prog 48 C48 :=
  fits_of_tie (T := [(49, C49)]) (A := ann48) (fn := Go.Proofs.Tryd.f48) (c := body48) (fits_cons fits49 fits_nil) mixed Go.Proofs.Tryd.func48 Go.Proofs.Tryd.call48 (by kernel_rfl) (by kernel_rfl) (by kernel_rfl) tie48

/- F.mallowref6_Row_Count -/
noncomputable def C70 : Entry := fun args w K Kp => unArgs [.one (.ptr), .one (.int .i64), .one (.int .i64)] args.toList fun x => F.mallowref6_Row_Count env x.1 x.2.1 x.2.2.1 (fun r1 w' => K (.int .i64 r1) w') w
noncomputable def body70 : Code := (Go.Proofs.Tryd.f70.body).getD .skip
def ann70 : Ann := { loops := [(5, [(7, .one (.int .i64)), (8, .one (.int .i64))])], joins := [] }
def T0.mallowref6_Row_Count (E : Env) (c_mallowref6_Right : ∀ (a0 : Int) (a1 : Int) (K : Bool → World → Prop) (w : World), Prop) (a0 : (Option Addr)) (a1 : Int) (a2 : Int) (K : Int → World → Prop) (w : World) : Prop :=
  c_mallowref6_Right a1 a2 (fun r1 w2 =>
  CND (!r1) (
    K 0 w2
  ) (
    LOOP (Int × Int × Unit) (0, a1, ()) w2 fun s3 _ w4 next5 =>
      CND (decide ((s3.2.1 : Int) < (i64 (a1 + a2)))) (
        NC a0 fun p6 =>
        ((0 : Int) ≤ s3.2.1 ∧ (s3.2.1 : Int) < (512 : Nat)) ∧
        ∃ x7 : Bool, w4.cell? (p6.add (Int.toNat s3.2.1 * 1)) = some (.bool x7) ∧
        CND (x7) (
          next5 (i64 (s3.1 + 1), i64 (s3.2.1 + 1), ()) w4
        ) (
          next5 (s3.1, i64 (s3.2.1 + 1), ()) w4
        )
      ) (
        K s3.1 w4
      )
  )
  ) w

theorem tieZ70 (c_mallowref6_Right : ∀ (a0 : Int) (a1 : Int) (K : Bool → World → Prop) (w : World), Prop) (x : ArgsV [.one (.ptr), .one (.int .i64), .one (.int .i64)]) (K Kp : Value → World → Prop) (w : World) : T0.mallowref6_Row_Count env c_mallowref6_Right x.1 x.2.1 x.2.2.1 (fun r1 w' => K (.int .i64 r1) w') w =
    ev Go.Proofs.Tryd.prog (tabC [(68, fun args w K Kp => unArgs [.one (.int .i64), .one (.int .i64)] args.toList fun x => c_mallowref6_Right x.1 x.2.1 (fun r1 w' => K (.bool r1) w') w)]) (ground Go.Proofs.Tryd.prog) ann70 body70 (finQ Go.Proofs.Tryd.prog Go.Proofs.Tryd.f70 K Kp) (initF (mkArgs [.one (.ptr), .one (.int .i64), .one (.int .i64)] x)) w := by kernel_rfl
theorem tie70 (x : ArgsV [.one (.ptr), .one (.int .i64), .one (.int .i64)]) (K Kp : Value → World → Prop) (w : World) : F.mallowref6_Row_Count env x.1 x.2.1 x.2.2.1 (fun r1 w' => K (.int .i64 r1) w') w =
    ev Go.Proofs.Tryd.prog (tabC [(68, C68)]) (ground Go.Proofs.Tryd.prog) ann70 body70 (finQ Go.Proofs.Tryd.prog Go.Proofs.Tryd.f70 K Kp) (initF (mkArgs [.one (.ptr), .one (.int .i64), .one (.int .i64)] x)) w := tieZ70 (F.mallowref6_Right env) x K Kp w
theorem fits70 : FitsOne Go.Proofs.Tryd.prog 70 C70 :=
  fits_of_tie (T := [(68, C68)]) (A := ann70) (fn := Go.Proofs.Tryd.f70) (c := body70) (fits_cons fits68 fits_nil) mixed Go.Proofs.Tryd.func70 Go.Proofs.Tryd.call70 (by kernel_rfl) (by kernel_rfl) (by kernel_rfl) tie70

/- F.mallowref8_Chunk_Free -/
noncomputable def C64 : Entry := fun args w K Kp => unArgs [.one (.ptr)] args.toList fun x => F.mallowref8_Chunk_Free env x.1 (fun r1 w' => K (.int .i64 r1) w') w
noncomputable def body64 : Code := (Go.Proofs.Tryd.f64.body).getD .skip
def ann64 : Ann := { loops := [], joins := [] }
def T0.mallowref8_Chunk_Free (E : Env) (c_mallowref6_Row_Count : ∀ (a0 : (Option Addr)) (a1 : Int) (a2 : Int) (K : Int → World → Prop) (w : World), Prop) (a0 : (Option Addr)) (K : Int → World → Prop) (w : World) : Prop :=
  NC a0 fun p1 =>
  c_mallowref6_Row_Count (some p1) 0 512 (fun r2 w3 =>
  K (i64 (512 - r2)) w3
  ) w

theorem tieZ64 (c_mallowref6_Row_Count : ∀ (a0 : (Option Addr)) (a1 : Int) (a2 : Int) (K : Int → World → Prop) (w : World), Prop) (x : ArgsV [.one (.ptr)]) (K Kp : Value → World → Prop) (w : World) : T0.mallowref8_Chunk_Free env c_mallowref6_Row_Count x.1 (fun r1 w' => K (.int .i64 r1) w') w =
    ev Go.Proofs.Tryd.prog (tabC [(70, fun args w K Kp => unArgs [.one (.ptr), .one (.int .i64), .one (.int .i64)] args.toList fun x => c_mallowref6_Row_Count x.1 x.2.1 x.2.2.1 (fun r1 w' => K (.int .i64 r1) w') w)]) (ground Go.Proofs.Tryd.prog) ann64 body64 (finQ Go.Proofs.Tryd.prog Go.Proofs.Tryd.f64 K Kp) (initF (mkArgs [.one (.ptr)] x)) w := by kernel_rfl
theorem tie64 (x : ArgsV [.one (.ptr)]) (K Kp : Value → World → Prop) (w : World) : F.mallowref8_Chunk_Free env x.1 (fun r1 w' => K (.int .i64 r1) w') w =
    ev Go.Proofs.Tryd.prog (tabC [(70, C70)]) (ground Go.Proofs.Tryd.prog) ann64 body64 (finQ Go.Proofs.Tryd.prog Go.Proofs.Tryd.f64 K Kp) (initF (mkArgs [.one (.ptr)] x)) w := tieZ64 (F.mallowref6_Row_Count env) x K Kp w
theorem fits64 : FitsOne Go.Proofs.Tryd.prog 64 C64 :=
  fits_of_tie (T := [(70, C70)]) (A := ann64) (fn := Go.Proofs.Tryd.f64) (c := body64) (fits_cons fits70 fits_nil) mixed Go.Proofs.Tryd.func64 Go.Proofs.Tryd.call64 (by kernel_rfl) (by kernel_rfl) (by kernel_rfl) tie64

/- F.mallowref9_Tree_Free -/
noncomputable def C50 : Entry := fun args w K Kp => unArgs [.one (.ptr)] args.toList fun x => F.mallowref9_Tree_Free env x.1 (fun r1 w' => K (.int .u64 r1) w') w
noncomputable def body50 : Code := (Go.Proofs.Tryd.f50.body).getD .skip
def ann50 : Ann := { loops := [(3, [(3, .one (.int .i64)), (4, .one (.int .i64))])], joins := [] }
def T0.mallowref9_Tree_Free (E : Env) (c_mallowref8_Chunk_Free : ∀ (a0 : (Option Addr)) (K : Int → World → Prop) (w : World), Prop) (a0 : (Option Addr)) (K : Int → World → Prop) (w : World) : Prop :=
  LOOP (Int × Int × Unit) (0, 0, ()) w fun s1 _ w2 next3 =>
    NC a0 fun p4 =>
    ∃ x5 : SlV, w2.cell? p4 = some (.slice x5.base x5.len x5.cap) ∧
    CND (decide ((s1.2.1 : Int) < ((x5.len : Nat) : Int))) (
      NC a0 fun p6 =>
      ∃ x7 : SlV, w2.cell? p6 = some (.slice x7.base x7.len x7.cap) ∧
      NC x7.base fun p8 =>
      ((0 : Int) ≤ s1.2.1 ∧ (s1.2.1 : Int) < (x7.len : Nat)) ∧
      ∃ x9 : (Option Addr), w2.cell? ((p8.add (Int.toNat s1.2.1 * 2)).add 1) = some (.pointer x9) ∧
      c_mallowref8_Chunk_Free x9 (fun r10 w11 =>
      next3 (i64 (s1.1 + r10), i64 (s1.2.1 + 1), ()) w11
      ) w2
    ) (
      K (u64 (s1.1)) w2
    )

theorem tieZ50 (c_mallowref8_Chunk_Free : ∀ (a0 : (Option Addr)) (K : Int → World → Prop) (w : World), Prop) (x : ArgsV [.one (.ptr)]) (K Kp : Value → World → Prop) (w : World) : T0.mallowref9_Tree_Free env c_mallowref8_Chunk_Free x.1 (fun r1 w' => K (.int .u64 r1) w') w =
    ev Go.Proofs.Tryd.prog (tabC [(64, fun args w K Kp => unArgs [.one (.ptr)] args.toList fun x => c_mallowref8_Chunk_Free x.1 (fun r1 w' => K (.int .i64 r1) w') w)]) (ground Go.Proofs.Tryd.prog) ann50 body50 (finQ Go.Proofs.Tryd.prog Go.Proofs.Tryd.f50 K Kp) (initF (mkArgs [.one (.ptr)] x)) w := by kernel_rfl
theorem tie50 (x : ArgsV [.one (.ptr)]) (K Kp : Value → World → Prop) (w : World) : F.mallowref9_Tree_Free env x.1 (fun r1 w' => K (.int .u64 r1) w') w =
    ev Go.Proofs.Tryd.prog (tabC [(64, C64)]) (ground Go.Proofs.Tryd.prog) ann50 body50 (finQ Go.Proofs.Tryd.prog Go.Proofs.Tryd.f50 K Kp) (initF (mkArgs [.one (.ptr)] x)) w := tieZ50 (F.mallowref8_Chunk_Free env) x K Kp w
theorem fits50 : FitsOne Go.Proofs.Tryd.prog 50 C50 :=
  fits_of_tie (T := [(64, C64)]) (A := ann50) (fn := Go.Proofs.Tryd.f50) (c := body50) (fits_cons fits64 fits_nil) mixed Go.Proofs.Tryd.func50 Go.Proofs.Tryd.call50 (by kernel_rfl) (by kernel_rfl) (by kernel_rfl) tie50

/- F.radix_Tree_Released -/
noncomputable def C51 : Entry := fun args w K Kp => unArgs [.one (.ptr)] args.toList fun x => F.radix_Tree_Released env x.1 (fun r1 w' => K (.int .u64 r1) w') w
noncomputable def body51 : Code := (Go.Proofs.Tryd.f51.body).getD .skip
def ann51 : Ann := { loops := [], joins := [] }
def T0.radix_Tree_Released (E : Env) (c_stretch_Set_Sum : ∀ (a0 : (Option Addr)) (K : Int → World → Prop) (w : World), Prop) (a0 : (Option Addr)) (K : Int → World → Prop) (w : World) : Prop :=
  NC a0 fun p1 =>
  c_stretch_Set_Sum (some (p1.add 4)) (fun r2 w3 =>
  K r2 w3
  ) w

theorem tieZ51 (c_stretch_Set_Sum : ∀ (a0 : (Option Addr)) (K : Int → World → Prop) (w : World), Prop) (x : ArgsV [.one (.ptr)]) (K Kp : Value → World → Prop) (w : World) : T0.radix_Tree_Released env c_stretch_Set_Sum x.1 (fun r1 w' => K (.int .u64 r1) w') w =
    ev Go.Proofs.Tryd.prog (tabC [(35, fun args w K Kp => unArgs [.one (.ptr)] args.toList fun x => c_stretch_Set_Sum x.1 (fun r1 w' => K (.int .u64 r1) w') w)]) (ground Go.Proofs.Tryd.prog) ann51 body51 (finQ Go.Proofs.Tryd.prog Go.Proofs.Tryd.f51 K Kp) (initF (mkArgs [.one (.ptr)] x)) w := by kernel_rfl
theorem tie51 (x : ArgsV [.one (.ptr)]) (K Kp : Value → World → Prop) (w : World) : F.radix_Tree_Released env x.1 (fun r1 w' => K (.int .u64 r1) w') w =
    ev Go.Proofs.Tryd.prog (tabC [(35, C35)]) (ground Go.Proofs.Tryd.prog) ann51 body51 (finQ Go.Proofs.Tryd.prog Go.Proofs.Tryd.f51 K Kp) (initF (mkArgs [.one (.ptr)] x)) w := tieZ51 (F.stretch_Set_Sum env) x K Kp w
theorem fits51 : FitsOne Go.Proofs.Tryd.prog 51 C51 :=
  fits_of_tie (T := [(35, C35)]) (A := ann51) (fn := Go.Proofs.Tryd.f51) (c := body51) (fits_cons fits35 fits_nil) mixed Go.Proofs.Tryd.func51 Go.Proofs.Tryd.call51 (by kernel_rfl) (by kernel_rfl) (by kernel_rfl) tie51

/- F.mallowref8_Chunk_Released -/
noncomputable def C65 : Entry := fun args w K Kp => unArgs [.one (.ptr)] args.toList fun x => F.mallowref8_Chunk_Released env x.1 (fun r1 w' => K (.int .i64 r1) w') w
noncomputable def body65 : Code := (Go.Proofs.Tryd.f65.body).getD .skip
def ann65 : Ann := { loops := [], joins := [] }
def T0.mallowref8_Chunk_Released (E : Env) (c_mallowref6_Row_Count : ∀ (a0 : (Option Addr)) (a1 : Int) (a2 : Int) (K : Int → World → Prop) (w : World), Prop) (a0 : (Option Addr)) (K : Int → World → Prop) (w : World) : Prop :=
  NC a0 fun p1 =>
  c_mallowref6_Row_Count (some (p1.add 512)) 0 512 (fun r2 w3 =>
  K r2 w3
  ) w

theorem tieZ65 (c_mallowref6_Row_Count : ∀ (a0 : (Option Addr)) (a1 : Int) (a2 : Int) (K : Int → World → Prop) (w : World), Prop) (x : ArgsV [.one (.ptr)]) (K Kp : Value → World → Prop) (w : World) : T0.mallowref8_Chunk_Released env c_mallowref6_Row_Count x.1 (fun r1 w' => K (.int .i64 r1) w') w =
    ev Go.Proofs.Tryd.prog (tabC [(70, fun args w K Kp => unArgs [.one (.ptr), .one (.int .i64), .one (.int .i64)] args.toList fun x => c_mallowref6_Row_Count x.1 x.2.1 x.2.2.1 (fun r1 w' => K (.int .i64 r1) w') w)]) (ground Go.Proofs.Tryd.prog) ann65 body65 (finQ Go.Proofs.Tryd.prog Go.Proofs.Tryd.f65 K Kp) (initF (mkArgs [.one (.ptr)] x)) w := by kernel_rfl
theorem tie65 (x : ArgsV [.one (.ptr)]) (K Kp : Value → World → Prop) (w : World) : F.mallowref8_Chunk_Released env x.1 (fun r1 w' => K (.int .i64 r1) w') w =
    ev Go.Proofs.Tryd.prog (tabC [(70, C70)]) (ground Go.Proofs.Tryd.prog) ann65 body65 (finQ Go.Proofs.Tryd.prog Go.Proofs.Tryd.f65 K Kp) (initF (mkArgs [.one (.ptr)] x)) w := tieZ65 (F.mallowref6_Row_Count env) x K Kp w
theorem fits65 : FitsOne Go.Proofs.Tryd.prog 65 C65 :=
  fits_of_tie (T := [(70, C70)]) (A := ann65) (fn := Go.Proofs.Tryd.f65) (c := body65) (fits_cons fits70 fits_nil) mixed Go.Proofs.Tryd.func65 Go.Proofs.Tryd.call65 (by kernel_rfl) (by kernel_rfl) (by kernel_rfl) tie65

/- F.mallowref9_Tree_Released -/
noncomputable def C52 : Entry := fun args w K Kp => unArgs [.one (.ptr)] args.toList fun x => F.mallowref9_Tree_Released env x.1 (fun r1 w' => K (.int .u64 r1) w') w
noncomputable def body52 : Code := (Go.Proofs.Tryd.f52.body).getD .skip
def ann52 : Ann := { loops := [(3, [(3, .one (.int .i64)), (4, .one (.int .i64))])], joins := [] }
def T0.mallowref9_Tree_Released (E : Env) (c_mallowref8_Chunk_Released : ∀ (a0 : (Option Addr)) (K : Int → World → Prop) (w : World), Prop) (a0 : (Option Addr)) (K : Int → World → Prop) (w : World) : Prop :=
  LOOP (Int × Int × Unit) (0, 0, ()) w fun s1 _ w2 next3 =>
    NC a0 fun p4 =>
    ∃ x5 : SlV, w2.cell? p4 = some (.slice x5.base x5.len x5.cap) ∧
    CND (decide ((s1.2.1 : Int) < ((x5.len : Nat) : Int))) (
      NC a0 fun p6 =>
      ∃ x7 : SlV, w2.cell? p6 = some (.slice x7.base x7.len x7.cap) ∧
      NC x7.base fun p8 =>
      ((0 : Int) ≤ s1.2.1 ∧ (s1.2.1 : Int) < (x7.len : Nat)) ∧
      ∃ x9 : (Option Addr), w2.cell? ((p8.add (Int.toNat s1.2.1 * 2)).add 1) = some (.pointer x9) ∧
      c_mallowref8_Chunk_Released x9 (fun r10 w11 =>
      next3 (i64 (s1.1 + r10), i64 (s1.2.1 + 1), ()) w11
      ) w2
    ) (
      K (u64 (s1.1)) w2
    )

theorem tieZ52 (c_mallowref8_Chunk_Released : ∀ (a0 : (Option Addr)) (K : Int → World → Prop) (w : World), Prop) (x : ArgsV [.one (.ptr)]) (K Kp : Value → World → Prop) (w : World) : T0.mallowref9_Tree_Released env c_mallowref8_Chunk_Released x.1 (fun r1 w' => K (.int .u64 r1) w') w =
    ev Go.Proofs.Tryd.prog (tabC [(65, fun args w K Kp => unArgs [.one (.ptr)] args.toList fun x => c_mallowref8_Chunk_Released x.1 (fun r1 w' => K (.int .i64 r1) w') w)]) (ground Go.Proofs.Tryd.prog) ann52 body52 (finQ Go.Proofs.Tryd.prog Go.Proofs.Tryd.f52 K Kp) (initF (mkArgs [.one (.ptr)] x)) w := by kernel_rfl
theorem tie52 (x : ArgsV [.one (.ptr)]) (K Kp : Value → World → Prop) (w : World) : F.mallowref9_Tree_Released env x.1 (fun r1 w' => K (.int .u64 r1) w') w =
    ev Go.Proofs.Tryd.prog (tabC [(65, C65)]) (ground Go.Proofs.Tryd.prog) ann52 body52 (finQ Go.Proofs.Tryd.prog Go.Proofs.Tryd.f52 K Kp) (initF (mkArgs [.one (.ptr)] x)) w := tieZ52 (F.mallowref8_Chunk_Released env) x K Kp w
theorem fits52 : FitsOne Go.Proofs.Tryd.prog 52 C52 :=
  fits_of_tie (T := [(65, C65)]) (A := ann52) (fn := Go.Proofs.Tryd.f52) (c := body52) (fits_cons fits65 fits_nil) mixed Go.Proofs.Tryd.func52 Go.Proofs.Tryd.call52 (by kernel_rfl) (by kernel_rfl) (by kernel_rfl) tie52

/- F.mallowlaw10_same -/
noncomputable def C24 : Entry := fun args w K Kp => unArgs [.one (.ptr), .one (.ptr), .one (.ptr), .one (.ptr)] args.toList fun x => F.mallowlaw10_same env x.1 x.2.1 x.2.2.1 x.2.2.2.1 (fun r1 w' => K (.bool r1) w') w
noncomputable def body24 : Code := (Go.Proofs.Tryd.f24.body).getD .skip
def ann24 : Ann := { loops := [], joins := [] }
def T0.mallowlaw10_same (E : Env) (c_pcache_Cache_Tell : ∀ (a0 : (Option Addr)) (K : Int → Int → Int → World → Prop) (w : World), Prop) (c_mallowref10_Cache_Tell : ∀ (a0 : (Option Addr)) (K : Int → Int → Int → World → Prop) (w : World), Prop) (c_pcache_Cache_Empty : ∀ (a0 : (Option Addr)) (K : Bool → World → Prop) (w : World), Prop) (c_mallowref10_Cache_Empty : ∀ (a0 : (Option Addr)) (K : Bool → World → Prop) (w : World), Prop) (c_radix_Tree_Free : ∀ (a0 : (Option Addr)) (K : Int → World → Prop) (w : World), Prop) (c_mallowref9_Tree_Free : ∀ (a0 : (Option Addr)) (K : Int → World → Prop) (w : World), Prop) (c_radix_Tree_Released : ∀ (a0 : (Option Addr)) (K : Int → World → Prop) (w : World), Prop) (c_mallowref9_Tree_Released : ∀ (a0 : (Option Addr)) (K : Int → World → Prop) (w : World), Prop) (a0 : (Option Addr)) (a1 : (Option Addr)) (a2 : (Option Addr)) (a3 : (Option Addr)) (K : Bool → World → Prop) (w : World) : Prop :=
  c_pcache_Cache_Tell a2 (fun r1 r2 r3 w4 =>
  c_mallowref10_Cache_Tell a3 (fun r5 r6 r7 w8 =>
  CND ((r1 : Int) == r5) (
    CND ((r2 : Int) == r6) (
      CND ((r3 : Int) == r7) (
        c_pcache_Cache_Empty a2 (fun r9 w10 =>
        c_mallowref10_Cache_Empty a3 (fun r11 w12 =>
        CND (r9 == r11) (
          c_radix_Tree_Free a0 (fun r13 w14 =>
          c_mallowref9_Tree_Free a1 (fun r15 w16 =>
          CND ((r13 : Int) == r15) (
            c_radix_Tree_Released a0 (fun r17 w18 =>
            c_mallowref9_Tree_Released a1 (fun r19 w20 =>
            K ((r17 : Int) == r19) w20
            ) w18
            ) w16
          ) (
            K false w16
          )
          ) w14
          ) w12
        ) (
          K false w12
        )
        ) w10
        ) w8
      ) (
        K false w8
      )
    ) (
      K false w8
    )
  ) (
    K false w8
  )
  ) w4
  ) w

theorem tieZ24 (c_pcache_Cache_Tell : ∀ (a0 : (Option Addr)) (K : Int → Int → Int → World → Prop) (w : World), Prop) (c_mallowref10_Cache_Tell : ∀ (a0 : (Option Addr)) (K : Int → Int → Int → World → Prop) (w : World), Prop) (c_pcache_Cache_Empty : ∀ (a0 : (Option Addr)) (K : Bool → World → Prop) (w : World), Prop) (c_mallowref10_Cache_Empty : ∀ (a0 : (Option Addr)) (K : Bool → World → Prop) (w : World), Prop) (c_radix_Tree_Free : ∀ (a0 : (Option Addr)) (K : Int → World → Prop) (w : World), Prop) (c_mallowref9_Tree_Free : ∀ (a0 : (Option Addr)) (K : Int → World → Prop) (w : World), Prop) (c_radix_Tree_Released : ∀ (a0 : (Option Addr)) (K : Int → World → Prop) (w : World), Prop) (c_mallowref9_Tree_Released : ∀ (a0 : (Option Addr)) (K : Int → World → Prop) (w : World), Prop) (x : ArgsV [.one (.ptr), .one (.ptr), .one (.ptr), .one (.ptr)]) (K Kp : Value → World → Prop) (w : World) : T0.mallowlaw10_same env c_pcache_Cache_Tell c_mallowref10_Cache_Tell c_pcache_Cache_Empty c_mallowref10_Cache_Empty c_radix_Tree_Free c_mallowref9_Tree_Free c_radix_Tree_Released c_mallowref9_Tree_Released x.1 x.2.1 x.2.2.1 x.2.2.2.1 (fun r1 w' => K (.bool r1) w') w =
    ev Go.Proofs.Tryd.prog (tabC [(11, fun args w K Kp => unArgs [.one (.ptr)] args.toList fun x => c_pcache_Cache_Tell x.1 (fun r1 r2 r3 w' => K (.tuple ⟨[.int .u64 r1, .int .u64 r2, .int .u64 r3]⟩) w') w), (48, fun args w K Kp => unArgs [.one (.ptr)] args.toList fun x => c_mallowref10_Cache_Tell x.1 (fun r1 r2 r3 w' => K (.tuple ⟨[.int .u64 r1, .int .u64 r2, .int .u64 r3]⟩) w') w), (15, fun args w K Kp => unArgs [.one (.ptr)] args.toList fun x => c_pcache_Cache_Empty x.1 (fun r1 w' => K (.bool r1) w') w), (49, fun args w K Kp => unArgs [.one (.ptr)] args.toList fun x => c_mallowref10_Cache_Empty x.1 (fun r1 w' => K (.bool r1) w') w), (17, fun args w K Kp => unArgs [.one (.ptr)] args.toList fun x => c_radix_Tree_Free x.1 (fun r1 w' => K (.int .u64 r1) w') w), (50, fun args w K Kp => unArgs [.one (.ptr)] args.toList fun x => c_mallowref9_Tree_Free x.1 (fun r1 w' => K (.int .u64 r1) w') w), (51, fun args w K Kp => unArgs [.one (.ptr)] args.toList fun x => c_radix_Tree_Released x.1 (fun r1 w' => K (.int .u64 r1) w') w), (52, fun args w K Kp => unArgs [.one (.ptr)] args.toList fun x => c_mallowref9_Tree_Released x.1 (fun r1 w' => K (.int .u64 r1) w') w)]) (ground Go.Proofs.Tryd.prog) ann24 body24 (finQ Go.Proofs.Tryd.prog Go.Proofs.Tryd.f24 K Kp) (initF (mkArgs [.one (.ptr), .one (.ptr), .one (.ptr), .one (.ptr)] x)) w := by kernel_rfl
theorem tie24 (x : ArgsV [.one (.ptr), .one (.ptr), .one (.ptr), .one (.ptr)]) (K Kp : Value → World → Prop) (w : World) : F.mallowlaw10_same env x.1 x.2.1 x.2.2.1 x.2.2.2.1 (fun r1 w' => K (.bool r1) w') w =
    ev Go.Proofs.Tryd.prog (tabC [(11, C11), (48, C48), (15, C15), (49, C49), (17, C17), (50, C50), (51, C51), (52, C52)]) (ground Go.Proofs.Tryd.prog) ann24 body24 (finQ Go.Proofs.Tryd.prog Go.Proofs.Tryd.f24 K Kp) (initF (mkArgs [.one (.ptr), .one (.ptr), .one (.ptr), .one (.ptr)] x)) w := tieZ24 (F.pcache_Cache_Tell env) (F.mallowref10_Cache_Tell env) (F.pcache_Cache_Empty env) (F.mallowref10_Cache_Empty env) (F.radix_Tree_Free env) (F.mallowref9_Tree_Free env) (F.radix_Tree_Released env) (F.mallowref9_Tree_Released env) x K Kp w
theorem fits24 : FitsOne Go.Proofs.Tryd.prog 24 C24 :=
  fits_of_tie (T := [(11, C11), (48, C48), (15, C15), (49, C49), (17, C17), (50, C50), (51, C51), (52, C52)]) (A := ann24) (fn := Go.Proofs.Tryd.f24) (c := body24) (fits_cons fits11 (fits_cons fits48 (fits_cons fits15 (fits_cons fits49 (fits_cons fits17 (fits_cons fits50 (fits_cons fits51 (fits_cons fits52 fits_nil)))))))) mixed Go.Proofs.Tryd.func24 Go.Proofs.Tryd.call24 (by kernel_rfl) (by kernel_rfl) (by kernel_rfl) tie24

/- F.mallowlaw10_CachePlays -/
noncomputable def C6 : Entry := fun args w K Kp => unArgs [.one (.int .u64), .one (.sl)] args.toList fun x => F.mallowlaw10_CachePlays env x.1 x.2.1 (fun r1 w' => K (.bool r1) w') w
noncomputable def body6 : Code := (Go.Proofs.Tryd.f6.body).getD .skip
def ann6 : Ann := { loops := [(10, [(11, .one (.int .i64))]), (20, [(13, .one (.int .u64))])], joins := [(2, [(30, .one (.bool))]), (8, [(58, .one (.bool))]), (13, []), (17, [(12, .one (.bool))]), (18, [(129, .one (.bool))]), (25, [(163, .one (.bool))])] }
def T0.mallowlaw10_CachePlays (E : Env) (c_radix_New : ∀ (K : (Option Addr) → World → Prop) (w : World), Prop) (c_pcache_New : ∀ (K : (Option Addr) → World → Prop) (w : World), Prop) (c_radix_Tree_Grow : ∀ (a0 : (Option Addr)) (a1 : Int) (a2 : Int) (K : Int → World → Prop) (w : World), Prop) (c_mallowref9_Tree_Grow : ∀ (a0 : (Option Addr)) (a1 : Int) (a2 : Int) (K : Int → World → Prop) (w : World), Prop) (c_mallowref10_Cache_Owns : ∀ (a0 : (Option Addr)) (a1 : Int) (K : Bool → World → Prop) (w : World), Prop) (c_mallowlaw10_act : ∀ (a0 : (Option Addr)) (a1 : (Option Addr)) (a2 : (Option Addr)) (a3 : (Option Addr)) (a4_0 : Int) (a4_1 : Bool) (a4_2 : Int) (a4_3 : Int) (K : Bool → World → Prop) (w : World), Prop) (c_mallowlaw10_same : ∀ (a0 : (Option Addr)) (a1 : (Option Addr)) (a2 : (Option Addr)) (a3 : (Option Addr)) (K : Bool → World → Prop) (w : World), Prop) (c_radix_Tree_State : ∀ (a0 : (Option Addr)) (a1 : Int) (K : Bool → Bool → Bool → World → Prop) (w : World), Prop) (c_mallowref9_Tree_State : ∀ (a0 : (Option Addr)) (a1 : Int) (K : Bool → Bool → Bool → World → Prop) (w : World), Prop) (c_mallowlaw10_awake : ∀ (K : Bool → World → Prop) (w : World), Prop) (a0 : Int) (a1 : SlV) (K : Bool → World → Prop) (w : World) : Prop :=
  JOIN (Bool × Unit) (fun J1 =>
    CND (decide ((((a1.len : Nat) : Int) : Int) > 150)) (
      J1 (true, ()) w
    ) (
      CND (decide ((a0 : Int) < 1)) (
        J1 (true, ()) w
      ) (
        J1 (decide ((a0 : Int) > 4), ()) w
      )
    )
  ) fun s2 _ w3 =>
    CND (s2.1) (
      K true w3
    ) (
      c_radix_New  (fun r4 w5 =>
      AL (.cells #[.slice none 0 0] E.t_mallowref9_Tree) w5 fun b6 w7 =>
      c_pcache_New  (fun r8 w9 =>
      c_pcache_New  (fun r10 w11 =>
      AL (.cells #[.int .u64 0, .bool false, .bool false, .bool false, .bool false, .bool false, .bool false, .bool false, .bool false, .bool false, .bool false, .bool false, .bool false, .bool false, .bool false, .bool false, .bool false, .bool false, .bool false, .bool false, .bool false, .bool false, .bool false, .bool false, .bool false, .bool false, .bool false, .bool false, .bool false, .bool false, .bool false, .bool false, .bool false, .bool false, .bool false, .bool false, .bool false, .bool false, .bool false, .bool false, .bool false, .bool false, .bool false, .bool false, .bool false, .bool false, .bool false, .bool false, .bool false, .bool false, .bool false, .bool false, .bool false, .bool false, .bool false, .bool false, .bool false, .bool false, .bool false, .bool false, .bool false, .bool false, .bool false, .bool false, .bool false, .bool false, .bool false, .bool false, .bool false, .bool false, .bool false, .bool false, .bool false, .bool false, .bool false, .bool false, .bool false, .bool false, .bool false, .bool false, .bool false, .bool false, .bool false, .bool false, .bool false, .bool false, .bool false, .bool false, .bool false, .bool false, .bool false, .bool false, .bool false, .bool false, .bool false, .bool false, .bool false, .bool false, .bool false, .bool false, .bool false, .bool false, .bool false, .bool false, .bool false, .bool false, .bool false, .bool false, .bool false, .bool false, .bool false, .bool false, .bool false, .bool false, .bool false, .bool false, .bool false, .bool false, .bool false, .bool false, .bool false, .bool false, .bool false, .bool false, .bool false, .bool false, .bool false, .bool false, .bool false] E.t_mallowref10_Cache) w11 fun b12 w13 =>
      AL (.cells #[.int .u64 0, .bool false, .bool false, .bool false, .bool false, .bool false, .bool false, .bool false, .bool false, .bool false, .bool false, .bool false, .bool false, .bool false, .bool false, .bool false, .bool false, .bool false, .bool false, .bool false, .bool false, .bool false, .bool false, .bool false, .bool false, .bool false, .bool false, .bool false, .bool false, .bool false, .bool false, .bool false, .bool false, .bool false, .bool false, .bool false, .bool false, .bool false, .bool false, .bool false, .bool false, .bool false, .bool false, .bool false, .bool false, .bool false, .bool false, .bool false, .bool false, .bool false, .bool false, .bool false, .bool false, .bool false, .bool false, .bool false, .bool false, .bool false, .bool false, .bool false, .bool false, .bool false, .bool false, .bool false, .bool false, .bool false, .bool false, .bool false, .bool false, .bool false, .bool false, .bool false, .bool false, .bool false, .bool false, .bool false, .bool false, .bool false, .bool false, .bool false, .bool false, .bool false, .bool false, .bool false, .bool false, .bool false, .bool false, .bool false, .bool false, .bool false, .bool false, .bool false, .bool false, .bool false, .bool false, .bool false, .bool false, .bool false, .bool false, .bool false, .bool false, .bool false, .bool false, .bool false, .bool false, .bool false, .bool false, .bool false, .bool false, .bool false, .bool false, .bool false, .bool false, .bool false, .bool false, .bool false, .bool false, .bool false, .bool false, .bool false, .bool false, .bool false, .bool false, .bool false, .bool false, .bool false, .bool false, .bool false, .bool false] E.t_mallowref10_Cache) w13 fun b14 w15 =>
      JOIN (Bool × Unit) (fun J16 =>
        CND (r4.isNone) (
          J16 (true, ()) w15
        ) (
          CND (r8.isNone) (
            J16 (true, ()) w15
          ) (
            CND (r10.isNone) (
              J16 (true, ()) w15
            ) (
              c_radix_Tree_Grow r4 2 a0 (fun r19 w20 =>
              c_mallowref9_Tree_Grow (some (Addr.mk b6 0 none)) 2 a0 (fun r21 w22 =>
              J16 ((r19 : Int) != r21, ()) w22
              ) w20
              ) w15
            )
          )
        )
      ) fun s17 _ w18 =>
        CND (s17.1) (
          K false w18
        ) (
          LOOP (Int × Unit) (0, ()) w18 fun s23 _ w24 next25 =>
            CND (decide ((s23.1 : Int) < ((a1.len : Nat) : Int))) (
              JOIN (Unit) (fun J26 =>
                NC a1.base fun p29 =>
                ((0 : Int) ≤ s23.1 ∧ (s23.1 : Int) < (a1.len : Nat)) ∧
                ∃ x30 : Int, w24.cell? (p29.add (Int.toNat s23.1 * 4)) = some (.int .i64 x30) ∧
                CND ((x30 : Int) == 5) (
                  NC a1.base fun p31 =>
                  ((0 : Int) ≤ s23.1 ∧ (s23.1 : Int) < (a1.len : Nat)) ∧
                  ∃ x32 : Int, w24.cell? ((p31.add (Int.toNat s23.1 * 4)).add 3) = some (.int .u64 x32) ∧
                  c_mallowref10_Cache_Owns (some (Addr.mk b12 0 none)) x32 (fun r33 w34 =>
                  CND (r33) (
                    next25 (i64 (s23.1 + 1), ()) w34
                  ) (
                    NC a1.base fun p35 =>
                    ((0 : Int) ≤ s23.1 ∧ (s23.1 : Int) < (a1.len : Nat)) ∧
                    ∃ x36 : Int, w34.cell? ((p35.add (Int.toNat s23.1 * 4)).add 3) = some (.int .u64 x36) ∧
                    c_mallowref10_Cache_Owns (some (Addr.mk b14 0 none)) x36 (fun r37 w38 =>
                    CND (r37) (
                      next25 (i64 (s23.1 + 1), ()) w38
                    ) (
                      J26 (()) w38
                    )
                    ) w34
                  )
                  ) w24
                ) (
                  J26 (()) w24
                )
              ) fun s27 _ w28 =>
                JOIN (Bool × Unit) (fun J39 =>
                  NC a1.base fun p42 =>
                  ((0 : Int) ≤ s23.1 ∧ (s23.1 : Int) < (a1.len : Nat)) ∧
                  ∃ x43 : Bool, w28.cell? ((p42.add (Int.toNat s23.1 * 4)).add 1) = some (.bool x43) ∧
                  CND (x43) (
                    NC a1.base fun p44 =>
                    ((0 : Int) ≤ s23.1 ∧ (s23.1 : Int) < (a1.len : Nat)) ∧
                    ∃ c45 : Int, w28.cell? ((p44.add (Int.toNat s23.1 * 4)).add 0) = some (.int .i64 c45) ∧
                    ∃ c46 : Bool, w28.cell? ((p44.add (Int.toNat s23.1 * 4)).add 1) = some (.bool c46) ∧
                    ∃ c47 : Int, w28.cell? ((p44.add (Int.toNat s23.1 * 4)).add 2) = some (.int .i64 c47) ∧
                    ∃ c48 : Int, w28.cell? ((p44.add (Int.toNat s23.1 * 4)).add 3) = some (.int .u64 c48) ∧
                    c_mallowlaw10_act r4 (some (Addr.mk b6 0 none)) r10 (some (Addr.mk b14 0 none)) c45 c46 c47 c48 (fun r49 w50 =>
                    J39 (r49, ()) w50
                    ) w28
                  ) (
                    NC a1.base fun p51 =>
                    ((0 : Int) ≤ s23.1 ∧ (s23.1 : Int) < (a1.len : Nat)) ∧
                    ∃ c52 : Int, w28.cell? ((p51.add (Int.toNat s23.1 * 4)).add 0) = some (.int .i64 c52) ∧
                    ∃ c53 : Bool, w28.cell? ((p51.add (Int.toNat s23.1 * 4)).add 1) = some (.bool c53) ∧
                    ∃ c54 : Int, w28.cell? ((p51.add (Int.toNat s23.1 * 4)).add 2) = some (.int .i64 c54) ∧
                    ∃ c55 : Int, w28.cell? ((p51.add (Int.toNat s23.1 * 4)).add 3) = some (.int .u64 c55) ∧
                    c_mallowlaw10_act r4 (some (Addr.mk b6 0 none)) r8 (some (Addr.mk b12 0 none)) c52 c53 c54 c55 (fun r56 w57 =>
                    J39 (r56, ()) w57
                    ) w28
                  )
                ) fun s40 _ w41 =>
                  JOIN (Bool × Unit) (fun J58 =>
                    CND (!s40.1) (
                      J58 (true, ()) w41
                    ) (
                      c_mallowlaw10_same r4 (some (Addr.mk b6 0 none)) r8 (some (Addr.mk b12 0 none)) (fun r61 w62 =>
                      CND (!r61) (
                        J58 (true, ()) w62
                      ) (
                        c_mallowlaw10_same r4 (some (Addr.mk b6 0 none)) r10 (some (Addr.mk b14 0 none)) (fun r63 w64 =>
                        J58 (!r63, ()) w64
                        ) w62
                      )
                      ) w41
                    )
                  ) fun s59 _ w60 =>
                    CND (s59.1) (
                      K false w60
                    ) (
                      next25 (i64 (s23.1 + 1), ()) w60
                    )
            ) (
              LOOP (Int × Unit) (1024, ()) w24 fun s65 _ w66 next67 =>
                CND (decide ((s65.1 : Int) < (u64 (1024 + (u64 (512 * a0)))))) (
                  c_radix_Tree_State r4 s65.1 (fun r68 r69 r70 w71 =>
                  c_mallowref9_Tree_State (some (Addr.mk b6 0 none)) s65.1 (fun r72 r73 r74 w75 =>
                  JOIN (Bool × Unit) (fun J76 =>
                    CND (!(r68 == r72)) (
                      J76 (true, ()) w75
                    ) (
                      CND (!(r69 == r73)) (
                        J76 (true, ()) w75
                      ) (
                        J76 (!(r70 == r74), ()) w75
                      )
                    )
                  ) fun s77 _ w78 =>
                    CND (s77.1) (
                      K false w78
                    ) (
                      next67 (u64 (s65.1 + 3), ()) w78
                    )
                  ) w71
                  ) w66
                ) (
                  c_mallowlaw10_awake  (fun r79 w80 =>
                  K r79 w80
                  ) w66
                )
            )
        )
      ) w9
      ) w7
      ) w3
    )

theorem tieZ6 (c_radix_New : ∀ (K : (Option Addr) → World → Prop) (w : World), Prop) (c_pcache_New : ∀ (K : (Option Addr) → World → Prop) (w : World), Prop) (c_radix_Tree_Grow : ∀ (a0 : (Option Addr)) (a1 : Int) (a2 : Int) (K : Int → World → Prop) (w : World), Prop) (c_mallowref9_Tree_Grow : ∀ (a0 : (Option Addr)) (a1 : Int) (a2 : Int) (K : Int → World → Prop) (w : World), Prop) (c_mallowref10_Cache_Owns : ∀ (a0 : (Option Addr)) (a1 : Int) (K : Bool → World → Prop) (w : World), Prop) (c_mallowlaw10_act : ∀ (a0 : (Option Addr)) (a1 : (Option Addr)) (a2 : (Option Addr)) (a3 : (Option Addr)) (a4_0 : Int) (a4_1 : Bool) (a4_2 : Int) (a4_3 : Int) (K : Bool → World → Prop) (w : World), Prop) (c_mallowlaw10_same : ∀ (a0 : (Option Addr)) (a1 : (Option Addr)) (a2 : (Option Addr)) (a3 : (Option Addr)) (K : Bool → World → Prop) (w : World), Prop) (c_radix_Tree_State : ∀ (a0 : (Option Addr)) (a1 : Int) (K : Bool → Bool → Bool → World → Prop) (w : World), Prop) (c_mallowref9_Tree_State : ∀ (a0 : (Option Addr)) (a1 : Int) (K : Bool → Bool → Bool → World → Prop) (w : World), Prop) (c_mallowlaw10_awake : ∀ (K : Bool → World → Prop) (w : World), Prop) (x : ArgsV [.one (.int .u64), .one (.sl)]) (K Kp : Value → World → Prop) (w : World) : T0.mallowlaw10_CachePlays env c_radix_New c_pcache_New c_radix_Tree_Grow c_mallowref9_Tree_Grow c_mallowref10_Cache_Owns c_mallowlaw10_act c_mallowlaw10_same c_radix_Tree_State c_mallowref9_Tree_State c_mallowlaw10_awake x.1 x.2.1 (fun r1 w' => K (.bool r1) w') w =
    ev Go.Proofs.Tryd.prog (tabC [(7, fun args w K Kp => unArgs [] args.toList fun x => c_radix_New  (fun r1 w' => K (.pointer r1) w') w), (8, fun args w K Kp => unArgs [] args.toList fun x => c_pcache_New  (fun r1 w' => K (.pointer r1) w') w), (9, fun args w K Kp => unArgs [.one (.ptr), .one (.int .u64), .one (.int .u64)] args.toList fun x => c_radix_Tree_Grow x.1 x.2.1 x.2.2.1 (fun r1 w' => K (.int .i64 r1) w') w), (21, fun args w K Kp => unArgs [.one (.ptr), .one (.int .u64), .one (.int .u64)] args.toList fun x => c_mallowref9_Tree_Grow x.1 x.2.1 x.2.2.1 (fun r1 w' => K (.int .i64 r1) w') w), (22, fun args w K Kp => unArgs [.one (.ptr), .one (.int .u64)] args.toList fun x => c_mallowref10_Cache_Owns x.1 x.2.1 (fun r1 w' => K (.bool r1) w') w), (23, fun args w K Kp => unArgs [.one (.ptr), .one (.ptr), .one (.ptr), .one (.ptr), .agg [.int .i64, .bool, .int .i64, .int .u64]] args.toList fun x => c_mallowlaw10_act x.1 x.2.1 x.2.2.1 x.2.2.2.1 x.2.2.2.2.1.1 x.2.2.2.2.1.2.1 x.2.2.2.2.1.2.2.1 x.2.2.2.2.1.2.2.2.1 (fun r1 w' => K (.bool r1) w') w), (24, fun args w K Kp => unArgs [.one (.ptr), .one (.ptr), .one (.ptr), .one (.ptr)] args.toList fun x => c_mallowlaw10_same x.1 x.2.1 x.2.2.1 x.2.2.2.1 (fun r1 w' => K (.bool r1) w') w), (13, fun args w K Kp => unArgs [.one (.ptr), .one (.int .u64)] args.toList fun x => c_radix_Tree_State x.1 x.2.1 (fun r1 r2 r3 w' => K (.tuple ⟨[.bool r1, .bool r2, .bool r3]⟩) w') w), (25, fun args w K Kp => unArgs [.one (.ptr), .one (.int .u64)] args.toList fun x => c_mallowref9_Tree_State x.1 x.2.1 (fun r1 r2 r3 w' => K (.tuple ⟨[.bool r1, .bool r2, .bool r3]⟩) w') w), (14, fun args w K Kp => unArgs [] args.toList fun x => c_mallowlaw10_awake  (fun r1 w' => K (.bool r1) w') w)]) (ground Go.Proofs.Tryd.prog) ann6 body6 (finQ Go.Proofs.Tryd.prog Go.Proofs.Tryd.f6 K Kp) (initF (mkArgs [.one (.int .u64), .one (.sl)] x)) w := by kernel_rfl
theorem tie6 (x : ArgsV [.one (.int .u64), .one (.sl)]) (K Kp : Value → World → Prop) (w : World) : F.mallowlaw10_CachePlays env x.1 x.2.1 (fun r1 w' => K (.bool r1) w') w =
    ev Go.Proofs.Tryd.prog (tabC [(7, C7), (8, C8), (9, C9), (21, C21), (22, C22), (23, C23), (24, C24), (13, C13), (25, C25), (14, C14)]) (ground Go.Proofs.Tryd.prog) ann6 body6 (finQ Go.Proofs.Tryd.prog Go.Proofs.Tryd.f6 K Kp) (initF (mkArgs [.one (.int .u64), .one (.sl)] x)) w := tieZ6 (F.radix_New env) (F.pcache_New env) (F.radix_Tree_Grow env) (F.mallowref9_Tree_Grow env) (F.mallowref10_Cache_Owns env) (F.mallowlaw10_act env) (F.mallowlaw10_same env) (F.radix_Tree_State env) (F.mallowref9_Tree_State env) (F.mallowlaw10_awake env) x K Kp w
theorem fits6 : FitsOne Go.Proofs.Tryd.prog 6 C6 :=
  fits_of_tie (T := [(7, C7), (8, C8), (9, C9), (21, C21), (22, C22), (23, C23), (24, C24), (13, C13), (25, C25), (14, C14)]) (A := ann6) (fn := Go.Proofs.Tryd.f6) (c := body6) (fits_cons fits7 (fits_cons fits8 (fits_cons fits9 (fits_cons fits21 (fits_cons fits22 (fits_cons fits23 (fits_cons fits24 (fits_cons fits13 (fits_cons fits25 (fits_cons fits14 fits_nil)))))))))) mixed Go.Proofs.Tryd.func6 Go.Proofs.Tryd.call6 (by kernel_rfl) (by kernel_rfl) (by kernel_rfl) tie6

/- F.stretch_Set_at_1 -/
noncomputable def C67 : Entry := fun args w K Kp => unArgs [.one (.int .i64), .one (.ptr), .one (.ptr)] args.toList fun x => F.stretch_Set_at_1 env x.1 x.2.1 x.2.2.1 (fun r1 w' => K (.bool r1) w') w
noncomputable def body67 : Code := (Go.Proofs.Tryd.f67.body).getD .skip
def ann67 : Ann := { loops := [], joins := [] }
theorem tie67 (x : ArgsV [.one (.int .i64), .one (.ptr), .one (.ptr)]) (K Kp : Value → World → Prop) (w : World) : F.stretch_Set_at_1 env x.1 x.2.1 x.2.2.1 (fun r1 w' => K (.bool r1) w') w =
    ev Go.Proofs.Tryd.prog (tabC []) (ground Go.Proofs.Tryd.prog) ann67 body67 (finQ Go.Proofs.Tryd.prog Go.Proofs.Tryd.f67 K Kp) (initF (mkArgs [.one (.int .i64), .one (.ptr), .one (.ptr)] x)) w := by kernel_rfl
theorem fits67 : FitsOne Go.Proofs.Tryd.prog 67 C67 :=
  fits_of_tie (T := []) (A := ann67) (fn := Go.Proofs.Tryd.f67) (c := body67) fits_nil mixed Go.Proofs.Tryd.func67 Go.Proofs.Tryd.call67 (by kernel_rfl) (by kernel_rfl) (by kernel_rfl) tie67

/- F.gosem_cut_vars -/
noncomputable def C91 : Entry := fun args w K Kp => unArgs [] args.toList fun x => F.gosem_cut_vars env  (fun  w' => K (.tuple ⟨[]⟩) w') w
noncomputable def body91 : Code := (Go.Proofs.Tryd.f91.body).getD .skip
def ann91 : Ann := { loops := [], joins := [] }
theorem tie91 (x : ArgsV []) (K Kp : Value → World → Prop) (w : World) : F.gosem_cut_vars env  (fun  w' => K (.tuple ⟨[]⟩) w') w =
    ev Go.Proofs.Tryd.prog (tabC []) (ground Go.Proofs.Tryd.prog) ann91 body91 (finQ Go.Proofs.Tryd.prog Go.Proofs.Tryd.f91 K Kp) (initF (mkArgs [] x)) w := by kernel_rfl
theorem fits91 : FitsOne Go.Proofs.Tryd.prog 91 C91 :=
  fits_of_tie (T := []) (A := ann91) (fn := Go.Proofs.Tryd.f91) (c := body91) fits_nil mixed Go.Proofs.Tryd.func91 Go.Proofs.Tryd.call91 (by kernel_rfl) (by kernel_rfl) (by kernel_rfl) tie91

end Go.Sh

set_option linter.all false
namespace Go.Sh

theorem at1_mono {E : Env} {i : Int} {p1 p2 : Option Addr} {w : World} {K K' : Bool → World → Prop} (hk : ∀ b w', K b w' → K' b w') (h : F.stretch_Set_at_1 E i p1 p2 K w) : F.stretch_Set_at_1 E i p1 p2 K' w := by
  unfold F.stretch_Set_at_1 at h ⊢
  obtain ⟨q1, rfl, x2, h2, h⟩ := NC_elim h
  obtain ⟨q3, rfl, x4, h4, h⟩ := NC_elim h
  obtain ⟨q5, h5, hi, x6, h6, h⟩ := NC_elim h
  obtain ⟨q7, rfl, x8, h8, h⟩ := NC_elim h
  refine ⟨some q3, h2, x4, h4, ?_⟩
  rw [h5]
  exact ⟨hi, x6, h6, x8, h8, hk _ _ h⟩

theorem ground_mono {P : Program} (g : FuncId) (args : Array Value) (w : World) (K K' : Value → World → Prop) (hk : ∀ v w', K v w' → K' v w') (h : ground P g args w K noP) : ground P g args w K' noP :=
  ⟨h.1, h.2.mono fun e w' hE => let ⟨v, hv, h⟩ := hE.val; .inl ⟨v, hv, hk v w' h⟩⟩

end Go.Sh

set_option linter.all false
namespace Go.Sh
open Go.Proofs

theorem envS : EnvS env where
  at1 := by
    intro i p1 p2 K w h
    refine ⟨(fits67 #[.int .i64 i, .pointer p1, .pointer p2] w (fun v w' => ∃ b, v = .bool b ∧ K b w') noP ?_).1, (fits67 #[.int .i64 i, .pointer p1, .pointer p2] w (fun v w' => ∃ b, v = .bool b ∧ K b w') noP ?_).2⟩ <;>
    exact (show F.stretch_Set_at_1 env i p1 p2 (fun b w' => ∃ b', Value.bool b = .bool b' ∧ K b' w') w from at1_mono (fun b w' h => ⟨b, rfl, h⟩) h)
  mono := ground_mono

end Go.Sh
