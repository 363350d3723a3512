/- Each shallow form is what the code of its function comes to. No further condition. -/
import Derived.Test.YtelbllakgljffaaF
import Derived.Test.YtelbllakgljffaaProg
import Derived.KernelRfl
import Derived.Test.YtelbllakgljffaaS
import Derived.Test.YtelbllakgljffaaA
import Derived.Calls
set_option linter.all false
set_option maxRecDepth 100000
set_option maxHeartbeats 4000000
namespace Go.Sh
open Go.Proofs

theorem mixed : Go.Proofs.Try.prog.follows .mixedOrders = true := by kernel_rfl
noncomputable def env : Env := { call := ground Go.Proofs.Try.prog, t_uint64 := 23, t_bool := 4, t_api_Answers := 28, t_vmem_Mem := 63, t__stretch_Set := 97, t_stretch_One := 76, t_vmem_fault := 99, t_api_Errno := 29, t__1024_uint64 := 100, t_mallowref3_Mem := 90, t_mallowref3_Page := 92, t_mallowref3_Word := 94, t_mallowlaw3_Act := 49, t_int := 3, f_stretch_Set_at_1 := 63 }

/- F.slices_Clone___uint64_uint64_ -/
noncomputable def C26 : Entry := fun args w K Kp => unArgs [.one (.sl)] args.toList fun x => F.slices_Clone___uint64_uint64_ env x.1 (fun r1 w' => K (.slice r1.base r1.len r1.cap) w') w
noncomputable def body26 : Code := (Go.Proofs.Try.f26.body).getD .skip
def ann26 : Ann := { loops := [], joins := [] }
theorem tie26 (x : ArgsV [.one (.sl)]) (K Kp : Value → World → Prop) (w : World) : F.slices_Clone___uint64_uint64_ env x.1 (fun r1 w' => K (.slice r1.base r1.len r1.cap) w') w =
    ev Go.Proofs.Try.prog (tabC []) (ground Go.Proofs.Try.prog) ann26 body26 (finQ Go.Proofs.Try.prog Go.Proofs.Try.f26 K Kp) (initF (mkArgs [.one (.sl)] x)) w := by kernel_rfl
theorem fits26 : FitsOne Go.Proofs.Try.prog 26 C26 :=
  fits_of_tie (T := []) (A := ann26) (fn := Go.Proofs.Try.f26) (c := body26) fits_nil mixed Go.Proofs.Try.func26 Go.Proofs.Try.call26 (by kernel_rfl) (by kernel_rfl) (by kernel_rfl) tie26

/- F.slices_Clone___bool_bool_ -/
noncomputable def C27 : Entry := fun args w K Kp => unArgs [.one (.sl)] args.toList fun x => F.slices_Clone___bool_bool_ env x.1 (fun r1 w' => K (.slice r1.base r1.len r1.cap) w') w
noncomputable def body27 : Code := (Go.Proofs.Try.f27.body).getD .skip
def ann27 : Ann := { loops := [], joins := [] }
theorem tie27 (x : ArgsV [.one (.sl)]) (K Kp : Value → World → Prop) (w : World) : F.slices_Clone___bool_bool_ env x.1 (fun r1 w' => K (.slice r1.base r1.len r1.cap) w') w =
    ev Go.Proofs.Try.prog (tabC []) (ground Go.Proofs.Try.prog) ann27 body27 (finQ Go.Proofs.Try.prog Go.Proofs.Try.f27 K Kp) (initF (mkArgs [.one (.sl)] x)) w := by kernel_rfl
theorem fits27 : FitsOne Go.Proofs.Try.prog 27 C27 :=
  fits_of_tie (T := []) (A := ann27) (fn := Go.Proofs.Try.f27) (c := body27) fits_nil mixed Go.Proofs.Try.func27 Go.Proofs.Try.call27 (by kernel_rfl) (by kernel_rfl) (by kernel_rfl) tie27

/- F.vmem_New -/
noncomputable def C11 : Entry := fun args w K Kp => unArgs [.agg [.sl, .sl, .sl]] args.toList fun x => F.vmem_New env x.1.1 x.1.2.1 x.1.2.2.1 (fun r1 w' => K (.pointer r1) w') w
noncomputable def body11 : Code := (Go.Proofs.Try.f11.body).getD .skip
def ann11 : Ann := { loops := [], joins := [] }
def T0.vmem_New (E : Env) (c_slices_Clone___uint64_uint64_ : ∀ (a0 : SlV) (K : SlV → World → Prop) (w : World), Prop) (c_slices_Clone___bool_bool_ : ∀ (a0 : SlV) (K : SlV → World → Prop) (w : World), Prop) (a0_0 : SlV) (a0_1 : SlV) (a0_2 : SlV) (K : (Option Addr) → World → Prop) (w : World) : Prop :=
  AL (.cells #[.slice a0_0.base a0_0.len a0_0.cap, .slice a0_1.base a0_1.len a0_1.cap, .slice a0_2.base a0_2.len a0_2.cap] E.t_api_Answers) w fun b1 w2 =>
  ∃ x3 : SlV, w2.drew.cell? (Addr.mk b1 0 none) = some (.slice x3.base x3.len x3.cap) ∧
  ∃ x4 : SlV, w2.drew.cell? ((Addr.mk b1 0 none).add 1) = some (.slice x4.base x4.len x4.cap) ∧
  ∃ x5 : SlV, w2.drew.cell? ((Addr.mk b1 0 none).add 2) = some (.slice x5.base x5.len x5.cap) ∧
  (
    c_slices_Clone___uint64_uint64_ x3 (fun r6 w7 =>
    w7.cell? ((Addr.mk b1 0 none).add 2) = some (.slice x5.base x5.len x5.cap) ∧
    w7.cell? ((Addr.mk b1 0 none).add 1) = some (.slice x4.base x4.len x4.cap) ∧
    (
      c_slices_Clone___bool_bool_ x4 (fun r8 w9 =>
      w9.cell? ((Addr.mk b1 0 none).add 2) = some (.slice x5.base x5.len x5.cap) ∧
      (
        c_slices_Clone___uint64_uint64_ x5 (fun r10 w11 =>
        (
          AL (.map #[] 0) w11 fun b12 w13 =>
          AL (.map #[] 0) w13 fun b14 w15 =>
          AL (.cells #[.slice r6.base r6.len r6.cap, .slice r8.base r8.len r8.cap, .slice r10.base r10.len r10.cap, .slice none 0 0, .int .u64 0, .slice none 0 0, .int .u64 0, .slice none 0 0, .int .u64 0, .map (some b12), .map (some b14)] E.t_vmem_Mem) w15 fun b16 w17 =>
          K (some (Addr.mk b16 0 none)) w17

        ) ∧ (
          AL (.map #[] 0) w11 fun b18 w19 =>
          AL (.map #[] 0) w19 fun b20 w21 =>
          AL (.cells #[.slice r6.base r6.len r6.cap, .slice r8.base r8.len r8.cap, .slice r10.base r10.len r10.cap, .slice none 0 0, .int .u64 0, .slice none 0 0, .int .u64 0, .slice none 0 0, .int .u64 0, .map (some b20), .map (some b18)] E.t_vmem_Mem) w21 fun b22 w23 =>
          K (some (Addr.mk b22 0 none)) w23
        )
        ) w9

      ) ∧ (
        AL (.map #[] 0) w9 fun b24 w25 =>
        w25.cell? ((Addr.mk b1 0 none).add 2) = some (.slice x5.base x5.len x5.cap) ∧
        (
          c_slices_Clone___uint64_uint64_ x5 (fun r26 w27 =>
          AL (.map #[] 0) w27 fun b28 w29 =>
          AL (.cells #[.slice r6.base r6.len r6.cap, .slice r8.base r8.len r8.cap, .slice r26.base r26.len r26.cap, .slice none 0 0, .int .u64 0, .slice none 0 0, .int .u64 0, .slice none 0 0, .int .u64 0, .map (some b24), .map (some b28)] E.t_vmem_Mem) w29 fun b30 w31 =>
          K (some (Addr.mk b30 0 none)) w31
          ) w25

        ) ∧ (
          AL (.map #[] 0) w25 fun b32 w33 =>
          w33.cell? ((Addr.mk b1 0 none).add 2) = some (.slice x5.base x5.len x5.cap) ∧
          c_slices_Clone___uint64_uint64_ x5 (fun r34 w35 =>
          AL (.cells #[.slice r6.base r6.len r6.cap, .slice r8.base r8.len r8.cap, .slice r34.base r34.len r34.cap, .slice none 0 0, .int .u64 0, .slice none 0 0, .int .u64 0, .slice none 0 0, .int .u64 0, .map (some b24), .map (some b32)] E.t_vmem_Mem) w35 fun b36 w37 =>
          K (some (Addr.mk b36 0 none)) w37
          ) w33
        )

      ) ∧ (
        AL (.map #[] 0) w9 fun b38 w39 =>
        w39.cell? ((Addr.mk b1 0 none).add 2) = some (.slice x5.base x5.len x5.cap) ∧
        (
          c_slices_Clone___uint64_uint64_ x5 (fun r40 w41 =>
          AL (.map #[] 0) w41 fun b42 w43 =>
          AL (.cells #[.slice r6.base r6.len r6.cap, .slice r8.base r8.len r8.cap, .slice r40.base r40.len r40.cap, .slice none 0 0, .int .u64 0, .slice none 0 0, .int .u64 0, .slice none 0 0, .int .u64 0, .map (some b42), .map (some b38)] E.t_vmem_Mem) w43 fun b44 w45 =>
          K (some (Addr.mk b44 0 none)) w45
          ) w39

        ) ∧ (
          AL (.map #[] 0) w39 fun b46 w47 =>
          w47.cell? ((Addr.mk b1 0 none).add 2) = some (.slice x5.base x5.len x5.cap) ∧
          c_slices_Clone___uint64_uint64_ x5 (fun r48 w49 =>
          AL (.cells #[.slice r6.base r6.len r6.cap, .slice r8.base r8.len r8.cap, .slice r48.base r48.len r48.cap, .slice none 0 0, .int .u64 0, .slice none 0 0, .int .u64 0, .slice none 0 0, .int .u64 0, .map (some b46), .map (some b38)] E.t_vmem_Mem) w49 fun b50 w51 =>
          K (some (Addr.mk b50 0 none)) w51
          ) w47
        )
      )
      ) w7

    ) ∧ (
      AL (.map #[] 0) w7 fun b52 w53 =>
      w53.cell? ((Addr.mk b1 0 none).add 2) = some (.slice x5.base x5.len x5.cap) ∧
      w53.cell? ((Addr.mk b1 0 none).add 1) = some (.slice x4.base x4.len x4.cap) ∧
      (
        c_slices_Clone___bool_bool_ x4 (fun r54 w55 =>
        w55.cell? ((Addr.mk b1 0 none).add 2) = some (.slice x5.base x5.len x5.cap) ∧
        (
          c_slices_Clone___uint64_uint64_ x5 (fun r56 w57 =>
          AL (.map #[] 0) w57 fun b58 w59 =>
          AL (.cells #[.slice r6.base r6.len r6.cap, .slice r54.base r54.len r54.cap, .slice r56.base r56.len r56.cap, .slice none 0 0, .int .u64 0, .slice none 0 0, .int .u64 0, .slice none 0 0, .int .u64 0, .map (some b52), .map (some b58)] E.t_vmem_Mem) w59 fun b60 w61 =>
          K (some (Addr.mk b60 0 none)) w61
          ) w55

        ) ∧ (
          AL (.map #[] 0) w55 fun b62 w63 =>
          w63.cell? ((Addr.mk b1 0 none).add 2) = some (.slice x5.base x5.len x5.cap) ∧
          c_slices_Clone___uint64_uint64_ x5 (fun r64 w65 =>
          AL (.cells #[.slice r6.base r6.len r6.cap, .slice r54.base r54.len r54.cap, .slice r64.base r64.len r64.cap, .slice none 0 0, .int .u64 0, .slice none 0 0, .int .u64 0, .slice none 0 0, .int .u64 0, .map (some b52), .map (some b62)] E.t_vmem_Mem) w65 fun b66 w67 =>
          K (some (Addr.mk b66 0 none)) w67
          ) w63
        )
        ) w53

      ) ∧ (
        AL (.map #[] 0) w53 fun b68 w69 =>
        w69.cell? ((Addr.mk b1 0 none).add 2) = some (.slice x5.base x5.len x5.cap) ∧
        w69.cell? ((Addr.mk b1 0 none).add 1) = some (.slice x4.base x4.len x4.cap) ∧
        c_slices_Clone___bool_bool_ x4 (fun r70 w71 =>
        w71.cell? ((Addr.mk b1 0 none).add 2) = some (.slice x5.base x5.len x5.cap) ∧
        c_slices_Clone___uint64_uint64_ x5 (fun r72 w73 =>
        AL (.cells #[.slice r6.base r6.len r6.cap, .slice r70.base r70.len r70.cap, .slice r72.base r72.len r72.cap, .slice none 0 0, .int .u64 0, .slice none 0 0, .int .u64 0, .slice none 0 0, .int .u64 0, .map (some b52), .map (some b68)] E.t_vmem_Mem) w73 fun b74 w75 =>
        K (some (Addr.mk b74 0 none)) w75
        ) w71
        ) w69
      )

    ) ∧ (
      AL (.map #[] 0) w7 fun b76 w77 =>
      w77.cell? ((Addr.mk b1 0 none).add 2) = some (.slice x5.base x5.len x5.cap) ∧
      w77.cell? ((Addr.mk b1 0 none).add 1) = some (.slice x4.base x4.len x4.cap) ∧
      (
        c_slices_Clone___bool_bool_ x4 (fun r78 w79 =>
        w79.cell? ((Addr.mk b1 0 none).add 2) = some (.slice x5.base x5.len x5.cap) ∧
        (
          c_slices_Clone___uint64_uint64_ x5 (fun r80 w81 =>
          AL (.map #[] 0) w81 fun b82 w83 =>
          AL (.cells #[.slice r6.base r6.len r6.cap, .slice r78.base r78.len r78.cap, .slice r80.base r80.len r80.cap, .slice none 0 0, .int .u64 0, .slice none 0 0, .int .u64 0, .slice none 0 0, .int .u64 0, .map (some b82), .map (some b76)] E.t_vmem_Mem) w83 fun b84 w85 =>
          K (some (Addr.mk b84 0 none)) w85
          ) w79

        ) ∧ (
          AL (.map #[] 0) w79 fun b86 w87 =>
          w87.cell? ((Addr.mk b1 0 none).add 2) = some (.slice x5.base x5.len x5.cap) ∧
          c_slices_Clone___uint64_uint64_ x5 (fun r88 w89 =>
          AL (.cells #[.slice r6.base r6.len r6.cap, .slice r78.base r78.len r78.cap, .slice r88.base r88.len r88.cap, .slice none 0 0, .int .u64 0, .slice none 0 0, .int .u64 0, .slice none 0 0, .int .u64 0, .map (some b86), .map (some b76)] E.t_vmem_Mem) w89 fun b90 w91 =>
          K (some (Addr.mk b90 0 none)) w91
          ) w87
        )
        ) w77

      ) ∧ (
        AL (.map #[] 0) w77 fun b92 w93 =>
        w93.cell? ((Addr.mk b1 0 none).add 2) = some (.slice x5.base x5.len x5.cap) ∧
        w93.cell? ((Addr.mk b1 0 none).add 1) = some (.slice x4.base x4.len x4.cap) ∧
        c_slices_Clone___bool_bool_ x4 (fun r94 w95 =>
        w95.cell? ((Addr.mk b1 0 none).add 2) = some (.slice x5.base x5.len x5.cap) ∧
        c_slices_Clone___uint64_uint64_ x5 (fun r96 w97 =>
        AL (.cells #[.slice r6.base r6.len r6.cap, .slice r94.base r94.len r94.cap, .slice r96.base r96.len r96.cap, .slice none 0 0, .int .u64 0, .slice none 0 0, .int .u64 0, .slice none 0 0, .int .u64 0, .map (some b92), .map (some b76)] E.t_vmem_Mem) w97 fun b98 w99 =>
        K (some (Addr.mk b98 0 none)) w99
        ) w95
        ) w93
      )
    )
    ) w2.drew

  ) ∧ (
    AL (.map #[] 0) w2.drew fun b100 w101 =>
    w101.cell? ((Addr.mk b1 0 none).add 2) = some (.slice x5.base x5.len x5.cap) ∧
    w101.cell? ((Addr.mk b1 0 none).add 1) = some (.slice x4.base x4.len x4.cap) ∧
    w101.cell? (Addr.mk b1 0 none) = some (.slice x3.base x3.len x3.cap) ∧
    (
      c_slices_Clone___uint64_uint64_ x3 (fun r102 w103 =>
      w103.cell? ((Addr.mk b1 0 none).add 2) = some (.slice x5.base x5.len x5.cap) ∧
      w103.cell? ((Addr.mk b1 0 none).add 1) = some (.slice x4.base x4.len x4.cap) ∧
      (
        c_slices_Clone___bool_bool_ x4 (fun r104 w105 =>
        w105.cell? ((Addr.mk b1 0 none).add 2) = some (.slice x5.base x5.len x5.cap) ∧
        (
          c_slices_Clone___uint64_uint64_ x5 (fun r106 w107 =>
          AL (.map #[] 0) w107 fun b108 w109 =>
          AL (.cells #[.slice r102.base r102.len r102.cap, .slice r104.base r104.len r104.cap, .slice r106.base r106.len r106.cap, .slice none 0 0, .int .u64 0, .slice none 0 0, .int .u64 0, .slice none 0 0, .int .u64 0, .map (some b100), .map (some b108)] E.t_vmem_Mem) w109 fun b110 w111 =>
          K (some (Addr.mk b110 0 none)) w111
          ) w105

        ) ∧ (
          AL (.map #[] 0) w105 fun b112 w113 =>
          w113.cell? ((Addr.mk b1 0 none).add 2) = some (.slice x5.base x5.len x5.cap) ∧
          c_slices_Clone___uint64_uint64_ x5 (fun r114 w115 =>
          AL (.cells #[.slice r102.base r102.len r102.cap, .slice r104.base r104.len r104.cap, .slice r114.base r114.len r114.cap, .slice none 0 0, .int .u64 0, .slice none 0 0, .int .u64 0, .slice none 0 0, .int .u64 0, .map (some b100), .map (some b112)] E.t_vmem_Mem) w115 fun b116 w117 =>
          K (some (Addr.mk b116 0 none)) w117
          ) w113
        )
        ) w103

      ) ∧ (
        AL (.map #[] 0) w103 fun b118 w119 =>
        w119.cell? ((Addr.mk b1 0 none).add 2) = some (.slice x5.base x5.len x5.cap) ∧
        w119.cell? ((Addr.mk b1 0 none).add 1) = some (.slice x4.base x4.len x4.cap) ∧
        c_slices_Clone___bool_bool_ x4 (fun r120 w121 =>
        w121.cell? ((Addr.mk b1 0 none).add 2) = some (.slice x5.base x5.len x5.cap) ∧
        c_slices_Clone___uint64_uint64_ x5 (fun r122 w123 =>
        AL (.cells #[.slice r102.base r102.len r102.cap, .slice r120.base r120.len r120.cap, .slice r122.base r122.len r122.cap, .slice none 0 0, .int .u64 0, .slice none 0 0, .int .u64 0, .slice none 0 0, .int .u64 0, .map (some b100), .map (some b118)] E.t_vmem_Mem) w123 fun b124 w125 =>
        K (some (Addr.mk b124 0 none)) w125
        ) w121
        ) w119
      )
      ) w101

    ) ∧ (
      AL (.map #[] 0) w101 fun b126 w127 =>
      w127.cell? ((Addr.mk b1 0 none).add 2) = some (.slice x5.base x5.len x5.cap) ∧
      w127.cell? ((Addr.mk b1 0 none).add 1) = some (.slice x4.base x4.len x4.cap) ∧
      w127.cell? (Addr.mk b1 0 none) = some (.slice x3.base x3.len x3.cap) ∧
      c_slices_Clone___uint64_uint64_ x3 (fun r128 w129 =>
      w129.cell? ((Addr.mk b1 0 none).add 2) = some (.slice x5.base x5.len x5.cap) ∧
      w129.cell? ((Addr.mk b1 0 none).add 1) = some (.slice x4.base x4.len x4.cap) ∧
      c_slices_Clone___bool_bool_ x4 (fun r130 w131 =>
      w131.cell? ((Addr.mk b1 0 none).add 2) = some (.slice x5.base x5.len x5.cap) ∧
      c_slices_Clone___uint64_uint64_ x5 (fun r132 w133 =>
      AL (.cells #[.slice r128.base r128.len r128.cap, .slice r130.base r130.len r130.cap, .slice r132.base r132.len r132.cap, .slice none 0 0, .int .u64 0, .slice none 0 0, .int .u64 0, .slice none 0 0, .int .u64 0, .map (some b100), .map (some b126)] E.t_vmem_Mem) w133 fun b134 w135 =>
      K (some (Addr.mk b134 0 none)) w135
      ) w131
      ) w129
      ) w127
    )

  ) ∧ (
    AL (.map #[] 0) w2.drew fun b136 w137 =>
    w137.cell? ((Addr.mk b1 0 none).add 2) = some (.slice x5.base x5.len x5.cap) ∧
    w137.cell? ((Addr.mk b1 0 none).add 1) = some (.slice x4.base x4.len x4.cap) ∧
    w137.cell? (Addr.mk b1 0 none) = some (.slice x3.base x3.len x3.cap) ∧
    (
      c_slices_Clone___uint64_uint64_ x3 (fun r138 w139 =>
      w139.cell? ((Addr.mk b1 0 none).add 2) = some (.slice x5.base x5.len x5.cap) ∧
      w139.cell? ((Addr.mk b1 0 none).add 1) = some (.slice x4.base x4.len x4.cap) ∧
      (
        c_slices_Clone___bool_bool_ x4 (fun r140 w141 =>
        w141.cell? ((Addr.mk b1 0 none).add 2) = some (.slice x5.base x5.len x5.cap) ∧
        (
          c_slices_Clone___uint64_uint64_ x5 (fun r142 w143 =>
          AL (.map #[] 0) w143 fun b144 w145 =>
          AL (.cells #[.slice r138.base r138.len r138.cap, .slice r140.base r140.len r140.cap, .slice r142.base r142.len r142.cap, .slice none 0 0, .int .u64 0, .slice none 0 0, .int .u64 0, .slice none 0 0, .int .u64 0, .map (some b144), .map (some b136)] E.t_vmem_Mem) w145 fun b146 w147 =>
          K (some (Addr.mk b146 0 none)) w147
          ) w141

        ) ∧ (
          AL (.map #[] 0) w141 fun b148 w149 =>
          w149.cell? ((Addr.mk b1 0 none).add 2) = some (.slice x5.base x5.len x5.cap) ∧
          c_slices_Clone___uint64_uint64_ x5 (fun r150 w151 =>
          AL (.cells #[.slice r138.base r138.len r138.cap, .slice r140.base r140.len r140.cap, .slice r150.base r150.len r150.cap, .slice none 0 0, .int .u64 0, .slice none 0 0, .int .u64 0, .slice none 0 0, .int .u64 0, .map (some b148), .map (some b136)] E.t_vmem_Mem) w151 fun b152 w153 =>
          K (some (Addr.mk b152 0 none)) w153
          ) w149
        )
        ) w139

      ) ∧ (
        AL (.map #[] 0) w139 fun b154 w155 =>
        w155.cell? ((Addr.mk b1 0 none).add 2) = some (.slice x5.base x5.len x5.cap) ∧
        w155.cell? ((Addr.mk b1 0 none).add 1) = some (.slice x4.base x4.len x4.cap) ∧
        c_slices_Clone___bool_bool_ x4 (fun r156 w157 =>
        w157.cell? ((Addr.mk b1 0 none).add 2) = some (.slice x5.base x5.len x5.cap) ∧
        c_slices_Clone___uint64_uint64_ x5 (fun r158 w159 =>
        AL (.cells #[.slice r138.base r138.len r138.cap, .slice r156.base r156.len r156.cap, .slice r158.base r158.len r158.cap, .slice none 0 0, .int .u64 0, .slice none 0 0, .int .u64 0, .slice none 0 0, .int .u64 0, .map (some b154), .map (some b136)] E.t_vmem_Mem) w159 fun b160 w161 =>
        K (some (Addr.mk b160 0 none)) w161
        ) w157
        ) w155
      )
      ) w137

    ) ∧ (
      AL (.map #[] 0) w137 fun b162 w163 =>
      w163.cell? ((Addr.mk b1 0 none).add 2) = some (.slice x5.base x5.len x5.cap) ∧
      w163.cell? ((Addr.mk b1 0 none).add 1) = some (.slice x4.base x4.len x4.cap) ∧
      w163.cell? (Addr.mk b1 0 none) = some (.slice x3.base x3.len x3.cap) ∧
      c_slices_Clone___uint64_uint64_ x3 (fun r164 w165 =>
      w165.cell? ((Addr.mk b1 0 none).add 2) = some (.slice x5.base x5.len x5.cap) ∧
      w165.cell? ((Addr.mk b1 0 none).add 1) = some (.slice x4.base x4.len x4.cap) ∧
      c_slices_Clone___bool_bool_ x4 (fun r166 w167 =>
      w167.cell? ((Addr.mk b1 0 none).add 2) = some (.slice x5.base x5.len x5.cap) ∧
      c_slices_Clone___uint64_uint64_ x5 (fun r168 w169 =>
      AL (.cells #[.slice r164.base r164.len r164.cap, .slice r166.base r166.len r166.cap, .slice r168.base r168.len r168.cap, .slice none 0 0, .int .u64 0, .slice none 0 0, .int .u64 0, .slice none 0 0, .int .u64 0, .map (some b162), .map (some b136)] E.t_vmem_Mem) w169 fun b170 w171 =>
      K (some (Addr.mk b170 0 none)) w171
      ) w167
      ) w165
      ) w163
    )
  )

theorem tieZ11 (c_slices_Clone___uint64_uint64_ : ∀ (a0 : SlV) (K : SlV → World → Prop) (w : World), Prop) (c_slices_Clone___bool_bool_ : ∀ (a0 : SlV) (K : SlV → World → Prop) (w : World), Prop) (x : ArgsV [.agg [.sl, .sl, .sl]]) (K Kp : Value → World → Prop) (w : World) : T0.vmem_New env c_slices_Clone___uint64_uint64_ c_slices_Clone___bool_bool_ x.1.1 x.1.2.1 x.1.2.2.1 (fun r1 w' => K (.pointer r1) w') w =
    ev Go.Proofs.Try.prog (tabC [(26, fun args w K Kp => unArgs [.one (.sl)] args.toList fun x => c_slices_Clone___uint64_uint64_ x.1 (fun r1 w' => K (.slice r1.base r1.len r1.cap) w') w), (27, fun args w K Kp => unArgs [.one (.sl)] args.toList fun x => c_slices_Clone___bool_bool_ x.1 (fun r1 w' => K (.slice r1.base r1.len r1.cap) w') w)]) (ground Go.Proofs.Try.prog) ann11 body11 (finQ Go.Proofs.Try.prog Go.Proofs.Try.f11 K Kp) (initF (mkArgs [.agg [.sl, .sl, .sl]] x)) w := by kernel_rfl
theorem tie11 (x : ArgsV [.agg [.sl, .sl, .sl]]) (K Kp : Value → World → Prop) (w : World) : F.vmem_New env x.1.1 x.1.2.1 x.1.2.2.1 (fun r1 w' => K (.pointer r1) w') w =
    ev Go.Proofs.Try.prog (tabC [(26, C26), (27, C27)]) (ground Go.Proofs.Try.prog) ann11 body11 (finQ Go.Proofs.Try.prog Go.Proofs.Try.f11 K Kp) (initF (mkArgs [.agg [.sl, .sl, .sl]] x)) w := tieZ11 (F.slices_Clone___uint64_uint64_ env) (F.slices_Clone___bool_bool_ env) x K Kp w
theorem fits11 : FitsOne Go.Proofs.Try.prog 11 C11 :=
  fits_of_tie (T := [(26, C26), (27, C27)]) (A := ann11) (fn := Go.Proofs.Try.f11) (c := body11) (fits_cons fits26 (fits_cons fits27 fits_nil)) mixed Go.Proofs.Try.func11 Go.Proofs.Try.call11 (by kernel_rfl) (by kernel_rfl) (by kernel_rfl) tie11

/- F.vmem_used_bool_ -/
noncomputable def C28 : Entry := fun args w K Kp => unArgs [.one (.ptr)] args.toList fun x => F.vmem_used_bool_ env x.1 (fun r1 r2 w' => K (.tuple ⟨[.bool r1, .bool r2]⟩) w') w
noncomputable def body28 : Code := (Go.Proofs.Try.f28.body).getD .skip
def ann28 : Ann := { loops := [], joins := [] }
theorem tie28 (x : ArgsV [.one (.ptr)]) (K Kp : Value → World → Prop) (w : World) : F.vmem_used_bool_ env x.1 (fun r1 r2 w' => K (.tuple ⟨[.bool r1, .bool r2]⟩) w') w =
    ev Go.Proofs.Try.prog (tabC []) (ground Go.Proofs.Try.prog) ann28 body28 (finQ Go.Proofs.Try.prog Go.Proofs.Try.f28 K Kp) (initF (mkArgs [.one (.ptr)] x)) w := by kernel_rfl
theorem fits28 : FitsOne Go.Proofs.Try.prog 28 C28 :=
  fits_of_tie (T := []) (A := ann28) (fn := Go.Proofs.Try.f28) (c := body28) fits_nil mixed Go.Proofs.Try.func28 Go.Proofs.Try.call28 (by kernel_rfl) (by kernel_rfl) (by kernel_rfl) tie28

/- F.vmem_used_uint64_ -/
noncomputable def C29 : Entry := fun args w K Kp => unArgs [.one (.ptr)] args.toList fun x => F.vmem_used_uint64_ env x.1 (fun r1 r2 w' => K (.tuple ⟨[.int .u64 r1, .bool r2]⟩) w') w
noncomputable def body29 : Code := (Go.Proofs.Try.f29.body).getD .skip
def ann29 : Ann := { loops := [], joins := [] }
theorem tie29 (x : ArgsV [.one (.ptr)]) (K Kp : Value → World → Prop) (w : World) : F.vmem_used_uint64_ env x.1 (fun r1 r2 w' => K (.tuple ⟨[.int .u64 r1, .bool r2]⟩) w') w =
    ev Go.Proofs.Try.prog (tabC []) (ground Go.Proofs.Try.prog) ann29 body29 (finQ Go.Proofs.Try.prog Go.Proofs.Try.f29 K Kp) (initF (mkArgs [.one (.ptr)] x)) w := by kernel_rfl
theorem fits29 : FitsOne Go.Proofs.Try.prog 29 C29 :=
  fits_of_tie (T := []) (A := ann29) (fn := Go.Proofs.Try.f29) (c := body29) fits_nil mixed Go.Proofs.Try.func29 Go.Proofs.Try.call29 (by kernel_rfl) (by kernel_rfl) (by kernel_rfl) tie29

/- F.sort_Search -/
noncomputable def C62 : Entry := fun args w K Kp => unArgs [.one (.int .i64), .one (.any)] args.toList fun x => F.sort_Search env x.1 x.2.1 (fun r1 w' => K (.int .i64 r1) w') w
noncomputable def body62 : Code := (Go.Proofs.Try.f62.body).getD .skip
def ann62 : Ann := { loops := [(2, [(5, .one (.int .i64)), (6, .one (.int .i64))])], joins := [] }
theorem tie62 (x : ArgsV [.one (.int .i64), .one (.any)]) (K Kp : Value → World → Prop) (w : World) : F.sort_Search env x.1 x.2.1 (fun r1 w' => K (.int .i64 r1) w') w =
    ev Go.Proofs.Try.prog (tabC []) (ground Go.Proofs.Try.prog) ann62 body62 (finQ Go.Proofs.Try.prog Go.Proofs.Try.f62 K Kp) (initF (mkArgs [.one (.int .i64), .one (.any)] x)) w := by kernel_rfl
theorem fits62 : FitsOne Go.Proofs.Try.prog 62 C62 :=
  fits_of_tie (T := []) (A := ann62) (fn := Go.Proofs.Try.f62) (c := body62) fits_nil mixed Go.Proofs.Try.func62 Go.Proofs.Try.call62 (by kernel_rfl) (by kernel_rfl) (by kernel_rfl) tie62

/- F.stretch_Set_at -/
noncomputable def C54 : Entry := fun args w K Kp => unArgs [.one (.ptr), .one (.int .u64)] args.toList fun x => F.stretch_Set_at env x.1 x.2.1 (fun r1 w' => K (.int .i64 r1) w') w
noncomputable def body54 : Code := (Go.Proofs.Try.f54.body).getD .skip
def ann54 : Ann := { loops := [], joins := [] }
def T0.stretch_Set_at (E : Env) (c_sort_Search : ∀ (a0 : Int) (a1 : Value) (K : Int → World → Prop) (w : World), Prop) (a0 : (Option Addr)) (a1 : Int) (K : Int → World → Prop) (w : World) : Prop :=
  AL (.cells #[.pointer a0] E.t__stretch_Set) w fun b1 w2 =>
  AL (.cells #[.int .u64 a1] E.t_uint64) w2 fun b3 w4 =>
  ∃ x5 : (Option Addr), w4.cell? (Addr.mk b1 0 none) = some (.pointer x5) ∧
  NC x5 fun p6 =>
  ∃ x7 : SlV, w4.cell? p6 = some (.slice x7.base x7.len x7.cap) ∧
  c_sort_Search ((x7.len : Nat) : Int) (.func (.func E.f_stretch_Set_at_1) #[] #[.pointer (some (Addr.mk b1 0 none)), .pointer (some (Addr.mk b3 0 none))]) (fun r8 w9 =>
  K r8 w9
  ) w4

theorem tieZ54 (c_sort_Search : ∀ (a0 : Int) (a1 : Value) (K : Int → World → Prop) (w : World), Prop) (x : ArgsV [.one (.ptr), .one (.int .u64)]) (K Kp : Value → World → Prop) (w : World) : T0.stretch_Set_at env c_sort_Search x.1 x.2.1 (fun r1 w' => K (.int .i64 r1) w') w =
    ev Go.Proofs.Try.prog (tabC [(62, fun args w K Kp => unArgs [.one (.int .i64), .one (.any)] args.toList fun x => c_sort_Search x.1 x.2.1 (fun r1 w' => K (.int .i64 r1) w') w)]) (ground Go.Proofs.Try.prog) ann54 body54 (finQ Go.Proofs.Try.prog Go.Proofs.Try.f54 K Kp) (initF (mkArgs [.one (.ptr), .one (.int .u64)] x)) w := by kernel_rfl
theorem tie54 (x : ArgsV [.one (.ptr), .one (.int .u64)]) (K Kp : Value → World → Prop) (w : World) : F.stretch_Set_at env x.1 x.2.1 (fun r1 w' => K (.int .i64 r1) w') w =
    ev Go.Proofs.Try.prog (tabC [(62, C62)]) (ground Go.Proofs.Try.prog) ann54 body54 (finQ Go.Proofs.Try.prog Go.Proofs.Try.f54 K Kp) (initF (mkArgs [.one (.ptr), .one (.int .u64)] x)) w := tieZ54 (F.sort_Search env) x K Kp w
theorem fits54 : FitsOne Go.Proofs.Try.prog 54 C54 :=
  fits_of_tie (T := [(62, C62)]) (A := ann54) (fn := Go.Proofs.Try.f54) (c := body54) (fits_cons fits62 fits_nil) mixed Go.Proofs.Try.func54 Go.Proofs.Try.call54 (by kernel_rfl) (by kernel_rfl) (by kernel_rfl) tie54

/- F.stretch_Set_Count -/
noncomputable def C34 : Entry := fun args w K Kp => unArgs [.one (.ptr), .one (.int .u64), .one (.int .u64)] args.toList fun x => F.stretch_Set_Count env x.1 x.2.1 x.2.2.1 (fun r1 w' => K (.int .u64 r1) w') w
noncomputable def body34 : Code := (Go.Proofs.Try.f34.body).getD .skip
def ann34 : Ann := { loops := [(3, [(7, .one (.int .u64)), (8, .one (.int .i64))])], joins := [] }
def T0.stretch_Set_Count (E : Env) (c_stretch_Set_at : ∀ (a0 : (Option Addr)) (a1 : Int) (K : Int → World → Prop) (w : World), Prop) (a0 : (Option Addr)) (a1 : Int) (a2 : Int) (K : Int → World → Prop) (w : World) : Prop :=
  c_stretch_Set_at a0 a1 (fun r1 w2 =>
  LOOP (Int × Int × Unit) (0, r1, ()) w2 fun s3 _ w4 next5 =>
    NC a0 fun p6 =>
    ∃ x7 : SlV, w4.cell? p6 = some (.slice x7.base x7.len x7.cap) ∧
    CND (decide ((s3.2.1 : Int) < ((x7.len : Nat) : Int))) (
      NC a0 fun p8 =>
      ∃ x9 : SlV, w4.cell? p8 = some (.slice x9.base x9.len x9.cap) ∧
      NC x9.base fun p10 =>
      ((0 : Int) ≤ s3.2.1 ∧ (s3.2.1 : Int) < (x9.len : Nat)) ∧
      ∃ x11 : Int, w4.cell? (p10.add (Int.toNat s3.2.1 * 2)) = some (.int .u64 x11) ∧
      CND (decide ((x11 : Int) < a2)) (
        NC a0 fun p12 =>
        ∃ x13 : SlV, w4.drew.cell? p12 = some (.slice x13.base x13.len x13.cap) ∧
        NC x13.base fun p14 =>
        ((0 : Int) ≤ s3.2.1 ∧ (s3.2.1 : Int) < (x13.len : Nat)) ∧
        ∃ x15 : Int, w4.drew.cell? ((p14.add (Int.toNat s3.2.1 * 2)).add 1) = some (.int .u64 x15) ∧
        NC a0 fun p16 =>
        ∃ x17 : SlV, w4.drew.cell? p16 = some (.slice x17.base x17.len x17.cap) ∧
        NC x17.base fun p18 =>
        ((0 : Int) ≤ s3.2.1 ∧ (s3.2.1 : Int) < (x17.len : Nat)) ∧
        ∃ x19 : Int, w4.drew.cell? (p18.add (Int.toNat s3.2.1 * 2)) = some (.int .u64 x19) ∧
        LET (u64 (s3.1 + (u64 ((minI x15 a2) - (maxI x19 a1)))) : Int) fun n_20 =>
        next5 (n_20, i64 (s3.2.1 + 1), ()) w4.drew
      ) (
        K s3.1 w4
      )
    ) (
      K s3.1 w4
    )
  ) w

theorem tieZ34 (c_stretch_Set_at : ∀ (a0 : (Option Addr)) (a1 : Int) (K : Int → World → Prop) (w : World), Prop) (x : ArgsV [.one (.ptr), .one (.int .u64), .one (.int .u64)]) (K Kp : Value → World → Prop) (w : World) : T0.stretch_Set_Count env c_stretch_Set_at x.1 x.2.1 x.2.2.1 (fun r1 w' => K (.int .u64 r1) w') w =
    ev Go.Proofs.Try.prog (tabC [(54, fun args w K Kp => unArgs [.one (.ptr), .one (.int .u64)] args.toList fun x => c_stretch_Set_at x.1 x.2.1 (fun r1 w' => K (.int .i64 r1) w') w)]) (ground Go.Proofs.Try.prog) ann34 body34 (finQ Go.Proofs.Try.prog Go.Proofs.Try.f34 K Kp) (initF (mkArgs [.one (.ptr), .one (.int .u64), .one (.int .u64)] x)) w := by kernel_rfl
theorem tie34 (x : ArgsV [.one (.ptr), .one (.int .u64), .one (.int .u64)]) (K Kp : Value → World → Prop) (w : World) : F.stretch_Set_Count env x.1 x.2.1 x.2.2.1 (fun r1 w' => K (.int .u64 r1) w') w =
    ev Go.Proofs.Try.prog (tabC [(54, C54)]) (ground Go.Proofs.Try.prog) ann34 body34 (finQ Go.Proofs.Try.prog Go.Proofs.Try.f34 K Kp) (initF (mkArgs [.one (.ptr), .one (.int .u64), .one (.int .u64)] x)) w := tieZ34 (F.stretch_Set_at env) x K Kp w
theorem fits34 : FitsOne Go.Proofs.Try.prog 34 C34 :=
  fits_of_tie (T := [(54, C54)]) (A := ann34) (fn := Go.Proofs.Try.f34) (c := body34) (fits_cons fits54 fits_nil) mixed Go.Proofs.Try.func34 Go.Proofs.Try.call34 (by kernel_rfl) (by kernel_rfl) (by kernel_rfl) tie34

/- F.vmem_Mem_fits -/
noncomputable def C30 : Entry := fun args w K Kp => unArgs [.one (.ptr), .one (.int .u64), .one (.int .u64)] args.toList fun x => F.vmem_Mem_fits env x.1 x.2.1 x.2.2.1 (fun r1 w' => K (.bool r1) w') w
noncomputable def body30 : Code := (Go.Proofs.Try.f30.body).getD .skip
def ann30 : Ann := { loops := [], joins := [] }
def T0.vmem_Mem_fits (E : Env) (c_stretch_Set_Count : ∀ (a0 : (Option Addr)) (a1 : Int) (a2 : Int) (K : Int → World → Prop) (w : World), Prop) (a0 : (Option Addr)) (a1 : Int) (a2 : Int) (K : Bool → World → Prop) (w : World) : Prop :=
  512 ≠ (0 : Int) ∧
  CND (((Int.tmod a1 512) : Int) == 0) (
    CND ((a1 : Int) != 0) (
      CND (decide ((a1 : Int) ≤ 34359738368)) (
        CND (decide ((a2 : Int) ≤ (u64 (34359738368 - a1)))) (
          NC a0 fun p1 =>
          c_stretch_Set_Count (some (p1.add 3)) a1 (u64 (a1 + a2)) (fun r2 w3 =>
          K ((r2 : Int) == 0) w3
          ) w
        ) (
          K false w
        )
      ) (
        K false w
      )
    ) (
      K false w
    )
  ) (
    K false w
  )

theorem tieZ30 (c_stretch_Set_Count : ∀ (a0 : (Option Addr)) (a1 : Int) (a2 : Int) (K : Int → World → Prop) (w : World), Prop) (x : ArgsV [.one (.ptr), .one (.int .u64), .one (.int .u64)]) (K Kp : Value → World → Prop) (w : World) : T0.vmem_Mem_fits env c_stretch_Set_Count x.1 x.2.1 x.2.2.1 (fun r1 w' => K (.bool r1) w') w =
    ev Go.Proofs.Try.prog (tabC [(34, fun args w K Kp => unArgs [.one (.ptr), .one (.int .u64), .one (.int .u64)] args.toList fun x => c_stretch_Set_Count x.1 x.2.1 x.2.2.1 (fun r1 w' => K (.int .u64 r1) w') w)]) (ground Go.Proofs.Try.prog) ann30 body30 (finQ Go.Proofs.Try.prog Go.Proofs.Try.f30 K Kp) (initF (mkArgs [.one (.ptr), .one (.int .u64), .one (.int .u64)] x)) w := by kernel_rfl
theorem tie30 (x : ArgsV [.one (.ptr), .one (.int .u64), .one (.int .u64)]) (K Kp : Value → World → Prop) (w : World) : F.vmem_Mem_fits env x.1 x.2.1 x.2.2.1 (fun r1 w' => K (.bool r1) w') w =
    ev Go.Proofs.Try.prog (tabC [(34, C34)]) (ground Go.Proofs.Try.prog) ann30 body30 (finQ Go.Proofs.Try.prog Go.Proofs.Try.f30 K Kp) (initF (mkArgs [.one (.ptr), .one (.int .u64), .one (.int .u64)] x)) w := tieZ30 (F.stretch_Set_Count env) x K Kp w
theorem fits30 : FitsOne Go.Proofs.Try.prog 30 C30 :=
  fits_of_tie (T := [(34, C34)]) (A := ann30) (fn := Go.Proofs.Try.f30) (c := body30) (fits_cons fits34 fits_nil) mixed Go.Proofs.Try.func30 Go.Proofs.Try.call30 (by kernel_rfl) (by kernel_rfl) (by kernel_rfl) tie30

/- F.stretch_Set_All -/
noncomputable def C53 : Entry := fun args w K Kp => unArgs [.one (.ptr)] args.toList fun x => F.stretch_Set_All env x.1 (fun r1 w' => K (.slice r1.base r1.len r1.cap) w') w
noncomputable def body53 : Code := (Go.Proofs.Try.f53.body).getD .skip
def ann53 : Ann := { loops := [], joins := [] }
theorem tie53 (x : ArgsV [.one (.ptr)]) (K Kp : Value → World → Prop) (w : World) : F.stretch_Set_All env x.1 (fun r1 w' => K (.slice r1.base r1.len r1.cap) w') w =
    ev Go.Proofs.Try.prog (tabC []) (ground Go.Proofs.Try.prog) ann53 body53 (finQ Go.Proofs.Try.prog Go.Proofs.Try.f53 K Kp) (initF (mkArgs [.one (.ptr)] x)) w := by kernel_rfl
theorem fits53 : FitsOne Go.Proofs.Try.prog 53 C53 :=
  fits_of_tie (T := []) (A := ann53) (fn := Go.Proofs.Try.f53) (c := body53) fits_nil mixed Go.Proofs.Try.func53 Go.Proofs.Try.call53 (by kernel_rfl) (by kernel_rfl) (by kernel_rfl) tie53

/- F.vmem_Mem_place -/
noncomputable def C31 : Entry := fun args w K Kp => unArgs [.one (.ptr), .one (.int .u64), .one (.int .u64)] args.toList fun x => F.vmem_Mem_place env x.1 x.2.1 x.2.2.1 (fun r1 r2 w' => K (.tuple ⟨[.int .u64 r1, .bool r2]⟩) w') w
noncomputable def body31 : Code := (Go.Proofs.Try.f31.body).getD .skip
def ann31 : Ann := { loops := [(5, [(8, .one (.int .u64)), (24, .one (.int .i64))])], joins := [(9, []), (11, [(8, .one (.int .u64))])] }
def T0.vmem_Mem_place (E : Env) (c_stretch_Set_All : ∀ (a0 : (Option Addr)) (K : SlV → World → Prop) (w : World), Prop) (c_vmem_Mem_fits : ∀ (a0 : (Option Addr)) (a1 : Int) (a2 : Int) (K : Bool → World → Prop) (w : World), Prop) (a0 : (Option Addr)) (a1 : Int) (a2 : Int) (K : Int → Bool → World → Prop) (w : World) : Prop :=
  CND (decide ((a1 : Int) > 34359738368)) (
    K 0 false w
  ) (
    512 ≠ (0 : Int) ∧
    LET (maxI (u64 ((u64 (Int.tdiv (u64 ((u64 (a1 + 512)) - 1)) 512)) * 512)) 512 : Int) fun at_1 =>
    JOIN (Int × Unit) (fun J2 =>
      NC a0 fun p5 =>
      c_stretch_Set_All (some (p5.add 3)) (fun r6 w7 =>
      LOOP (Int × Int × Unit) (at_1, 0, ()) w7 fun s8 _ w9 next10 =>
        CND (decide ((s8.2.1 : Int) < ((r6.len : Nat) : Int))) (
          NC r6.base fun p11 =>
          ((0 : Int) ≤ s8.2.1 ∧ (s8.2.1 : Int) < (r6.len : Nat)) ∧
          ∃ c12 : Int, w9.cell? ((p11.add (Int.toNat s8.2.1 * 2)).add 0) = some (.int .u64 c12) ∧
          ∃ c13 : Int, w9.cell? ((p11.add (Int.toNat s8.2.1 * 2)).add 1) = some (.int .u64 c13) ∧
          AL (.cells #[.int .u64 0, .int .u64 0] E.t_stretch_One) w9 fun b14 w15 =>
          stCells (Addr.mk b14 0 none) 0 [.int .u64 c12, .int .u64 c13] w15 fun w16 =>
          ∃ x17 : Int, w16.cell? ((Addr.mk b14 0 none).add 1) = some (.int .u64 x17) ∧
          CND (decide ((x17 : Int) ≤ s8.1)) (
            next10 (s8.1, i64 (s8.2.1 + 1), ()) w16
          ) (
            JOIN (Unit) (fun J18 =>
              ∃ x21 : Int, w16.cell? (Addr.mk b14 0 none) = some (.int .u64 x21) ∧
              CND (decide ((x21 : Int) ≥ s8.1)) (
                ∃ x22 : Int, w16.cell? (Addr.mk b14 0 none) = some (.int .u64 x22) ∧
                CND (decide (((u64 (x22 - s8.1)) : Int) ≥ a2)) (
                  J2 (s8.1, ()) w16
                ) (
                  J18 (()) w16
                )
              ) (
                J18 (()) w16
              )
            ) fun s19 _ w20 =>
              ∃ x23 : Int, w20.cell? ((Addr.mk b14 0 none).add 1) = some (.int .u64 x23) ∧
              512 ≠ (0 : Int) ∧
              LET (u64 ((u64 (Int.tdiv (u64 ((u64 (x23 + 512)) - 1)) 512)) * 512) : Int) fun at_24 =>
              next10 (at_24, i64 (s8.2.1 + 1), ()) w20
          )
        ) (
          J2 (s8.1, ()) w9
        )
      ) w
    ) fun s3 _ w4 =>
      c_vmem_Mem_fits a0 s3.1 a2 (fun r25 w26 =>
      K s3.1 r25 w26
      ) w4
  )

theorem tieZ31 (c_stretch_Set_All : ∀ (a0 : (Option Addr)) (K : SlV → World → Prop) (w : World), Prop) (c_vmem_Mem_fits : ∀ (a0 : (Option Addr)) (a1 : Int) (a2 : Int) (K : Bool → World → Prop) (w : World), Prop) (x : ArgsV [.one (.ptr), .one (.int .u64), .one (.int .u64)]) (K Kp : Value → World → Prop) (w : World) : T0.vmem_Mem_place env c_stretch_Set_All c_vmem_Mem_fits x.1 x.2.1 x.2.2.1 (fun r1 r2 w' => K (.tuple ⟨[.int .u64 r1, .bool r2]⟩) w') w =
    ev Go.Proofs.Try.prog (tabC [(53, fun args w K Kp => unArgs [.one (.ptr)] args.toList fun x => c_stretch_Set_All x.1 (fun r1 w' => K (.slice r1.base r1.len r1.cap) w') w), (30, fun args w K Kp => unArgs [.one (.ptr), .one (.int .u64), .one (.int .u64)] args.toList fun x => c_vmem_Mem_fits x.1 x.2.1 x.2.2.1 (fun r1 w' => K (.bool r1) w') w)]) (ground Go.Proofs.Try.prog) ann31 body31 (finQ Go.Proofs.Try.prog Go.Proofs.Try.f31 K Kp) (initF (mkArgs [.one (.ptr), .one (.int .u64), .one (.int .u64)] x)) w := by kernel_rfl
theorem tie31 (x : ArgsV [.one (.ptr), .one (.int .u64), .one (.int .u64)]) (K Kp : Value → World → Prop) (w : World) : F.vmem_Mem_place env x.1 x.2.1 x.2.2.1 (fun r1 r2 w' => K (.tuple ⟨[.int .u64 r1, .bool r2]⟩) w') w =
    ev Go.Proofs.Try.prog (tabC [(53, C53), (30, C30)]) (ground Go.Proofs.Try.prog) ann31 body31 (finQ Go.Proofs.Try.prog Go.Proofs.Try.f31 K Kp) (initF (mkArgs [.one (.ptr), .one (.int .u64), .one (.int .u64)] x)) w := tieZ31 (F.stretch_Set_All env) (F.vmem_Mem_fits env) x K Kp w
theorem fits31 : FitsOne Go.Proofs.Try.prog 31 C31 :=
  fits_of_tie (T := [(53, C53), (30, C30)]) (A := ann31) (fn := Go.Proofs.Try.f31) (c := body31) (fits_cons fits53 (fits_cons fits30 fits_nil)) mixed Go.Proofs.Try.func31 Go.Proofs.Try.call31 (by kernel_rfl) (by kernel_rfl) (by kernel_rfl) tie31

/- F.stretch_Set_Cut -/
noncomputable def C36 : Entry := fun args w K Kp => unArgs [.one (.ptr), .one (.int .u64), .one (.int .u64)] args.toList fun x => F.stretch_Set_Cut env x.1 x.2.1 x.2.2.1 (fun  w' => K (.tuple ⟨[]⟩) w') w
noncomputable def body36 : Code := (Go.Proofs.Try.f36.body).getD .skip
def ann36 : Ann := { loops := [(5, [(7, .one (.int .i64)), (8, .one (.sl))])], joins := [(10, [(8, .one (.sl))]), (12, [(7, .one (.int .i64)), (8, .one (.sl))])] }
def T0.stretch_Set_Cut (E : Env) (c_stretch_Set_Count : ∀ (a0 : (Option Addr)) (a1 : Int) (a2 : Int) (K : Int → World → Prop) (w : World), Prop) (c_stretch_Set_at : ∀ (a0 : (Option Addr)) (a1 : Int) (K : Int → World → Prop) (w : World), Prop) (a0 : (Option Addr)) (a1 : Int) (a2 : Int) (K : World → Prop) (w : World) : Prop :=
  CND (decide ((a1 : Int) ≥ a2)) (
    K  w
  ) (
    NC a0 fun p1 =>
    ∃ x2 : Int, w.drew.cell? (p1.add 1) = some (.int .u64 x2) ∧
    c_stretch_Set_Count a0 a1 a2 (fun r3 w4 =>
    w4.cell? (p1.add 1) = some (.int .u64 x2) ∧
    NC a0 fun p5 =>
    stCells (p5.add 1) 0 [.int .u64 (u64 (x2 - r3))] w4 fun w6 =>
    c_stretch_Set_at a0 a1 (fun r7 w8 =>
    JOIN (Int × SlV × Unit) (fun J9 =>
      LOOP (Int × SlV × Unit) (r7, ⟨none, 0, 0⟩, ()) w8 fun s12 _ w13 next14 =>
        NC a0 fun p15 =>
        ∃ x16 : SlV, w13.cell? p15 = some (.slice x16.base x16.len x16.cap) ∧
        CND (decide ((s12.1 : Int) < ((x16.len : Nat) : Int))) (
          NC a0 fun p17 =>
          ∃ x18 : SlV, w13.cell? p17 = some (.slice x18.base x18.len x18.cap) ∧
          NC x18.base fun p19 =>
          ((0 : Int) ≤ s12.1 ∧ (s12.1 : Int) < (x18.len : Nat)) ∧
          ∃ x20 : Int, w13.cell? (p19.add (Int.toNat s12.1 * 2)) = some (.int .u64 x20) ∧
          CND (decide ((x20 : Int) < a2)) (
            NC a0 fun p21 =>
            ∃ x22 : SlV, w13.cell? p21 = some (.slice x22.base x22.len x22.cap) ∧
            NC x22.base fun p23 =>
            ((0 : Int) ≤ s12.1 ∧ (s12.1 : Int) < (x22.len : Nat)) ∧
            ∃ c24 : Int, w13.cell? ((p23.add (Int.toNat s12.1 * 2)).add 0) = some (.int .u64 c24) ∧
            ∃ c25 : Int, w13.cell? ((p23.add (Int.toNat s12.1 * 2)).add 1) = some (.int .u64 c25) ∧
            AL (.cells #[.int .u64 0, .int .u64 0] E.t_stretch_One) w13 fun b26 w27 =>
            stCells (Addr.mk b26 0 none) 0 [.int .u64 c24, .int .u64 c25] w27 fun w28 =>
            JOIN (SlV × Unit) (fun J29 =>
              ∃ x32 : Int, w28.cell? (Addr.mk b26 0 none) = some (.int .u64 x32) ∧
              CND (decide ((x32 : Int) < a1)) (
                ∃ x33 : Int, w28.cell? (Addr.mk b26 0 none) = some (.int .u64 x33) ∧
                AL (.cells ⟨[.int .u64 x33, .int .u64 a1]⟩ E.t_stretch_One) w28 fun b34 w35 =>
                APP E.t_stretch_One 2 16 #[.int .u64 0, .int .u64 0] s12.2.1 ⟨(some (Addr.mk b34 0 none)), 1, 1⟩ w35 fun s36 w37 =>
                J29 (s36, ()) w37
              ) (
                J29 (s12.2.1, ()) w28
              )
            ) fun s30 _ w31 =>
              ∃ x38 : Int, w31.cell? ((Addr.mk b26 0 none).add 1) = some (.int .u64 x38) ∧
              CND (decide ((x38 : Int) > a2)) (
                ∃ x39 : Int, w31.cell? ((Addr.mk b26 0 none).add 1) = some (.int .u64 x39) ∧
                AL (.cells ⟨[.int .u64 a2, .int .u64 x39]⟩ E.t_stretch_One) w31 fun b40 w41 =>
                APP E.t_stretch_One 2 16 #[.int .u64 0, .int .u64 0] s30.1 ⟨(some (Addr.mk b40 0 none)), 1, 1⟩ w41 fun s42 w43 =>
                next14 (i64 (s12.1 + 1), s42, ()) w43
              ) (
                next14 (i64 (s12.1 + 1), s30.1, ()) w31
              )
          ) (
            J9 (s12.1, s12.2.1, ()) w13
          )
        ) (
          J9 (s12.1, s12.2.1, ()) w13
        )
    ) fun s10 _ w11 =>
      NC a0 fun p44 =>
      ∃ x45 : SlV, w11.drew.cell? p44 = some (.slice x45.base x45.len x45.cap) ∧
      ((0 : Int) ≤ r7 ∧ (r7 : Int) ≤ (x45.cap : Nat)) ∧
      NC a0 fun p46 =>
      ∃ x47 : SlV, w11.drew.cell? p46 = some (.slice x47.base x47.len x47.cap) ∧
      ((0 : Int) ≤ s10.1 ∧ (s10.1 : Int) ≤ (x47.len : Nat)) ∧
      AL (.cells ⟨[]⟩ E.t_stretch_One) w11.drew fun b48 w49 =>
      w49.cell? p46 = some (.slice x47.base x47.len x47.cap) ∧
      w49.cell? p44 = some (.slice x45.base x45.len x45.cap) ∧
      APP E.t_stretch_One 2 16 #[.int .u64 0, .int .u64 0] ⟨(some (Addr.mk b48 0 none)), 0, 0⟩ ⟨(slB x45.base x45.cap 0 2), (Int.toNat r7), x45.cap⟩ w49 fun s50 w51 =>
      w51.cell? p46 = some (.slice x47.base x47.len x47.cap) ∧
      w51.cell? p44 = some (.slice x45.base x45.len x45.cap) ∧
      APP E.t_stretch_One 2 16 #[.int .u64 0, .int .u64 0] s50 s10.2.1 w51 fun s52 w53 =>
      w53.cell? p46 = some (.slice x47.base x47.len x47.cap) ∧
      w53.cell? p44 = some (.slice x45.base x45.len x45.cap) ∧
      APP E.t_stretch_One 2 16 #[.int .u64 0, .int .u64 0] s52 ⟨(slB x47.base x47.cap (Int.toNat s10.1) 2), (x47.len - (Int.toNat s10.1)), (x47.cap - (Int.toNat s10.1))⟩ w53 fun s54 w55 =>
      w55.cell? p46 = some (.slice x47.base x47.len x47.cap) ∧
      w55.cell? p44 = some (.slice x45.base x45.len x45.cap) ∧
      NC a0 fun p56 =>
      stCells p56 0 [.slice s54.base s54.len s54.cap] w55 fun w57 =>
      K  w57
    ) w6
    ) w.drew
  )

theorem tieZ36 (c_stretch_Set_Count : ∀ (a0 : (Option Addr)) (a1 : Int) (a2 : Int) (K : Int → World → Prop) (w : World), Prop) (c_stretch_Set_at : ∀ (a0 : (Option Addr)) (a1 : Int) (K : Int → World → Prop) (w : World), Prop) (x : ArgsV [.one (.ptr), .one (.int .u64), .one (.int .u64)]) (K Kp : Value → World → Prop) (w : World) : T0.stretch_Set_Cut env c_stretch_Set_Count c_stretch_Set_at x.1 x.2.1 x.2.2.1 (fun  w' => K (.tuple ⟨[]⟩) w') w =
    ev Go.Proofs.Try.prog (tabC [(34, fun args w K Kp => unArgs [.one (.ptr), .one (.int .u64), .one (.int .u64)] args.toList fun x => c_stretch_Set_Count x.1 x.2.1 x.2.2.1 (fun r1 w' => K (.int .u64 r1) w') w), (54, fun args w K Kp => unArgs [.one (.ptr), .one (.int .u64)] args.toList fun x => c_stretch_Set_at x.1 x.2.1 (fun r1 w' => K (.int .i64 r1) w') w)]) (ground Go.Proofs.Try.prog) ann36 body36 (finQ Go.Proofs.Try.prog Go.Proofs.Try.f36 K Kp) (initF (mkArgs [.one (.ptr), .one (.int .u64), .one (.int .u64)] x)) w := by kernel_rfl
theorem tie36 (x : ArgsV [.one (.ptr), .one (.int .u64), .one (.int .u64)]) (K Kp : Value → World → Prop) (w : World) : F.stretch_Set_Cut env x.1 x.2.1 x.2.2.1 (fun  w' => K (.tuple ⟨[]⟩) w') w =
    ev Go.Proofs.Try.prog (tabC [(34, C34), (54, C54)]) (ground Go.Proofs.Try.prog) ann36 body36 (finQ Go.Proofs.Try.prog Go.Proofs.Try.f36 K Kp) (initF (mkArgs [.one (.ptr), .one (.int .u64), .one (.int .u64)] x)) w := tieZ36 (F.stretch_Set_Count env) (F.stretch_Set_at env) x K Kp w
theorem fits36 : FitsOne Go.Proofs.Try.prog 36 C36 :=
  fits_of_tie (T := [(34, C34), (54, C54)]) (A := ann36) (fn := Go.Proofs.Try.f36) (c := body36) (fits_cons fits34 (fits_cons fits54 fits_nil)) mixed Go.Proofs.Try.func36 Go.Proofs.Try.call36 (by kernel_rfl) (by kernel_rfl) (by kernel_rfl) tie36

/- F.stretch_Set_Add -/
noncomputable def C32 : Entry := fun args w K Kp => unArgs [.one (.ptr), .one (.int .u64), .one (.int .u64)] args.toList fun x => F.stretch_Set_Add env x.1 x.2.1 x.2.2.1 (fun  w' => K (.tuple ⟨[]⟩) w') w
noncomputable def body32 : Code := (Go.Proofs.Try.f32.body).getD .skip
def ann32 : Ann := { loops := [], joins := [(7, [(51, .one (.bool))]), (9, [(8, .one (.int .i64))]), (10, [(77, .one (.bool))]), (12, [(6, .one (.int .i64))])] }
def T0.stretch_Set_Add (E : Env) (c_stretch_Set_Cut : ∀ (a0 : (Option Addr)) (a1 : Int) (a2 : Int) (K : World → Prop) (w : World), Prop) (c_stretch_Set_at : ∀ (a0 : (Option Addr)) (a1 : Int) (K : Int → World → Prop) (w : World), Prop) (a0 : (Option Addr)) (a1 : Int) (a2 : Int) (K : World → Prop) (w : World) : Prop :=
  CND (decide ((a1 : Int) ≥ a2)) (
    K  w
  ) (
    c_stretch_Set_Cut a0 a1 a2 (fun  w1 =>
    NC a0 fun p2 =>
    ∃ x3 : Int, w1.cell? (p2.add 1) = some (.int .u64 x3) ∧
    NC a0 fun p4 =>
    stCells (p4.add 1) 0 [.int .u64 (u64 (x3 + (u64 (a2 - a1))))] w1 fun w5 =>
    c_stretch_Set_at a0 a1 (fun r6 w7 =>
    AL (.cells #[.int .u64 0, .int .u64 0] E.t_stretch_One) w7 fun b8 w9 =>
    stCells (Addr.mk b8 0 none) 0 [.int .u64 a1, .int .u64 a2] w9 fun w10 =>
    JOIN (Int × Unit) (fun J11 =>
      JOIN (Bool × Unit) (fun J14 =>
        NC a0 fun p17 =>
        ∃ x18 : SlV, w10.cell? p17 = some (.slice x18.base x18.len x18.cap) ∧
        CND (decide ((r6 : Int) < ((x18.len : Nat) : Int))) (
          NC a0 fun p19 =>
          ∃ x20 : SlV, w10.cell? p19 = some (.slice x20.base x20.len x20.cap) ∧
          NC x20.base fun p21 =>
          ((0 : Int) ≤ r6 ∧ (r6 : Int) < (x20.len : Nat)) ∧
          ∃ x22 : Int, w10.cell? (p21.add (Int.toNat r6 * 2)) = some (.int .u64 x22) ∧
          J14 ((x22 : Int) == a2, ()) w10
        ) (
          J14 (false, ()) w10
        )
      ) fun s15 _ w16 =>
        CND (s15.1) (
          NC a0 fun p23 =>
          ∃ x24 : SlV, w16.cell? p23 = some (.slice x24.base x24.len x24.cap) ∧
          NC x24.base fun p25 =>
          ((0 : Int) ≤ r6 ∧ (r6 : Int) < (x24.len : Nat)) ∧
          ∃ x26 : Int, w16.cell? ((p25.add (Int.toNat r6 * 2)).add 1) = some (.int .u64 x26) ∧
          stCells ((Addr.mk b8 0 none).add 1) 0 [.int .u64 x26] w16 fun w27 =>
          J11 (i64 (r6 + 1), ()) w27
        ) (
          J11 (r6, ()) w16
        )
    ) fun s12 _ w13 =>
      JOIN (Int × Unit) (fun J28 =>
        JOIN (Bool × Unit) (fun J31 =>
          CND (decide ((r6 : Int) > 0)) (
            NC a0 fun p34 =>
            ∃ x35 : SlV, w13.cell? p34 = some (.slice x35.base x35.len x35.cap) ∧
            NC x35.base fun p36 =>
            ((0 : Int) ≤ (i64 (r6 - 1)) ∧ ((i64 (r6 - 1)) : Int) < (x35.len : Nat)) ∧
            ∃ x37 : Int, w13.cell? ((p36.add (Int.toNat (i64 (r6 - 1)) * 2)).add 1) = some (.int .u64 x37) ∧
            J31 ((x37 : Int) == a1, ()) w13
          ) (
            J31 (false, ()) w13
          )
        ) fun s32 _ w33 =>
          CND (s32.1) (
            NC a0 fun p38 =>
            ∃ x39 : SlV, w33.cell? p38 = some (.slice x39.base x39.len x39.cap) ∧
            NC x39.base fun p40 =>
            ((0 : Int) ≤ (i64 (r6 - 1)) ∧ ((i64 (r6 - 1)) : Int) < (x39.len : Nat)) ∧
            ∃ x41 : Int, w33.cell? (p40.add (Int.toNat (i64 (r6 - 1)) * 2)) = some (.int .u64 x41) ∧
            stCells (Addr.mk b8 0 none) 0 [.int .u64 x41] w33 fun w42 =>
            J28 (i64 (r6 - 1), ()) w42
          ) (
            J28 (r6, ()) w33
          )
      ) fun s29 _ w30 =>
        NC a0 fun p43 =>
        ∃ x44 : SlV, w30.drew.cell? p43 = some (.slice x44.base x44.len x44.cap) ∧
        ((0 : Int) ≤ s29.1 ∧ (s29.1 : Int) ≤ (x44.cap : Nat)) ∧
        ∃ c45 : Int, w30.drew.cell? ((Addr.mk b8 0 none).add 0) = some (.int .u64 c45) ∧
        ∃ c46 : Int, w30.drew.cell? ((Addr.mk b8 0 none).add 1) = some (.int .u64 c46) ∧
        NC a0 fun p47 =>
        ∃ x48 : SlV, w30.drew.cell? p47 = some (.slice x48.base x48.len x48.cap) ∧
        ((0 : Int) ≤ s12.1 ∧ (s12.1 : Int) ≤ (x48.len : Nat)) ∧
        (
          AL (.cells ⟨[]⟩ E.t_stretch_One) w30.drew fun b49 w50 =>
          w50.cell? p47 = some (.slice x48.base x48.len x48.cap) ∧
          (w50.cell? ((Addr.mk b8 0 none).add 0) = some (.int .u64 c45) ∧ (w50.cell? ((Addr.mk b8 0 none).add 1) = some (.int .u64 c46) ∧ True)) ∧
          w50.cell? p43 = some (.slice x44.base x44.len x44.cap) ∧
          (
            APP E.t_stretch_One 2 16 #[.int .u64 0, .int .u64 0] ⟨(some (Addr.mk b49 0 none)), 0, 0⟩ ⟨(slB x44.base x44.cap 0 2), (Int.toNat s29.1), x44.cap⟩ w50 fun s51 w52 =>
            w52.cell? p47 = some (.slice x48.base x48.len x48.cap) ∧
            (w52.cell? ((Addr.mk b8 0 none).add 0) = some (.int .u64 c45) ∧ (w52.cell? ((Addr.mk b8 0 none).add 1) = some (.int .u64 c46) ∧ True)) ∧
            w52.cell? p43 = some (.slice x44.base x44.len x44.cap) ∧
            AL (.cells ⟨[.int .u64 c45, .int .u64 c46]⟩ E.t_stretch_One) w52 fun b53 w54 =>
            w54.cell? p47 = some (.slice x48.base x48.len x48.cap) ∧
            w54.cell? p43 = some (.slice x44.base x44.len x44.cap) ∧
            APP E.t_stretch_One 2 16 #[.int .u64 0, .int .u64 0] s51 ⟨(some (Addr.mk b53 0 none)), 1, 1⟩ w54 fun s55 w56 =>
            w56.cell? p47 = some (.slice x48.base x48.len x48.cap) ∧
            w56.cell? p43 = some (.slice x44.base x44.len x44.cap) ∧
            APP E.t_stretch_One 2 16 #[.int .u64 0, .int .u64 0] s55 ⟨(slB x48.base x48.cap (Int.toNat s12.1) 2), (x48.len - (Int.toNat s12.1)), (x48.cap - (Int.toNat s12.1))⟩ w56 fun s57 w58 =>
            w58.cell? p47 = some (.slice x48.base x48.len x48.cap) ∧
            w58.cell? p43 = some (.slice x44.base x44.len x44.cap) ∧
            NC a0 fun p59 =>
            stCells p59 0 [.slice s57.base s57.len s57.cap] w58 fun w60 =>
            K  w60

          ) ∧ (
            AL (.cells ⟨[.int .u64 c45, .int .u64 c46]⟩ E.t_stretch_One) w50 fun b61 w62 =>
            w62.cell? p47 = some (.slice x48.base x48.len x48.cap) ∧
            w62.cell? p43 = some (.slice x44.base x44.len x44.cap) ∧
            APP E.t_stretch_One 2 16 #[.int .u64 0, .int .u64 0] ⟨(some (Addr.mk b49 0 none)), 0, 0⟩ ⟨(slB x44.base x44.cap 0 2), (Int.toNat s29.1), x44.cap⟩ w62 fun s63 w64 =>
            w64.cell? p47 = some (.slice x48.base x48.len x48.cap) ∧
            w64.cell? p43 = some (.slice x44.base x44.len x44.cap) ∧
            APP E.t_stretch_One 2 16 #[.int .u64 0, .int .u64 0] s63 ⟨(some (Addr.mk b61 0 none)), 1, 1⟩ w64 fun s65 w66 =>
            w66.cell? p47 = some (.slice x48.base x48.len x48.cap) ∧
            w66.cell? p43 = some (.slice x44.base x44.len x44.cap) ∧
            APP E.t_stretch_One 2 16 #[.int .u64 0, .int .u64 0] s65 ⟨(slB x48.base x48.cap (Int.toNat s12.1) 2), (x48.len - (Int.toNat s12.1)), (x48.cap - (Int.toNat s12.1))⟩ w66 fun s67 w68 =>
            w68.cell? p47 = some (.slice x48.base x48.len x48.cap) ∧
            w68.cell? p43 = some (.slice x44.base x44.len x44.cap) ∧
            NC a0 fun p69 =>
            stCells p69 0 [.slice s67.base s67.len s67.cap] w68 fun w70 =>
            K  w70
          )

        ) ∧ (
          AL (.cells ⟨[.int .u64 c45, .int .u64 c46]⟩ E.t_stretch_One) w30.drew fun b71 w72 =>
          w72.cell? p47 = some (.slice x48.base x48.len x48.cap) ∧
          w72.cell? p43 = some (.slice x44.base x44.len x44.cap) ∧
          AL (.cells ⟨[]⟩ E.t_stretch_One) w72 fun b73 w74 =>
          w74.cell? p47 = some (.slice x48.base x48.len x48.cap) ∧
          w74.cell? p43 = some (.slice x44.base x44.len x44.cap) ∧
          APP E.t_stretch_One 2 16 #[.int .u64 0, .int .u64 0] ⟨(some (Addr.mk b73 0 none)), 0, 0⟩ ⟨(slB x44.base x44.cap 0 2), (Int.toNat s29.1), x44.cap⟩ w74 fun s75 w76 =>
          w76.cell? p47 = some (.slice x48.base x48.len x48.cap) ∧
          w76.cell? p43 = some (.slice x44.base x44.len x44.cap) ∧
          APP E.t_stretch_One 2 16 #[.int .u64 0, .int .u64 0] s75 ⟨(some (Addr.mk b71 0 none)), 1, 1⟩ w76 fun s77 w78 =>
          w78.cell? p47 = some (.slice x48.base x48.len x48.cap) ∧
          w78.cell? p43 = some (.slice x44.base x44.len x44.cap) ∧
          APP E.t_stretch_One 2 16 #[.int .u64 0, .int .u64 0] s77 ⟨(slB x48.base x48.cap (Int.toNat s12.1) 2), (x48.len - (Int.toNat s12.1)), (x48.cap - (Int.toNat s12.1))⟩ w78 fun s79 w80 =>
          w80.cell? p47 = some (.slice x48.base x48.len x48.cap) ∧
          w80.cell? p43 = some (.slice x44.base x44.len x44.cap) ∧
          NC a0 fun p81 =>
          stCells p81 0 [.slice s79.base s79.len s79.cap] w80 fun w82 =>
          K  w82
        )
    ) w5
    ) w
  )

theorem tieZ32 (c_stretch_Set_Cut : ∀ (a0 : (Option Addr)) (a1 : Int) (a2 : Int) (K : World → Prop) (w : World), Prop) (c_stretch_Set_at : ∀ (a0 : (Option Addr)) (a1 : Int) (K : Int → World → Prop) (w : World), Prop) (x : ArgsV [.one (.ptr), .one (.int .u64), .one (.int .u64)]) (K Kp : Value → World → Prop) (w : World) : T0.stretch_Set_Add env c_stretch_Set_Cut c_stretch_Set_at x.1 x.2.1 x.2.2.1 (fun  w' => K (.tuple ⟨[]⟩) w') w =
    ev Go.Proofs.Try.prog (tabC [(36, fun args w K Kp => unArgs [.one (.ptr), .one (.int .u64), .one (.int .u64)] args.toList fun x => c_stretch_Set_Cut x.1 x.2.1 x.2.2.1 (fun  w' => K (.tuple ⟨[]⟩) w') w), (54, fun args w K Kp => unArgs [.one (.ptr), .one (.int .u64)] args.toList fun x => c_stretch_Set_at x.1 x.2.1 (fun r1 w' => K (.int .i64 r1) w') w)]) (ground Go.Proofs.Try.prog) ann32 body32 (finQ Go.Proofs.Try.prog Go.Proofs.Try.f32 K Kp) (initF (mkArgs [.one (.ptr), .one (.int .u64), .one (.int .u64)] x)) w := by kernel_rfl
theorem tie32 (x : ArgsV [.one (.ptr), .one (.int .u64), .one (.int .u64)]) (K Kp : Value → World → Prop) (w : World) : F.stretch_Set_Add env x.1 x.2.1 x.2.2.1 (fun  w' => K (.tuple ⟨[]⟩) w') w =
    ev Go.Proofs.Try.prog (tabC [(36, C36), (54, C54)]) (ground Go.Proofs.Try.prog) ann32 body32 (finQ Go.Proofs.Try.prog Go.Proofs.Try.f32 K Kp) (initF (mkArgs [.one (.ptr), .one (.int .u64), .one (.int .u64)] x)) w := tieZ32 (F.stretch_Set_Cut env) (F.stretch_Set_at env) x K Kp w
theorem fits32 : FitsOne Go.Proofs.Try.prog 32 C32 :=
  fits_of_tie (T := [(36, C36), (54, C54)]) (A := ann32) (fn := Go.Proofs.Try.f32) (c := body32) (fits_cons fits36 (fits_cons fits54 fits_nil)) mixed Go.Proofs.Try.func32 Go.Proofs.Try.call32 (by kernel_rfl) (by kernel_rfl) (by kernel_rfl) tie32

/- F.vmem_Mem_Reserve -/
noncomputable def C12 : Entry := fun args w K Kp => unArgs [.one (.ptr), .one (.int .u64), .one (.int .u64)] args.toList fun x => F.vmem_Mem_Reserve env x.1 x.2.1 x.2.2.1 (fun r1 r2 w' => K (.tuple ⟨[.int .u64 r1, .int .i64 r2]⟩) w') w
noncomputable def body12 : Code := (Go.Proofs.Try.f12.body).getD .skip
def ann12 : Ann := { loops := [(9, [(10, .one (.int .u64)), (11, .one (.bool)), (52, .one (.int .i64))])], joins := [(2, [(24, .one (.bool))]), (8, [(11, .one (.bool))])] }
def T0.vmem_Mem_Reserve (E : Env) (c_vmem_used_bool_ : ∀ (a0 : (Option Addr)) (K : Bool → Bool → World → Prop) (w : World), Prop) (c_vmem_used_uint64_ : ∀ (a0 : (Option Addr)) (K : Int → Bool → World → Prop) (w : World), Prop) (c_vmem_Mem_fits : ∀ (a0 : (Option Addr)) (a1 : Int) (a2 : Int) (K : Bool → World → Prop) (w : World), Prop) (c_vmem_Mem_place : ∀ (a0 : (Option Addr)) (a1 : Int) (a2 : Int) (K : Int → Bool → World → Prop) (w : World), Prop) (c_stretch_Set_Add : ∀ (a0 : (Option Addr)) (a1 : Int) (a2 : Int) (K : World → Prop) (w : World), Prop) (a0 : (Option Addr)) (a1 : Int) (a2 : Int) (K : Int → Int → World → Prop) (w : World) : Prop :=
  JOIN (Bool × Unit) (fun J1 =>
    CND ((a2 : Int) == 0) (
      J1 (true, ()) w
    ) (
      512 ≠ (0 : Int) ∧
      CND (((Int.tmod a2 512) : Int) != 0) (
        J1 (true, ()) w
      ) (
        J1 (decide ((a2 : Int) > 134217728), ()) w
      )
    )
  ) fun s2 _ w3 =>
    CND (s2.1) (
      K 0 1 w3
    ) (
      NC a0 fun p4 =>
      c_vmem_used_bool_ (some (p4.add 1)) (fun r5 r6 w7 =>
      CND (r5) (
        K 0 13 w7
      ) (
        NC a0 fun p8 =>
        c_vmem_used_uint64_ (some p8) (fun r9 r10 w11 =>
        JOIN (Bool × Unit) (fun J12 =>
          CND (r10) (
            c_vmem_Mem_fits a0 r9 a2 (fun r15 w16 =>
            J12 (r15, ()) w16
            ) w11
          ) (
            J12 (false, ()) w11
          )
        ) fun s13 _ w14 =>
          AL (.cells ⟨[.int .u64 a1, .int .u64 0]⟩ E.t_uint64) w14 fun b17 w18 =>
          LOOP (Int × Bool × Int × Unit) (r9, s13.1, 0, ()) w18 fun s19 _ w20 next21 =>
            CND (decide ((s19.2.2.1 : Int) < 2)) (
              ((0 : Int) ≤ s19.2.2.1 ∧ (s19.2.2.1 : Int) < (2 : Nat)) ∧
              ∃ x22 : Int, w20.cell? ((Addr.mk b17 0 none).add (Int.toNat s19.2.2.1 * 1)) = some (.int .u64 x22) ∧
              CND (!s19.2.1) (
                c_vmem_Mem_place a0 x22 a2 (fun r23 r24 w25 =>
                next21 (r23, r24, i64 (s19.2.2.1 + 1), ()) w25
                ) w20
              ) (
                next21 (s19.1, s19.2.1, i64 (s19.2.2.1 + 1), ()) w20
              )
            ) (
              CND (!s19.2.1) (
                K 0 13 w20
              ) (
                NC a0 fun p26 =>
                c_stretch_Set_Add (some (p26.add 3)) s19.1 (u64 (s19.1 + a2)) (fun  w27 =>
                K s19.1 0 w27
                ) w20
              )
            )
        ) w7
      )
      ) w3
    )

theorem tieZ12 (c_vmem_used_bool_ : ∀ (a0 : (Option Addr)) (K : Bool → Bool → World → Prop) (w : World), Prop) (c_vmem_used_uint64_ : ∀ (a0 : (Option Addr)) (K : Int → Bool → World → Prop) (w : World), Prop) (c_vmem_Mem_fits : ∀ (a0 : (Option Addr)) (a1 : Int) (a2 : Int) (K : Bool → World → Prop) (w : World), Prop) (c_vmem_Mem_place : ∀ (a0 : (Option Addr)) (a1 : Int) (a2 : Int) (K : Int → Bool → World → Prop) (w : World), Prop) (c_stretch_Set_Add : ∀ (a0 : (Option Addr)) (a1 : Int) (a2 : Int) (K : World → Prop) (w : World), Prop) (x : ArgsV [.one (.ptr), .one (.int .u64), .one (.int .u64)]) (K Kp : Value → World → Prop) (w : World) : T0.vmem_Mem_Reserve env c_vmem_used_bool_ c_vmem_used_uint64_ c_vmem_Mem_fits c_vmem_Mem_place c_stretch_Set_Add x.1 x.2.1 x.2.2.1 (fun r1 r2 w' => K (.tuple ⟨[.int .u64 r1, .int .i64 r2]⟩) w') w =
    ev Go.Proofs.Try.prog (tabC [(28, fun args w K Kp => unArgs [.one (.ptr)] args.toList fun x => c_vmem_used_bool_ x.1 (fun r1 r2 w' => K (.tuple ⟨[.bool r1, .bool r2]⟩) w') w), (29, fun args w K Kp => unArgs [.one (.ptr)] args.toList fun x => c_vmem_used_uint64_ x.1 (fun r1 r2 w' => K (.tuple ⟨[.int .u64 r1, .bool r2]⟩) w') w), (30, fun args w K Kp => unArgs [.one (.ptr), .one (.int .u64), .one (.int .u64)] args.toList fun x => c_vmem_Mem_fits x.1 x.2.1 x.2.2.1 (fun r1 w' => K (.bool r1) w') w), (31, fun args w K Kp => unArgs [.one (.ptr), .one (.int .u64), .one (.int .u64)] args.toList fun x => c_vmem_Mem_place x.1 x.2.1 x.2.2.1 (fun r1 r2 w' => K (.tuple ⟨[.int .u64 r1, .bool r2]⟩) w') w), (32, fun args w K Kp => unArgs [.one (.ptr), .one (.int .u64), .one (.int .u64)] args.toList fun x => c_stretch_Set_Add x.1 x.2.1 x.2.2.1 (fun  w' => K (.tuple ⟨[]⟩) w') w)]) (ground Go.Proofs.Try.prog) ann12 body12 (finQ Go.Proofs.Try.prog Go.Proofs.Try.f12 K Kp) (initF (mkArgs [.one (.ptr), .one (.int .u64), .one (.int .u64)] x)) w := by kernel_rfl
theorem tie12 (x : ArgsV [.one (.ptr), .one (.int .u64), .one (.int .u64)]) (K Kp : Value → World → Prop) (w : World) : F.vmem_Mem_Reserve env x.1 x.2.1 x.2.2.1 (fun r1 r2 w' => K (.tuple ⟨[.int .u64 r1, .int .i64 r2]⟩) w') w =
    ev Go.Proofs.Try.prog (tabC [(28, C28), (29, C29), (30, C30), (31, C31), (32, C32)]) (ground Go.Proofs.Try.prog) ann12 body12 (finQ Go.Proofs.Try.prog Go.Proofs.Try.f12 K Kp) (initF (mkArgs [.one (.ptr), .one (.int .u64), .one (.int .u64)] x)) w := tieZ12 (F.vmem_used_bool_ env) (F.vmem_used_uint64_ env) (F.vmem_Mem_fits env) (F.vmem_Mem_place env) (F.stretch_Set_Add env) x K Kp w
theorem fits12 : FitsOne Go.Proofs.Try.prog 12 C12 :=
  fits_of_tie (T := [(28, C28), (29, C29), (30, C30), (31, C31), (32, C32)]) (A := ann12) (fn := Go.Proofs.Try.f12) (c := body12) (fits_cons fits28 (fits_cons fits29 (fits_cons fits30 (fits_cons fits31 (fits_cons fits32 fits_nil))))) mixed Go.Proofs.Try.func12 Go.Proofs.Try.call12 (by kernel_rfl) (by kernel_rfl) (by kernel_rfl) tie12

/- F.vmem_right -/
noncomputable def C33 : Entry := fun args w K Kp => unArgs [.one (.int .u64), .one (.int .u64)] args.toList fun x => F.vmem_right env x.1 x.2.1 (fun r1 w' => K (.bool r1) w') w
noncomputable def body33 : Code := (Go.Proofs.Try.f33.body).getD .skip
def ann33 : Ann := { loops := [], joins := [] }
theorem tie33 (x : ArgsV [.one (.int .u64), .one (.int .u64)]) (K Kp : Value → World → Prop) (w : World) : F.vmem_right env x.1 x.2.1 (fun r1 w' => K (.bool r1) w') w =
    ev Go.Proofs.Try.prog (tabC []) (ground Go.Proofs.Try.prog) ann33 body33 (finQ Go.Proofs.Try.prog Go.Proofs.Try.f33 K Kp) (initF (mkArgs [.one (.int .u64), .one (.int .u64)] x)) w := by kernel_rfl
theorem fits33 : FitsOne Go.Proofs.Try.prog 33 C33 :=
  fits_of_tie (T := []) (A := ann33) (fn := Go.Proofs.Try.f33) (c := body33) fits_nil mixed Go.Proofs.Try.func33 Go.Proofs.Try.call33 (by kernel_rfl) (by kernel_rfl) (by kernel_rfl) tie33

/- F.stretch_Set_Within -/
noncomputable def C35 : Entry := fun args w K Kp => unArgs [.one (.ptr), .one (.int .u64), .one (.int .u64)] args.toList fun x => F.stretch_Set_Within env x.1 x.2.1 x.2.2.1 (fun r1 w' => K (.slice r1.base r1.len r1.cap) w') w
noncomputable def body35 : Code := (Go.Proofs.Try.f35.body).getD .skip
def ann35 : Ann := { loops := [(3, [(7, .one (.sl)), (8, .one (.int .i64))])], joins := [] }
def T0.stretch_Set_Within (E : Env) (c_stretch_Set_at : ∀ (a0 : (Option Addr)) (a1 : Int) (K : Int → World → Prop) (w : World), Prop) (a0 : (Option Addr)) (a1 : Int) (a2 : Int) (K : SlV → World → Prop) (w : World) : Prop :=
  c_stretch_Set_at a0 a1 (fun r1 w2 =>
  LOOP (SlV × Int × Unit) (⟨none, 0, 0⟩, r1, ()) w2 fun s3 _ w4 next5 =>
    NC a0 fun p6 =>
    ∃ x7 : SlV, w4.cell? p6 = some (.slice x7.base x7.len x7.cap) ∧
    CND (decide ((s3.2.1 : Int) < ((x7.len : Nat) : Int))) (
      NC a0 fun p8 =>
      ∃ x9 : SlV, w4.cell? p8 = some (.slice x9.base x9.len x9.cap) ∧
      NC x9.base fun p10 =>
      ((0 : Int) ≤ s3.2.1 ∧ (s3.2.1 : Int) < (x9.len : Nat)) ∧
      ∃ x11 : Int, w4.cell? (p10.add (Int.toNat s3.2.1 * 2)) = some (.int .u64 x11) ∧
      CND (decide ((x11 : Int) < a2)) (
        NC a0 fun p12 =>
        ∃ x13 : SlV, w4.drew.cell? p12 = some (.slice x13.base x13.len x13.cap) ∧
        NC x13.base fun p14 =>
        ((0 : Int) ≤ s3.2.1 ∧ (s3.2.1 : Int) < (x13.len : Nat)) ∧
        ∃ x15 : Int, w4.drew.cell? (p14.add (Int.toNat s3.2.1 * 2)) = some (.int .u64 x15) ∧
        NC a0 fun p16 =>
        ∃ x17 : SlV, w4.drew.cell? p16 = some (.slice x17.base x17.len x17.cap) ∧
        NC x17.base fun p18 =>
        ((0 : Int) ≤ s3.2.1 ∧ (s3.2.1 : Int) < (x17.len : Nat)) ∧
        ∃ x19 : Int, w4.drew.cell? ((p18.add (Int.toNat s3.2.1 * 2)).add 1) = some (.int .u64 x19) ∧
        AL (.cells ⟨[.int .u64 (maxI x15 a1), .int .u64 (minI x19 a2)]⟩ E.t_stretch_One) w4.drew fun b20 w21 =>
        w21.cell? ((p18.add (Int.toNat s3.2.1 * 2)).add 1) = some (.int .u64 x19) ∧
        w21.cell? p16 = some (.slice x17.base x17.len x17.cap) ∧
        w21.cell? (p14.add (Int.toNat s3.2.1 * 2)) = some (.int .u64 x15) ∧
        w21.cell? p12 = some (.slice x13.base x13.len x13.cap) ∧
        APP E.t_stretch_One 2 16 #[.int .u64 0, .int .u64 0] s3.1 ⟨(some (Addr.mk b20 0 none)), 1, 1⟩ w21 fun s22 w23 =>
        w23.cell? ((p18.add (Int.toNat s3.2.1 * 2)).add 1) = some (.int .u64 x19) ∧
        w23.cell? p16 = some (.slice x17.base x17.len x17.cap) ∧
        w23.cell? (p14.add (Int.toNat s3.2.1 * 2)) = some (.int .u64 x15) ∧
        w23.cell? p12 = some (.slice x13.base x13.len x13.cap) ∧
        next5 (s22, i64 (s3.2.1 + 1), ()) w23
      ) (
        K s3.1 w4
      )
    ) (
      K s3.1 w4
    )
  ) w

theorem tieZ35 (c_stretch_Set_at : ∀ (a0 : (Option Addr)) (a1 : Int) (K : Int → World → Prop) (w : World), Prop) (x : ArgsV [.one (.ptr), .one (.int .u64), .one (.int .u64)]) (K Kp : Value → World → Prop) (w : World) : T0.stretch_Set_Within env c_stretch_Set_at x.1 x.2.1 x.2.2.1 (fun r1 w' => K (.slice r1.base r1.len r1.cap) w') w =
    ev Go.Proofs.Try.prog (tabC [(54, fun args w K Kp => unArgs [.one (.ptr), .one (.int .u64)] args.toList fun x => c_stretch_Set_at x.1 x.2.1 (fun r1 w' => K (.int .i64 r1) w') w)]) (ground Go.Proofs.Try.prog) ann35 body35 (finQ Go.Proofs.Try.prog Go.Proofs.Try.f35 K Kp) (initF (mkArgs [.one (.ptr), .one (.int .u64), .one (.int .u64)] x)) w := by kernel_rfl
theorem tie35 (x : ArgsV [.one (.ptr), .one (.int .u64), .one (.int .u64)]) (K Kp : Value → World → Prop) (w : World) : F.stretch_Set_Within env x.1 x.2.1 x.2.2.1 (fun r1 w' => K (.slice r1.base r1.len r1.cap) w') w =
    ev Go.Proofs.Try.prog (tabC [(54, C54)]) (ground Go.Proofs.Try.prog) ann35 body35 (finQ Go.Proofs.Try.prog Go.Proofs.Try.f35 K Kp) (initF (mkArgs [.one (.ptr), .one (.int .u64), .one (.int .u64)] x)) w := tieZ35 (F.stretch_Set_at env) x K Kp w
theorem fits35 : FitsOne Go.Proofs.Try.prog 35 C35 :=
  fits_of_tie (T := [(54, C54)]) (A := ann35) (fn := Go.Proofs.Try.f35) (c := body35) (fits_cons fits54 fits_nil) mixed Go.Proofs.Try.func35 Go.Proofs.Try.call35 (by kernel_rfl) (by kernel_rfl) (by kernel_rfl) tie35

/- F.vmem_Mem_Commit -/
noncomputable def C13 : Entry := fun args w K Kp => unArgs [.one (.ptr), .one (.int .u64), .one (.int .u64)] args.toList fun x => F.vmem_Mem_Commit env x.1 x.2.1 x.2.2.1 (fun r1 w' => K (.int .i64 r1) w') w
noncomputable def body13 : Code := (Go.Proofs.Try.f13.body).getD .skip
def ann13 : Ann := { loops := [(12, [(56, .one (.int .i64))]), (15, [(12, .one (.int .u64))])], joins := [(22, [])] }
def T0.vmem_Mem_Commit (E : Env) (c_vmem_right : ∀ (a0 : Int) (a1 : Int) (K : Bool → World → Prop) (w : World), Prop) (c_stretch_Set_Count : ∀ (a0 : (Option Addr)) (a1 : Int) (a2 : Int) (K : Int → World → Prop) (w : World), Prop) (c_vmem_used_bool_ : ∀ (a0 : (Option Addr)) (K : Bool → Bool → World → Prop) (w : World), Prop) (c_stretch_Set_Within : ∀ (a0 : (Option Addr)) (a1 : Int) (a2 : Int) (K : SlV → World → Prop) (w : World), Prop) (c_vmem_used_uint64_ : ∀ (a0 : (Option Addr)) (K : Int → Bool → World → Prop) (w : World), Prop) (c_stretch_Set_Cut : ∀ (a0 : (Option Addr)) (a1 : Int) (a2 : Int) (K : World → Prop) (w : World), Prop) (c_stretch_Set_Add : ∀ (a0 : (Option Addr)) (a1 : Int) (a2 : Int) (K : World → Prop) (w : World), Prop) (a0 : (Option Addr)) (a1 : Int) (a2 : Int) (K : Int → World → Prop) (w : World) : Prop :=
  c_vmem_right a1 a2 (fun r1 w2 =>
  CND (!r1) (
    K 1 w2
  ) (
    NC a0 fun p3 =>
    c_stretch_Set_Count (some (p3.add 3)) a1 (u64 (a1 + a2)) (fun r4 w5 =>
    CND ((r4 : Int) != a2) (
      K 33 w5
    ) (
      NC a0 fun p6 =>
      c_stretch_Set_Count (some (p6.add 5)) a1 (u64 (a1 + a2)) (fun r7 w8 =>
      CND ((r7 : Int) == a2) (
        K 0 w8
      ) (
        NC a0 fun p9 =>
        c_vmem_used_bool_ (some (p9.add 1)) (fun r10 r11 w12 =>
        CND (r10) (
          K 13 w12
        ) (
          JOIN (Unit) (fun J13 =>
            NC a0 fun p16 =>
            c_stretch_Set_Within (some (p16.add 7)) a1 (u64 (a1 + a2)) (fun r17 w18 =>
            LOOP (Int × Unit) (0, ()) w18 fun s19 _ w20 next21 =>
              CND (decide ((s19.1 : Int) < ((r17.len : Nat) : Int))) (
                NC r17.base fun p22 =>
                ((0 : Int) ≤ s19.1 ∧ (s19.1 : Int) < (r17.len : Nat)) ∧
                ∃ c23 : Int, w20.cell? ((p22.add (Int.toNat s19.1 * 2)).add 0) = some (.int .u64 c23) ∧
                ∃ c24 : Int, w20.cell? ((p22.add (Int.toNat s19.1 * 2)).add 1) = some (.int .u64 c24) ∧
                AL (.cells #[.int .u64 0, .int .u64 0] E.t_stretch_One) w20 fun b25 w26 =>
                stCells (Addr.mk b25 0 none) 0 [.int .u64 c23, .int .u64 c24] w26 fun w27 =>
                ∃ x28 : Int, w27.cell? (Addr.mk b25 0 none) = some (.int .u64 x28) ∧
                LOOP (Int × Unit) (x28, ()) w27 fun s29 _ w30 next31 =>
                  ∃ x32 : Int, w30.cell? ((Addr.mk b25 0 none).add 1) = some (.int .u64 x32) ∧
                  CND (decide ((s29.1 : Int) < x32)) (
                    NC a0 fun p33 =>
                    ∃ x34 : SlV, w30.cell? (p33.add 2) = some (.slice x34.base x34.len x34.cap) ∧
                    CND ((((x34.len : Nat) : Int) : Int) == 0) (
                      J13 (()) w30
                    ) (
                      NC a0 fun p35 =>
                      c_vmem_used_uint64_ (some (p35.add 2)) (fun r36 r37 w38 =>
                      CND ((r36 : Int) != 0) (
                        NC a0 fun p39 =>
                        ∃ x40 : (Option Nat), w38.cell? (p39.add 9) = some (.map x40) ∧
                        MUPD .u64 s29.1 (.int .u64 r36) x40 w38 fun w41 =>
                        next31 (u64 (s29.1 + 1), ()) w41
                      ) (
                        next31 (u64 (s29.1 + 1), ()) w38
                      )
                      ) w30
                    )
                  ) (
                    next21 (i64 (s19.1 + 1), ()) w30
                  )
              ) (
                J13 (()) w20
              )
            ) w12
          ) fun s14 _ w15 =>
            NC a0 fun p42 =>
            c_stretch_Set_Cut (some (p42.add 7)) a1 (u64 (a1 + a2)) (fun  w43 =>
            NC a0 fun p44 =>
            c_stretch_Set_Add (some (p44.add 5)) a1 (u64 (a1 + a2)) (fun  w45 =>
            K 0 w45
            ) w43
            ) w15
        )
        ) w8
      )
      ) w5
    )
    ) w2
  )
  ) w

theorem tieZ13 (c_vmem_right : ∀ (a0 : Int) (a1 : Int) (K : Bool → World → Prop) (w : World), Prop) (c_stretch_Set_Count : ∀ (a0 : (Option Addr)) (a1 : Int) (a2 : Int) (K : Int → World → Prop) (w : World), Prop) (c_vmem_used_bool_ : ∀ (a0 : (Option Addr)) (K : Bool → Bool → World → Prop) (w : World), Prop) (c_stretch_Set_Within : ∀ (a0 : (Option Addr)) (a1 : Int) (a2 : Int) (K : SlV → World → Prop) (w : World), Prop) (c_vmem_used_uint64_ : ∀ (a0 : (Option Addr)) (K : Int → Bool → World → Prop) (w : World), Prop) (c_stretch_Set_Cut : ∀ (a0 : (Option Addr)) (a1 : Int) (a2 : Int) (K : World → Prop) (w : World), Prop) (c_stretch_Set_Add : ∀ (a0 : (Option Addr)) (a1 : Int) (a2 : Int) (K : World → Prop) (w : World), Prop) (x : ArgsV [.one (.ptr), .one (.int .u64), .one (.int .u64)]) (K Kp : Value → World → Prop) (w : World) : T0.vmem_Mem_Commit env c_vmem_right c_stretch_Set_Count c_vmem_used_bool_ c_stretch_Set_Within c_vmem_used_uint64_ c_stretch_Set_Cut c_stretch_Set_Add x.1 x.2.1 x.2.2.1 (fun r1 w' => K (.int .i64 r1) w') w =
    ev Go.Proofs.Try.prog (tabC [(33, fun args w K Kp => unArgs [.one (.int .u64), .one (.int .u64)] args.toList fun x => c_vmem_right x.1 x.2.1 (fun r1 w' => K (.bool r1) w') w), (34, fun args w K Kp => unArgs [.one (.ptr), .one (.int .u64), .one (.int .u64)] args.toList fun x => c_stretch_Set_Count x.1 x.2.1 x.2.2.1 (fun r1 w' => K (.int .u64 r1) w') w), (28, fun args w K Kp => unArgs [.one (.ptr)] args.toList fun x => c_vmem_used_bool_ x.1 (fun r1 r2 w' => K (.tuple ⟨[.bool r1, .bool r2]⟩) w') w), (35, fun args w K Kp => unArgs [.one (.ptr), .one (.int .u64), .one (.int .u64)] args.toList fun x => c_stretch_Set_Within x.1 x.2.1 x.2.2.1 (fun r1 w' => K (.slice r1.base r1.len r1.cap) w') w), (29, fun args w K Kp => unArgs [.one (.ptr)] args.toList fun x => c_vmem_used_uint64_ x.1 (fun r1 r2 w' => K (.tuple ⟨[.int .u64 r1, .bool r2]⟩) w') w), (36, fun args w K Kp => unArgs [.one (.ptr), .one (.int .u64), .one (.int .u64)] args.toList fun x => c_stretch_Set_Cut x.1 x.2.1 x.2.2.1 (fun  w' => K (.tuple ⟨[]⟩) w') w), (32, fun args w K Kp => unArgs [.one (.ptr), .one (.int .u64), .one (.int .u64)] args.toList fun x => c_stretch_Set_Add x.1 x.2.1 x.2.2.1 (fun  w' => K (.tuple ⟨[]⟩) w') w)]) (ground Go.Proofs.Try.prog) ann13 body13 (finQ Go.Proofs.Try.prog Go.Proofs.Try.f13 K Kp) (initF (mkArgs [.one (.ptr), .one (.int .u64), .one (.int .u64)] x)) w := by kernel_rfl
theorem tie13 (x : ArgsV [.one (.ptr), .one (.int .u64), .one (.int .u64)]) (K Kp : Value → World → Prop) (w : World) : F.vmem_Mem_Commit env x.1 x.2.1 x.2.2.1 (fun r1 w' => K (.int .i64 r1) w') w =
    ev Go.Proofs.Try.prog (tabC [(33, C33), (34, C34), (28, C28), (35, C35), (29, C29), (36, C36), (32, C32)]) (ground Go.Proofs.Try.prog) ann13 body13 (finQ Go.Proofs.Try.prog Go.Proofs.Try.f13 K Kp) (initF (mkArgs [.one (.ptr), .one (.int .u64), .one (.int .u64)] x)) w := tieZ13 (F.vmem_right env) (F.stretch_Set_Count env) (F.vmem_used_bool_ env) (F.stretch_Set_Within env) (F.vmem_used_uint64_ env) (F.stretch_Set_Cut env) (F.stretch_Set_Add env) x K Kp w
theorem fits13 : FitsOne Go.Proofs.Try.prog 13 C13 :=
  fits_of_tie (T := [(33, C33), (34, C34), (28, C28), (35, C35), (29, C29), (36, C36), (32, C32)]) (A := ann13) (fn := Go.Proofs.Try.f13) (c := body13) (fits_cons fits33 (fits_cons fits34 (fits_cons fits28 (fits_cons fits35 (fits_cons fits29 (fits_cons fits36 (fits_cons fits32 fits_nil))))))) mixed Go.Proofs.Try.func13 Go.Proofs.Try.call13 (by kernel_rfl) (by kernel_rfl) (by kernel_rfl) tie13

/- F.stretch_Set_Has -/
noncomputable def C43 : Entry := fun args w K Kp => unArgs [.one (.ptr), .one (.int .u64)] args.toList fun x => F.stretch_Set_Has env x.1 x.2.1 (fun r1 w' => K (.bool r1) w') w
noncomputable def body43 : Code := (Go.Proofs.Try.f43.body).getD .skip
def ann43 : Ann := { loops := [], joins := [] }
def T0.stretch_Set_Has (E : Env) (c_stretch_Set_at : ∀ (a0 : (Option Addr)) (a1 : Int) (K : Int → World → Prop) (w : World), Prop) (a0 : (Option Addr)) (a1 : Int) (K : Bool → World → Prop) (w : World) : Prop :=
  c_stretch_Set_at a0 a1 (fun r1 w2 =>
  NC a0 fun p3 =>
  ∃ x4 : SlV, w2.cell? p3 = some (.slice x4.base x4.len x4.cap) ∧
  CND (decide ((r1 : Int) < ((x4.len : Nat) : Int))) (
    NC a0 fun p5 =>
    ∃ x6 : SlV, w2.cell? p5 = some (.slice x6.base x6.len x6.cap) ∧
    NC x6.base fun p7 =>
    ((0 : Int) ≤ r1 ∧ (r1 : Int) < (x6.len : Nat)) ∧
    ∃ x8 : Int, w2.cell? (p7.add (Int.toNat r1 * 2)) = some (.int .u64 x8) ∧
    K (decide ((x8 : Int) ≤ a1)) w2
  ) (
    K false w2
  )
  ) w

theorem tieZ43 (c_stretch_Set_at : ∀ (a0 : (Option Addr)) (a1 : Int) (K : Int → World → Prop) (w : World), Prop) (x : ArgsV [.one (.ptr), .one (.int .u64)]) (K Kp : Value → World → Prop) (w : World) : T0.stretch_Set_Has env c_stretch_Set_at x.1 x.2.1 (fun r1 w' => K (.bool r1) w') w =
    ev Go.Proofs.Try.prog (tabC [(54, fun args w K Kp => unArgs [.one (.ptr), .one (.int .u64)] args.toList fun x => c_stretch_Set_at x.1 x.2.1 (fun r1 w' => K (.int .i64 r1) w') w)]) (ground Go.Proofs.Try.prog) ann43 body43 (finQ Go.Proofs.Try.prog Go.Proofs.Try.f43 K Kp) (initF (mkArgs [.one (.ptr), .one (.int .u64)] x)) w := by kernel_rfl
theorem tie43 (x : ArgsV [.one (.ptr), .one (.int .u64)]) (K Kp : Value → World → Prop) (w : World) : F.stretch_Set_Has env x.1 x.2.1 (fun r1 w' => K (.bool r1) w') w =
    ev Go.Proofs.Try.prog (tabC [(54, C54)]) (ground Go.Proofs.Try.prog) ann43 body43 (finQ Go.Proofs.Try.prog Go.Proofs.Try.f43 K Kp) (initF (mkArgs [.one (.ptr), .one (.int .u64)] x)) w := tieZ43 (F.stretch_Set_at env) x K Kp w
theorem fits43 : FitsOne Go.Proofs.Try.prog 43 C43 :=
  fits_of_tie (T := [(54, C54)]) (A := ann43) (fn := Go.Proofs.Try.f43) (c := body43) (fits_cons fits54 fits_nil) mixed Go.Proofs.Try.func43 Go.Proofs.Try.call43 (by kernel_rfl) (by kernel_rfl) (by kernel_rfl) tie43

/- F.vmem_Mem_at -/
noncomputable def C38 : Entry := fun args w K Kp => unArgs [.one (.ptr), .one (.int .u64)] args.toList fun x => F.vmem_Mem_at env x.1 x.2.1 (fun r1 r2 w' => K (.tuple ⟨[.int .u64 r1, .int .u64 r2]⟩) w') Kp w
noncomputable def body38 : Code := (Go.Proofs.Try.f38.body).getD .skip
def ann38 : Ann := { loops := [], joins := [] }
def T0.vmem_Mem_at (E : Env) (c_stretch_Set_Has : ∀ (a0 : (Option Addr)) (a1 : Int) (K : Bool → World → Prop) (w : World), Prop) (a0 : (Option Addr)) (a1 : Int) (K : Int → Int → World → Prop) (Kp : Value → World → Prop) (w : World) : Prop :=
  8192 ≠ (0 : Int) ∧
  8 ≠ (0 : Int) ∧
  CND (((Int.tmod a1 8) : Int) != 0) (
    Kp (.iface E.t_vmem_fault (.agg ⟨[.int .i64 11]⟩)) w
  ) (
    NC a0 fun p1 =>
    c_stretch_Set_Has (some (p1.add 5)) (u64 (Int.tdiv a1 8192)) (fun r2 w3 =>
    CND (!r2) (
      Kp (.iface E.t_vmem_fault (.agg ⟨[.int .i64 12]⟩)) w3
    ) (
      8192 ≠ (0 : Int) ∧
      8 ≠ (0 : Int) ∧
      LET (u64 (Int.tdiv (Int.tmod a1 8192) 8) : Int) fun t4 =>
      K (u64 (Int.tdiv a1 8192)) t4 w3
    )
    ) w
  )

theorem tieZ38 (c_stretch_Set_Has : ∀ (a0 : (Option Addr)) (a1 : Int) (K : Bool → World → Prop) (w : World), Prop) (x : ArgsV [.one (.ptr), .one (.int .u64)]) (K Kp : Value → World → Prop) (w : World) : T0.vmem_Mem_at env c_stretch_Set_Has x.1 x.2.1 (fun r1 r2 w' => K (.tuple ⟨[.int .u64 r1, .int .u64 r2]⟩) w') Kp w =
    ev Go.Proofs.Try.prog (tabC [(43, fun args w K Kp => unArgs [.one (.ptr), .one (.int .u64)] args.toList fun x => c_stretch_Set_Has x.1 x.2.1 (fun r1 w' => K (.bool r1) w') w)]) (ground Go.Proofs.Try.prog) ann38 body38 (finQ Go.Proofs.Try.prog Go.Proofs.Try.f38 K Kp) (initF (mkArgs [.one (.ptr), .one (.int .u64)] x)) w := by kernel_rfl
theorem tie38 (x : ArgsV [.one (.ptr), .one (.int .u64)]) (K Kp : Value → World → Prop) (w : World) : F.vmem_Mem_at env x.1 x.2.1 (fun r1 r2 w' => K (.tuple ⟨[.int .u64 r1, .int .u64 r2]⟩) w') Kp w =
    ev Go.Proofs.Try.prog (tabC [(43, C43)]) (ground Go.Proofs.Try.prog) ann38 body38 (finQ Go.Proofs.Try.prog Go.Proofs.Try.f38 K Kp) (initF (mkArgs [.one (.ptr), .one (.int .u64)] x)) w := tieZ38 (F.stretch_Set_Has env) x K Kp w
theorem fits38 : FitsOne Go.Proofs.Try.prog 38 C38 :=
  fits_of_tie (T := [(43, C43)]) (A := ann38) (fn := Go.Proofs.Try.f38) (c := body38) (fits_cons fits43 fits_nil) mixed Go.Proofs.Try.func38 Go.Proofs.Try.call38 (by kernel_rfl) (by kernel_rfl) (by kernel_rfl) tie38

/- F.vmem_caught -/
noncomputable def D37 : EntryD := fun args pv w K => unArgs [.one (.ptr)] args.toList fun x => F.vmem_caught env x.1 (pv.getD .nilIface) (fun w' => K pv.isSome w') w
noncomputable def body37 : Code := (Go.Proofs.Try.f37.body).getD .skip
def ann37 : Ann := { loops := [], joins := [] }
noncomputable def rest37 : Code := ((recOf body37).map (·.2)).getD .skip
theorem tie37 (x : ArgsV [.one (.ptr)]) (v : Value) (K : World → Prop) (w : World) : F.vmem_caught env x.1 v K w =
    ev Go.Proofs.Try.prog (tabC []) (ground Go.Proofs.Try.prog) ann37 rest37 (finQ Go.Proofs.Try.prog Go.Proofs.Try.f37 (fun _ w' => K w') noP) ((initF (mkArgs [.one (.ptr)] x)).put 5 v) w := by kernel_rfl
theorem fitsD37 : FitsDOne Go.Proofs.Try.prog 37 D37 :=
  fitsD_rec (T := []) (A := ann37) (fn := Go.Proofs.Try.f37) (c := body37) (y := rest37) (d := 5) (l := [.one (.ptr)]) (F := fun (x : ArgsV [.one (.ptr)]) v K w => F.vmem_caught env x.1 v K w) fits_nil mixed Go.Proofs.Try.func37 Go.Proofs.Try.call37 (by kernel_rfl) (by kernel_rfl) (by kernel_rfl) (by kernel_rfl) (by kernel_rfl) tie37

/- F.vmem_Mem_Load -/
noncomputable def C14 : Entry := fun args w K Kp => unArgs [.one (.ptr), .one (.int .u64)] args.toList fun x => F.vmem_Mem_Load env x.1 x.2.1 (fun r1 r2 w' => K (.tuple ⟨[.int .u64 r1, .int .i64 r2]⟩) w') w
noncomputable def body14 : Code := (Go.Proofs.Try.f14.body).getD .skip
def ann14 : Ann := { loops := [], joins := [] }
def T0.vmem_Mem_Load (E : Env) (c_vmem_Mem_at : ∀ (a0 : (Option Addr)) (a1 : Int) (K : Int → Int → World → Prop) (Kp : Value → World → Prop) (w : World), Prop) (a0 : (Option Addr)) (a1 : Int) (K : Int → Int → World → Prop) (w : World) : Prop :=
  AL (.cells #[.int .i64 0] E.t_api_Errno) w fun b1 w2 =>
  c_vmem_Mem_at a0 a1 (fun r3 r4 w5 =>
  NC a0 fun p6 =>
  ∃ x7 : (Option Nat), w5.cell? (p6.add 10) = some (.map x7) ∧
  LKP .u64 r3 x7 w5 (.pointer none) fun v8 ok9 es10 =>
  ∃ x11 : (Option Addr), v8 = .pointer x11 ∧
  CND (!x11.isNone) (
    NC x11 fun p12 =>
    ((0 : Int) ≤ r4 ∧ (r4 : Int) < (1024 : Nat)) ∧
    ∃ x13 : Int, w5.cell? (p12.add (Int.toNat r4 * 1)) = some (.int .u64 x13) ∧
    stCells (Addr.mk b1 0 none) 0 [.int .i64 0] w5 fun w14 =>
    F.vmem_caught E (some (Addr.mk b1 0 none)) .nilIface (fun w15 =>
      ∃ x16 : Int, w15.cell? (Addr.mk b1 0 none) = some (.int .i64 x16) ∧
      K x13 x16 w15
    ) w14
  ) (
    NC a0 fun p17 =>
    ∃ x18 : (Option Nat), w5.cell? (p17.add 9) = some (.map x18) ∧
    LKP .u64 r3 x18 w5 (.int .u64 0) fun v19 ok20 es21 =>
    ∃ x22 : Int, v19 = .int .u64 x22 ∧
    stCells (Addr.mk b1 0 none) 0 [.int .i64 0] w5 fun w23 =>
    F.vmem_caught E (some (Addr.mk b1 0 none)) .nilIface (fun w24 =>
      ∃ x25 : Int, w24.cell? (Addr.mk b1 0 none) = some (.int .i64 x25) ∧
      K x22 x25 w24
    ) w23
  )
  ) (fun v26 w27 =>
    F.vmem_caught E (some (Addr.mk b1 0 none)) v26 (fun w28 =>
      ∃ x29 : Int, w28.cell? (Addr.mk b1 0 none) = some (.int .i64 x29) ∧
      K 0 x29 w28
    ) w27
  ) w2

theorem tieZ14 (c_vmem_Mem_at : ∀ (a0 : (Option Addr)) (a1 : Int) (K : Int → Int → World → Prop) (Kp : Value → World → Prop) (w : World), Prop) (x : ArgsV [.one (.ptr), .one (.int .u64)]) (K : Value → World → Prop) (w : World) : T0.vmem_Mem_Load env c_vmem_Mem_at x.1 x.2.1 (fun r1 r2 w' => K (.tuple ⟨[.int .u64 r1, .int .i64 r2]⟩) w') w =
    evD Go.Proofs.Try.prog (tabC [(38, fun args w K Kp => unArgs [.one (.ptr), .one (.int .u64)] args.toList fun x => c_vmem_Mem_at x.1 x.2.1 (fun r1 r2 w' => K (.tuple ⟨[.int .u64 r1, .int .u64 r2]⟩) w') Kp w)]) (ground Go.Proofs.Try.prog) ann14 (finQ Go.Proofs.Try.prog Go.Proofs.Try.f14 K noP) (finD Go.Proofs.Try.prog Go.Proofs.Try.f14 (tabD [(37, D37)]) K noP) body14 (initF (mkArgs [.one (.ptr), .one (.int .u64)] x)) w := by kernel_rfl
theorem tie14 (x : ArgsV [.one (.ptr), .one (.int .u64)]) (K : Value → World → Prop) (w : World) : F.vmem_Mem_Load env x.1 x.2.1 (fun r1 r2 w' => K (.tuple ⟨[.int .u64 r1, .int .i64 r2]⟩) w') w =
    evD Go.Proofs.Try.prog (tabC [(38, C38)]) (ground Go.Proofs.Try.prog) ann14 (finQ Go.Proofs.Try.prog Go.Proofs.Try.f14 K noP) (finD Go.Proofs.Try.prog Go.Proofs.Try.f14 (tabD [(37, D37)]) K noP) body14 (initF (mkArgs [.one (.ptr), .one (.int .u64)] x)) w := tieZ14 (F.vmem_Mem_at env) x K w
theorem fits14 : FitsOne Go.Proofs.Try.prog 14 C14 :=
  fits_of_tieD (T := [(38, C38)]) (TD := [(37, D37)]) (A := ann14) (fn := Go.Proofs.Try.f14) (c := body14) (fits_cons fits38 fits_nil) (fitsD_cons fitsD37 fitsD_nil) mixed Go.Proofs.Try.func14 Go.Proofs.Try.call14 (by kernel_rfl) (by kernel_rfl) (by kernel_rfl) tie14

/- F.vmem_forget_uint64_ -/
noncomputable def C39 : Entry := fun args w K Kp => unArgs [.one (.map), .one (.int .u64), .one (.int .u64)] args.toList fun x => F.vmem_forget_uint64_ env x.1 x.2.1 x.2.2.1 (fun  w' => K (.tuple ⟨[]⟩) w') w
noncomputable def body39 : Code := (Go.Proofs.Try.f39.body).getD .skip
def ann39 : Ann := { loops := [(2, []), (7, [(7, .one (.int .u64))])], joins := [(3, [(18, .one (.bool))]), (5, [(28, .one (.bool))])] }
theorem tie39 (x : ArgsV [.one (.map), .one (.int .u64), .one (.int .u64)]) (K Kp : Value → World → Prop) (w : World) : F.vmem_forget_uint64_ env x.1 x.2.1 x.2.2.1 (fun  w' => K (.tuple ⟨[]⟩) w') w =
    ev Go.Proofs.Try.prog (tabC []) (ground Go.Proofs.Try.prog) ann39 body39 (finQ Go.Proofs.Try.prog Go.Proofs.Try.f39 K Kp) (initF (mkArgs [.one (.map), .one (.int .u64), .one (.int .u64)] x)) w := by kernel_rfl
theorem fits39 : FitsOne Go.Proofs.Try.prog 39 C39 :=
  fits_of_tie (T := []) (A := ann39) (fn := Go.Proofs.Try.f39) (c := body39) fits_nil mixed Go.Proofs.Try.func39 Go.Proofs.Try.call39 (by kernel_rfl) (by kernel_rfl) (by kernel_rfl) tie39

/- F.vmem_forget___1024_uint64_ -/
noncomputable def C40 : Entry := fun args w K Kp => unArgs [.one (.map), .one (.int .u64), .one (.int .u64)] args.toList fun x => F.vmem_forget___1024_uint64_ env x.1 x.2.1 x.2.2.1 (fun  w' => K (.tuple ⟨[]⟩) w') w
noncomputable def body40 : Code := (Go.Proofs.Try.f40.body).getD .skip
def ann40 : Ann := { loops := [(2, []), (7, [(7, .one (.int .u64))])], joins := [(3, [(18, .one (.bool))]), (5, [(28, .one (.bool))])] }
theorem tie40 (x : ArgsV [.one (.map), .one (.int .u64), .one (.int .u64)]) (K Kp : Value → World → Prop) (w : World) : F.vmem_forget___1024_uint64_ env x.1 x.2.1 x.2.2.1 (fun  w' => K (.tuple ⟨[]⟩) w') w =
    ev Go.Proofs.Try.prog (tabC []) (ground Go.Proofs.Try.prog) ann40 body40 (finQ Go.Proofs.Try.prog Go.Proofs.Try.f40 K Kp) (initF (mkArgs [.one (.map), .one (.int .u64), .one (.int .u64)] x)) w := by kernel_rfl
theorem fits40 : FitsOne Go.Proofs.Try.prog 40 C40 :=
  fits_of_tie (T := []) (A := ann40) (fn := Go.Proofs.Try.f40) (c := body40) fits_nil mixed Go.Proofs.Try.func40 Go.Proofs.Try.call40 (by kernel_rfl) (by kernel_rfl) (by kernel_rfl) tie40

/- F.vmem_Mem_Release -/
noncomputable def C15 : Entry := fun args w K Kp => unArgs [.one (.ptr), .one (.int .u64), .one (.int .u64)] args.toList fun x => F.vmem_Mem_Release env x.1 x.2.1 x.2.2.1 (fun r1 w' => K (.int .i64 r1) w') w
noncomputable def body15 : Code := (Go.Proofs.Try.f15.body).getD .skip
def ann15 : Ann := { loops := [], joins := [] }
def T0.vmem_Mem_Release (E : Env) (c_vmem_right : ∀ (a0 : Int) (a1 : Int) (K : Bool → World → Prop) (w : World), Prop) (c_stretch_Set_Count : ∀ (a0 : (Option Addr)) (a1 : Int) (a2 : Int) (K : Int → World → Prop) (w : World), Prop) (c_stretch_Set_Cut : ∀ (a0 : (Option Addr)) (a1 : Int) (a2 : Int) (K : World → Prop) (w : World), Prop) (c_stretch_Set_Add : ∀ (a0 : (Option Addr)) (a1 : Int) (a2 : Int) (K : World → Prop) (w : World), Prop) (c_vmem_forget_uint64_ : ∀ (a0 : (Option Nat)) (a1 : Int) (a2 : Int) (K : World → Prop) (w : World), Prop) (c_vmem_forget___1024_uint64_ : ∀ (a0 : (Option Nat)) (a1 : Int) (a2 : Int) (K : World → Prop) (w : World), Prop) (a0 : (Option Addr)) (a1 : Int) (a2 : Int) (K : Int → World → Prop) (w : World) : Prop :=
  c_vmem_right a1 a2 (fun r1 w2 =>
  CND (!r1) (
    K 1 w2
  ) (
    NC a0 fun p3 =>
    c_stretch_Set_Count (some (p3.add 5)) a1 (u64 (a1 + a2)) (fun r4 w5 =>
    CND ((r4 : Int) != a2) (
      K 33 w5
    ) (
      NC a0 fun p6 =>
      c_stretch_Set_Cut (some (p6.add 5)) a1 (u64 (a1 + a2)) (fun  w7 =>
      NC a0 fun p8 =>
      c_stretch_Set_Add (some (p8.add 7)) a1 (u64 (a1 + a2)) (fun  w9 =>
      NC a0 fun p10 =>
      ∃ x11 : (Option Nat), w9.cell? (p10.add 9) = some (.map x11) ∧
      c_vmem_forget_uint64_ x11 a1 (u64 (a1 + a2)) (fun  w12 =>
      NC a0 fun p13 =>
      ∃ x14 : (Option Nat), w12.cell? (p13.add 10) = some (.map x14) ∧
      c_vmem_forget___1024_uint64_ x14 a1 (u64 (a1 + a2)) (fun  w15 =>
      K 0 w15
      ) w12
      ) w9
      ) w7
      ) w5
    )
    ) w2
  )
  ) w

theorem tieZ15 (c_vmem_right : ∀ (a0 : Int) (a1 : Int) (K : Bool → World → Prop) (w : World), Prop) (c_stretch_Set_Count : ∀ (a0 : (Option Addr)) (a1 : Int) (a2 : Int) (K : Int → World → Prop) (w : World), Prop) (c_stretch_Set_Cut : ∀ (a0 : (Option Addr)) (a1 : Int) (a2 : Int) (K : World → Prop) (w : World), Prop) (c_stretch_Set_Add : ∀ (a0 : (Option Addr)) (a1 : Int) (a2 : Int) (K : World → Prop) (w : World), Prop) (c_vmem_forget_uint64_ : ∀ (a0 : (Option Nat)) (a1 : Int) (a2 : Int) (K : World → Prop) (w : World), Prop) (c_vmem_forget___1024_uint64_ : ∀ (a0 : (Option Nat)) (a1 : Int) (a2 : Int) (K : World → Prop) (w : World), Prop) (x : ArgsV [.one (.ptr), .one (.int .u64), .one (.int .u64)]) (K Kp : Value → World → Prop) (w : World) : T0.vmem_Mem_Release env c_vmem_right c_stretch_Set_Count c_stretch_Set_Cut c_stretch_Set_Add c_vmem_forget_uint64_ c_vmem_forget___1024_uint64_ x.1 x.2.1 x.2.2.1 (fun r1 w' => K (.int .i64 r1) w') w =
    ev Go.Proofs.Try.prog (tabC [(33, fun args w K Kp => unArgs [.one (.int .u64), .one (.int .u64)] args.toList fun x => c_vmem_right x.1 x.2.1 (fun r1 w' => K (.bool r1) w') w), (34, fun args w K Kp => unArgs [.one (.ptr), .one (.int .u64), .one (.int .u64)] args.toList fun x => c_stretch_Set_Count x.1 x.2.1 x.2.2.1 (fun r1 w' => K (.int .u64 r1) w') w), (36, fun args w K Kp => unArgs [.one (.ptr), .one (.int .u64), .one (.int .u64)] args.toList fun x => c_stretch_Set_Cut x.1 x.2.1 x.2.2.1 (fun  w' => K (.tuple ⟨[]⟩) w') w), (32, fun args w K Kp => unArgs [.one (.ptr), .one (.int .u64), .one (.int .u64)] args.toList fun x => c_stretch_Set_Add x.1 x.2.1 x.2.2.1 (fun  w' => K (.tuple ⟨[]⟩) w') w), (39, fun args w K Kp => unArgs [.one (.map), .one (.int .u64), .one (.int .u64)] args.toList fun x => c_vmem_forget_uint64_ x.1 x.2.1 x.2.2.1 (fun  w' => K (.tuple ⟨[]⟩) w') w), (40, fun args w K Kp => unArgs [.one (.map), .one (.int .u64), .one (.int .u64)] args.toList fun x => c_vmem_forget___1024_uint64_ x.1 x.2.1 x.2.2.1 (fun  w' => K (.tuple ⟨[]⟩) w') w)]) (ground Go.Proofs.Try.prog) ann15 body15 (finQ Go.Proofs.Try.prog Go.Proofs.Try.f15 K Kp) (initF (mkArgs [.one (.ptr), .one (.int .u64), .one (.int .u64)] x)) w := by kernel_rfl
theorem tie15 (x : ArgsV [.one (.ptr), .one (.int .u64), .one (.int .u64)]) (K Kp : Value → World → Prop) (w : World) : F.vmem_Mem_Release env x.1 x.2.1 x.2.2.1 (fun r1 w' => K (.int .i64 r1) w') w =
    ev Go.Proofs.Try.prog (tabC [(33, C33), (34, C34), (36, C36), (32, C32), (39, C39), (40, C40)]) (ground Go.Proofs.Try.prog) ann15 body15 (finQ Go.Proofs.Try.prog Go.Proofs.Try.f15 K Kp) (initF (mkArgs [.one (.ptr), .one (.int .u64), .one (.int .u64)] x)) w := tieZ15 (F.vmem_right env) (F.stretch_Set_Count env) (F.stretch_Set_Cut env) (F.stretch_Set_Add env) (F.vmem_forget_uint64_ env) (F.vmem_forget___1024_uint64_ env) x K Kp w
theorem fits15 : FitsOne Go.Proofs.Try.prog 15 C15 :=
  fits_of_tie (T := [(33, C33), (34, C34), (36, C36), (32, C32), (39, C39), (40, C40)]) (A := ann15) (fn := Go.Proofs.Try.f15) (c := body15) (fits_cons fits33 (fits_cons fits34 (fits_cons fits36 (fits_cons fits32 (fits_cons fits39 (fits_cons fits40 fits_nil)))))) mixed Go.Proofs.Try.func15 Go.Proofs.Try.call15 (by kernel_rfl) (by kernel_rfl) (by kernel_rfl) tie15

/- F.stretch_Set_Sum -/
noncomputable def C41 : Entry := fun args w K Kp => unArgs [.one (.ptr)] args.toList fun x => F.stretch_Set_Sum env x.1 (fun r1 w' => K (.int .u64 r1) w') w
noncomputable def body41 : Code := (Go.Proofs.Try.f41.body).getD .skip
def ann41 : Ann := { loops := [], joins := [] }
theorem tie41 (x : ArgsV [.one (.ptr)]) (K Kp : Value → World → Prop) (w : World) : F.stretch_Set_Sum env x.1 (fun r1 w' => K (.int .u64 r1) w') w =
    ev Go.Proofs.Try.prog (tabC []) (ground Go.Proofs.Try.prog) ann41 body41 (finQ Go.Proofs.Try.prog Go.Proofs.Try.f41 K Kp) (initF (mkArgs [.one (.ptr)] x)) w := by kernel_rfl
theorem fits41 : FitsOne Go.Proofs.Try.prog 41 C41 :=
  fits_of_tie (T := []) (A := ann41) (fn := Go.Proofs.Try.f41) (c := body41) fits_nil mixed Go.Proofs.Try.func41 Go.Proofs.Try.call41 (by kernel_rfl) (by kernel_rfl) (by kernel_rfl) tie41

/- F.vmem_Mem_Count -/
noncomputable def C16 : Entry := fun args w K Kp => unArgs [.one (.ptr), .one (.int .i64)] args.toList fun x => F.vmem_Mem_Count env x.1 x.2.1 (fun r1 w' => K (.int .u64 r1) w') w
noncomputable def body16 : Code := (Go.Proofs.Try.f16.body).getD .skip
def ann16 : Ann := { loops := [], joins := [] }
def T0.vmem_Mem_Count (E : Env) (c_stretch_Set_Sum : ∀ (a0 : (Option Addr)) (K : Int → World → Prop) (w : World), Prop) (a0 : (Option Addr)) (a1 : Int) (K : Int → World → Prop) (w : World) : Prop :=
  CND ((a1 : Int) == 2) (
    NC a0 fun p1 =>
    c_stretch_Set_Sum (some (p1.add 5)) (fun r2 w3 =>
    K r2 w3
    ) w
  ) (
    CND ((a1 : Int) == 3) (
      NC a0 fun p4 =>
      c_stretch_Set_Sum (some (p4.add 7)) (fun r5 w6 =>
      K r5 w6
      ) w
    ) (
      CND ((a1 : Int) == 1) (
        NC a0 fun p7 =>
        NC a0 fun p8 =>
        NC a0 fun p9 =>
        c_stretch_Set_Sum (some (p7.add 3)) (fun r10 w11 =>
        c_stretch_Set_Sum (some (p8.add 5)) (fun r12 w13 =>
        c_stretch_Set_Sum (some (p9.add 7)) (fun r14 w15 =>
        LET (u64 ((u64 (r10 - r12)) - r14) : Int) fun t16 =>
        K t16 w15
        ) w13
        ) w11
        ) w.drew
      ) (
        K 0 w
      )
    )
  )

theorem tieZ16 (c_stretch_Set_Sum : ∀ (a0 : (Option Addr)) (K : Int → World → Prop) (w : World), Prop) (x : ArgsV [.one (.ptr), .one (.int .i64)]) (K Kp : Value → World → Prop) (w : World) : T0.vmem_Mem_Count env c_stretch_Set_Sum x.1 x.2.1 (fun r1 w' => K (.int .u64 r1) w') w =
    ev Go.Proofs.Try.prog (tabC [(41, fun args w K Kp => unArgs [.one (.ptr)] args.toList fun x => c_stretch_Set_Sum x.1 (fun r1 w' => K (.int .u64 r1) w') w)]) (ground Go.Proofs.Try.prog) ann16 body16 (finQ Go.Proofs.Try.prog Go.Proofs.Try.f16 K Kp) (initF (mkArgs [.one (.ptr), .one (.int .i64)] x)) w := by kernel_rfl
theorem tie16 (x : ArgsV [.one (.ptr), .one (.int .i64)]) (K Kp : Value → World → Prop) (w : World) : F.vmem_Mem_Count env x.1 x.2.1 (fun r1 w' => K (.int .u64 r1) w') w =
    ev Go.Proofs.Try.prog (tabC [(41, C41)]) (ground Go.Proofs.Try.prog) ann16 body16 (finQ Go.Proofs.Try.prog Go.Proofs.Try.f16 K Kp) (initF (mkArgs [.one (.ptr), .one (.int .i64)] x)) w := tieZ16 (F.stretch_Set_Sum env) x K Kp w
theorem fits16 : FitsOne Go.Proofs.Try.prog 16 C16 :=
  fits_of_tie (T := [(41, C41)]) (A := ann16) (fn := Go.Proofs.Try.f16) (c := body16) (fits_cons fits41 fits_nil) mixed Go.Proofs.Try.func16 Go.Proofs.Try.call16 (by kernel_rfl) (by kernel_rfl) (by kernel_rfl) tie16

/- F.vmem_Mem_stored -/
noncomputable def C42 : Entry := fun args w K Kp => unArgs [.one (.ptr), .one (.int .u64)] args.toList fun x => F.vmem_Mem_stored env x.1 x.2.1 (fun r1 w' => K (.pointer r1) w') w
noncomputable def body42 : Code := (Go.Proofs.Try.f42.body).getD .skip
def ann42 : Ann := { loops := [(5, [(16, .one (.int .i64))])], joins := [] }
theorem tie42 (x : ArgsV [.one (.ptr), .one (.int .u64)]) (K Kp : Value → World → Prop) (w : World) : F.vmem_Mem_stored env x.1 x.2.1 (fun r1 w' => K (.pointer r1) w') w =
    ev Go.Proofs.Try.prog (tabC []) (ground Go.Proofs.Try.prog) ann42 body42 (finQ Go.Proofs.Try.prog Go.Proofs.Try.f42 K Kp) (initF (mkArgs [.one (.ptr), .one (.int .u64)] x)) w := by kernel_rfl
theorem fits42 : FitsOne Go.Proofs.Try.prog 42 C42 :=
  fits_of_tie (T := []) (A := ann42) (fn := Go.Proofs.Try.f42) (c := body42) fits_nil mixed Go.Proofs.Try.func42 Go.Proofs.Try.call42 (by kernel_rfl) (by kernel_rfl) (by kernel_rfl) tie42

/- F.vmem_Mem_Store -/
noncomputable def C18 : Entry := fun args w K Kp => unArgs [.one (.ptr), .one (.int .u64), .one (.int .u64)] args.toList fun x => F.vmem_Mem_Store env x.1 x.2.1 x.2.2.1 (fun r1 w' => K (.int .i64 r1) w') w
noncomputable def body18 : Code := (Go.Proofs.Try.f18.body).getD .skip
def ann18 : Ann := { loops := [], joins := [] }
def T0.vmem_Mem_Store (E : Env) (c_vmem_Mem_at : ∀ (a0 : (Option Addr)) (a1 : Int) (K : Int → Int → World → Prop) (Kp : Value → World → Prop) (w : World), Prop) (c_vmem_Mem_stored : ∀ (a0 : (Option Addr)) (a1 : Int) (K : (Option Addr) → World → Prop) (w : World), Prop) (a0 : (Option Addr)) (a1 : Int) (a2 : Int) (K : Int → World → Prop) (w : World) : Prop :=
  AL (.cells #[.int .i64 0] E.t_api_Errno) w fun b1 w2 =>
  c_vmem_Mem_at a0 a1 (fun r3 r4 w5 =>
  c_vmem_Mem_stored a0 r3 (fun r6 w7 =>
  NC r6 fun p8 =>
  ((0 : Int) ≤ r4 ∧ (r4 : Int) < (1024 : Nat)) ∧
  stCells (p8.add (Int.toNat r4 * 1)) 0 [.int .u64 a2] w7 fun w9 =>
  stCells (Addr.mk b1 0 none) 0 [.int .i64 0] w9 fun w10 =>
  F.vmem_caught E (some (Addr.mk b1 0 none)) .nilIface (fun w11 =>
    ∃ x12 : Int, w11.cell? (Addr.mk b1 0 none) = some (.int .i64 x12) ∧
    K x12 w11
  ) w10
  ) w5
  ) (fun v13 w14 =>
    F.vmem_caught E (some (Addr.mk b1 0 none)) v13 (fun w15 =>
      ∃ x16 : Int, w15.cell? (Addr.mk b1 0 none) = some (.int .i64 x16) ∧
      K x16 w15
    ) w14
  ) w2

theorem tieZ18 (c_vmem_Mem_at : ∀ (a0 : (Option Addr)) (a1 : Int) (K : Int → Int → World → Prop) (Kp : Value → World → Prop) (w : World), Prop) (c_vmem_Mem_stored : ∀ (a0 : (Option Addr)) (a1 : Int) (K : (Option Addr) → World → Prop) (w : World), Prop) (x : ArgsV [.one (.ptr), .one (.int .u64), .one (.int .u64)]) (K : Value → World → Prop) (w : World) : T0.vmem_Mem_Store env c_vmem_Mem_at c_vmem_Mem_stored x.1 x.2.1 x.2.2.1 (fun r1 w' => K (.int .i64 r1) w') w =
    evD Go.Proofs.Try.prog (tabC [(38, fun args w K Kp => unArgs [.one (.ptr), .one (.int .u64)] args.toList fun x => c_vmem_Mem_at x.1 x.2.1 (fun r1 r2 w' => K (.tuple ⟨[.int .u64 r1, .int .u64 r2]⟩) w') Kp w), (42, fun args w K Kp => unArgs [.one (.ptr), .one (.int .u64)] args.toList fun x => c_vmem_Mem_stored x.1 x.2.1 (fun r1 w' => K (.pointer r1) w') w)]) (ground Go.Proofs.Try.prog) ann18 (finQ Go.Proofs.Try.prog Go.Proofs.Try.f18 K noP) (finD Go.Proofs.Try.prog Go.Proofs.Try.f18 (tabD [(37, D37)]) K noP) body18 (initF (mkArgs [.one (.ptr), .one (.int .u64), .one (.int .u64)] x)) w := by kernel_rfl
theorem tie18 (x : ArgsV [.one (.ptr), .one (.int .u64), .one (.int .u64)]) (K : Value → World → Prop) (w : World) : F.vmem_Mem_Store env x.1 x.2.1 x.2.2.1 (fun r1 w' => K (.int .i64 r1) w') w =
    evD Go.Proofs.Try.prog (tabC [(38, C38), (42, C42)]) (ground Go.Proofs.Try.prog) ann18 (finQ Go.Proofs.Try.prog Go.Proofs.Try.f18 K noP) (finD Go.Proofs.Try.prog Go.Proofs.Try.f18 (tabD [(37, D37)]) K noP) body18 (initF (mkArgs [.one (.ptr), .one (.int .u64), .one (.int .u64)] x)) w := tieZ18 (F.vmem_Mem_at env) (F.vmem_Mem_stored env) x K w
theorem fits18 : FitsOne Go.Proofs.Try.prog 18 C18 :=
  fits_of_tieD (T := [(38, C38), (42, C42)]) (TD := [(37, D37)]) (A := ann18) (fn := Go.Proofs.Try.f18) (c := body18) (fits_cons fits38 (fits_cons fits42 fits_nil)) (fitsD_cons fitsD37 fitsD_nil) mixed Go.Proofs.Try.func18 Go.Proofs.Try.call18 (by kernel_rfl) (by kernel_rfl) (by kernel_rfl) tie18

/- F.vmem_Mem_State -/
noncomputable def C19 : Entry := fun args w K Kp => unArgs [.one (.ptr), .one (.int .u64)] args.toList fun x => F.vmem_Mem_State env x.1 x.2.1 (fun r1 w' => K (.int .i64 r1) w') w
noncomputable def body19 : Code := (Go.Proofs.Try.f19.body).getD .skip
def ann19 : Ann := { loops := [], joins := [] }
def T0.vmem_Mem_State (E : Env) (c_stretch_Set_Has : ∀ (a0 : (Option Addr)) (a1 : Int) (K : Bool → World → Prop) (w : World), Prop) (a0 : (Option Addr)) (a1 : Int) (K : Int → World → Prop) (w : World) : Prop :=
  NC a0 fun p1 =>
  c_stretch_Set_Has (some (p1.add 3)) a1 (fun r2 w3 =>
  CND (!r2) (
    K 0 w3
  ) (
    NC a0 fun p4 =>
    c_stretch_Set_Has (some (p4.add 5)) a1 (fun r5 w6 =>
    CND (r5) (
      K 2 w6
    ) (
      NC a0 fun p7 =>
      c_stretch_Set_Has (some (p7.add 7)) a1 (fun r8 w9 =>
      CND (r8) (
        K 3 w9
      ) (
        K 1 w9
      )
      ) w6
    )
    ) w3
  )
  ) w

theorem tieZ19 (c_stretch_Set_Has : ∀ (a0 : (Option Addr)) (a1 : Int) (K : Bool → World → Prop) (w : World), Prop) (x : ArgsV [.one (.ptr), .one (.int .u64)]) (K Kp : Value → World → Prop) (w : World) : T0.vmem_Mem_State env c_stretch_Set_Has x.1 x.2.1 (fun r1 w' => K (.int .i64 r1) w') w =
    ev Go.Proofs.Try.prog (tabC [(43, fun args w K Kp => unArgs [.one (.ptr), .one (.int .u64)] args.toList fun x => c_stretch_Set_Has x.1 x.2.1 (fun r1 w' => K (.bool r1) w') w)]) (ground Go.Proofs.Try.prog) ann19 body19 (finQ Go.Proofs.Try.prog Go.Proofs.Try.f19 K Kp) (initF (mkArgs [.one (.ptr), .one (.int .u64)] x)) w := by kernel_rfl
theorem tie19 (x : ArgsV [.one (.ptr), .one (.int .u64)]) (K Kp : Value → World → Prop) (w : World) : F.vmem_Mem_State env x.1 x.2.1 (fun r1 w' => K (.int .i64 r1) w') w =
    ev Go.Proofs.Try.prog (tabC [(43, C43)]) (ground Go.Proofs.Try.prog) ann19 body19 (finQ Go.Proofs.Try.prog Go.Proofs.Try.f19 K Kp) (initF (mkArgs [.one (.ptr), .one (.int .u64)] x)) w := tieZ19 (F.stretch_Set_Has env) x K Kp w
theorem fits19 : FitsOne Go.Proofs.Try.prog 19 C19 :=
  fits_of_tie (T := [(43, C43)]) (A := ann19) (fn := Go.Proofs.Try.f19) (c := body19) (fits_cons fits43 fits_nil) mixed Go.Proofs.Try.func19 Go.Proofs.Try.call19 (by kernel_rfl) (by kernel_rfl) (by kernel_rfl) tie19

/- F.mallowlaw3_awake -/
noncomputable def C17 : Entry := fun args w K Kp => unArgs [] args.toList fun x => F.mallowlaw3_awake env  (fun r1 w' => K (.bool r1) w') w
noncomputable def body17 : Code := (Go.Proofs.Try.f17.body).getD .skip
def ann17 : Ann := { loops := [], joins := [] }
def T0.mallowlaw3_awake (E : Env) (c_vmem_New : ∀ (a0_0 : SlV) (a0_1 : SlV) (a0_2 : SlV) (K : (Option Addr) → World → Prop) (w : World), Prop) (c_vmem_Mem_Reserve : ∀ (a0 : (Option Addr)) (a1 : Int) (a2 : Int) (K : Int → Int → World → Prop) (w : World), Prop) (c_vmem_Mem_Commit : ∀ (a0 : (Option Addr)) (a1 : Int) (a2 : Int) (K : Int → World → Prop) (w : World), Prop) (c_vmem_Mem_Store : ∀ (a0 : (Option Addr)) (a1 : Int) (a2 : Int) (K : Int → World → Prop) (w : World), Prop) (c_vmem_Mem_Load : ∀ (a0 : (Option Addr)) (a1 : Int) (K : Int → Int → World → Prop) (w : World), Prop) (c_vmem_Mem_Release : ∀ (a0 : (Option Addr)) (a1 : Int) (a2 : Int) (K : Int → World → Prop) (w : World), Prop) (c_vmem_Mem_State : ∀ (a0 : (Option Addr)) (a1 : Int) (K : Int → World → Prop) (w : World), Prop) (c_vmem_Mem_Count : ∀ (a0 : (Option Addr)) (a1 : Int) (K : Int → World → Prop) (w : World), Prop) (K : Bool → World → Prop) (w : World) : Prop :=
  c_vmem_New ⟨none, 0, 0⟩ ⟨none, 0, 0⟩ ⟨none, 0, 0⟩ (fun r1 w2 =>
  CND (r1.isNone) (
    K false w2
  ) (
    c_vmem_Mem_Reserve r1 0 512 (fun r3 r4 w5 =>
    c_vmem_Mem_Commit r1 512 1 (fun r6 w7 =>
    c_vmem_Mem_Store r1 4194304 5 (fun r8 w9 =>
    c_vmem_Mem_Load r1 4194304 (fun r10 r11 w12 =>
    c_vmem_Mem_Release r1 512 1 (fun r13 w14 =>
    CND ((r3 : Int) == 512) (
      CND ((r4 : Int) == 0) (
        CND ((r6 : Int) == 0) (
          CND ((r8 : Int) == 0) (
            CND ((r10 : Int) == 5) (
              CND ((r11 : Int) == 0) (
                CND ((r13 : Int) == 0) (
                  c_vmem_Mem_State r1 512 (fun r15 w16 =>
                  CND ((r15 : Int) == 3) (
                    c_vmem_Mem_Count r1 1 (fun r17 w18 =>
                    K ((r17 : Int) == 511) w18
                    ) w16
                  ) (
                    K false w16
                  )
                  ) w14
                ) (
                  K false w14
                )
              ) (
                K false w14
              )
            ) (
              K false w14
            )
          ) (
            K false w14
          )
        ) (
          K false w14
        )
      ) (
        K false w14
      )
    ) (
      K false w14
    )
    ) w12
    ) w9
    ) w7
    ) w5
    ) w2
  )
  ) w

theorem tieZ17 (c_vmem_New : ∀ (a0_0 : SlV) (a0_1 : SlV) (a0_2 : SlV) (K : (Option Addr) → World → Prop) (w : World), Prop) (c_vmem_Mem_Reserve : ∀ (a0 : (Option Addr)) (a1 : Int) (a2 : Int) (K : Int → Int → World → Prop) (w : World), Prop) (c_vmem_Mem_Commit : ∀ (a0 : (Option Addr)) (a1 : Int) (a2 : Int) (K : Int → World → Prop) (w : World), Prop) (c_vmem_Mem_Store : ∀ (a0 : (Option Addr)) (a1 : Int) (a2 : Int) (K : Int → World → Prop) (w : World), Prop) (c_vmem_Mem_Load : ∀ (a0 : (Option Addr)) (a1 : Int) (K : Int → Int → World → Prop) (w : World), Prop) (c_vmem_Mem_Release : ∀ (a0 : (Option Addr)) (a1 : Int) (a2 : Int) (K : Int → World → Prop) (w : World), Prop) (c_vmem_Mem_State : ∀ (a0 : (Option Addr)) (a1 : Int) (K : Int → World → Prop) (w : World), Prop) (c_vmem_Mem_Count : ∀ (a0 : (Option Addr)) (a1 : Int) (K : Int → World → Prop) (w : World), Prop) (x : ArgsV []) (K Kp : Value → World → Prop) (w : World) : T0.mallowlaw3_awake env c_vmem_New c_vmem_Mem_Reserve c_vmem_Mem_Commit c_vmem_Mem_Store c_vmem_Mem_Load c_vmem_Mem_Release c_vmem_Mem_State c_vmem_Mem_Count  (fun r1 w' => K (.bool r1) w') w =
    ev Go.Proofs.Try.prog (tabC [(11, fun args w K Kp => unArgs [.agg [.sl, .sl, .sl]] args.toList fun x => c_vmem_New x.1.1 x.1.2.1 x.1.2.2.1 (fun r1 w' => K (.pointer r1) w') w), (12, fun args w K Kp => unArgs [.one (.ptr), .one (.int .u64), .one (.int .u64)] args.toList fun x => c_vmem_Mem_Reserve x.1 x.2.1 x.2.2.1 (fun r1 r2 w' => K (.tuple ⟨[.int .u64 r1, .int .i64 r2]⟩) w') w), (13, fun args w K Kp => unArgs [.one (.ptr), .one (.int .u64), .one (.int .u64)] args.toList fun x => c_vmem_Mem_Commit x.1 x.2.1 x.2.2.1 (fun r1 w' => K (.int .i64 r1) w') w), (18, fun args w K Kp => unArgs [.one (.ptr), .one (.int .u64), .one (.int .u64)] args.toList fun x => c_vmem_Mem_Store x.1 x.2.1 x.2.2.1 (fun r1 w' => K (.int .i64 r1) w') w), (14, fun args w K Kp => unArgs [.one (.ptr), .one (.int .u64)] args.toList fun x => c_vmem_Mem_Load x.1 x.2.1 (fun r1 r2 w' => K (.tuple ⟨[.int .u64 r1, .int .i64 r2]⟩) w') w), (15, fun args w K Kp => unArgs [.one (.ptr), .one (.int .u64), .one (.int .u64)] args.toList fun x => c_vmem_Mem_Release x.1 x.2.1 x.2.2.1 (fun r1 w' => K (.int .i64 r1) w') w), (19, fun args w K Kp => unArgs [.one (.ptr), .one (.int .u64)] args.toList fun x => c_vmem_Mem_State x.1 x.2.1 (fun r1 w' => K (.int .i64 r1) w') w), (16, fun args w K Kp => unArgs [.one (.ptr), .one (.int .i64)] args.toList fun x => c_vmem_Mem_Count x.1 x.2.1 (fun r1 w' => K (.int .u64 r1) w') w)]) (ground Go.Proofs.Try.prog) ann17 body17 (finQ Go.Proofs.Try.prog Go.Proofs.Try.f17 K Kp) (initF (mkArgs [] x)) w := by kernel_rfl
theorem tie17 (x : ArgsV []) (K Kp : Value → World → Prop) (w : World) : F.mallowlaw3_awake env  (fun r1 w' => K (.bool r1) w') w =
    ev Go.Proofs.Try.prog (tabC [(11, C11), (12, C12), (13, C13), (18, C18), (14, C14), (15, C15), (19, C19), (16, C16)]) (ground Go.Proofs.Try.prog) ann17 body17 (finQ Go.Proofs.Try.prog Go.Proofs.Try.f17 K Kp) (initF (mkArgs [] x)) w := tieZ17 (F.vmem_New env) (F.vmem_Mem_Reserve env) (F.vmem_Mem_Commit env) (F.vmem_Mem_Store env) (F.vmem_Mem_Load env) (F.vmem_Mem_Release env) (F.vmem_Mem_State env) (F.vmem_Mem_Count env) x K Kp w
theorem fits17 : FitsOne Go.Proofs.Try.prog 17 C17 :=
  fits_of_tie (T := [(11, C11), (12, C12), (13, C13), (18, C18), (14, C14), (15, C15), (19, C19), (16, C16)]) (A := ann17) (fn := Go.Proofs.Try.f17) (c := body17) (fits_cons fits11 (fits_cons fits12 (fits_cons fits13 (fits_cons fits18 (fits_cons fits14 (fits_cons fits15 (fits_cons fits19 (fits_cons fits16 fits_nil)))))))) mixed Go.Proofs.Try.func17 Go.Proofs.Try.call17 (by kernel_rfl) (by kernel_rfl) (by kernel_rfl) tie17

/- F.mallowlaw3_VmemFills -/
noncomputable def C3 : Entry := fun args w K Kp => unArgs [.one (.sl), .one (.int .i64), .one (.int .u64)] args.toList fun x => F.mallowlaw3_VmemFills env x.1 x.2.1 x.2.2.1 (fun r1 w' => K (.bool r1) w') w
noncomputable def body3 : Code := (Go.Proofs.Try.f3.body).getD .skip
def ann3 : Ann := { loops := [(11, [(10, .one (.int .i64)), (11, .one (.int .i64))]), (14, [(10, .one (.int .i64)), (12, .one (.int .u64))])], joins := [(2, [(34, .one (.bool))]), (8, [(55, .one (.bool))]), (18, [(73, .one (.bool))]), (20, [(10, .one (.int .i64)), (13, .one (.int .u64))]), (22, [(98, .one (.bool))]), (24, [(110, .one (.bool))])] }
def T0.mallowlaw3_VmemFills (E : Env) (c_vmem_New : ∀ (a0_0 : SlV) (a0_1 : SlV) (a0_2 : SlV) (K : (Option Addr) → World → Prop) (w : World), Prop) (c_vmem_Mem_Reserve : ∀ (a0 : (Option Addr)) (a1 : Int) (a2 : Int) (K : Int → Int → World → Prop) (w : World), Prop) (c_vmem_Mem_Commit : ∀ (a0 : (Option Addr)) (a1 : Int) (a2 : Int) (K : Int → World → Prop) (w : World), Prop) (c_vmem_Mem_Load : ∀ (a0 : (Option Addr)) (a1 : Int) (K : Int → Int → World → Prop) (w : World), Prop) (c_vmem_Mem_Release : ∀ (a0 : (Option Addr)) (a1 : Int) (a2 : Int) (K : Int → World → Prop) (w : World), Prop) (c_vmem_Mem_Count : ∀ (a0 : (Option Addr)) (a1 : Int) (K : Int → World → Prop) (w : World), Prop) (c_mallowlaw3_awake : ∀ (K : Bool → World → Prop) (w : World), Prop) (a0 : SlV) (a1 : Int) (a2 : Int) (K : Bool → World → Prop) (w : World) : Prop :=
  JOIN (Bool × Unit) (fun J1 =>
    CND (decide ((((a0.len : Nat) : Int) : Int) > 50)) (
      J1 (true, ()) w
    ) (
      CND (decide ((a1 : Int) < 0)) (
        J1 (true, ()) w
      ) (
        CND (decide ((a1 : Int) > 10)) (
          J1 (true, ()) w
        ) (
          CND (decide ((a2 : Int) < 1)) (
            J1 (true, ()) w
          ) (
            J1 (decide ((a2 : Int) > 10), ()) w
          )
        )
      )
    )
  ) fun s2 _ w3 =>
    CND (s2.1) (
      K true w3
    ) (
      AL (.cells ⟨[]⟩ E.t_uint64) w3 fun b4 w5 =>
      APP E.t_uint64 1 8 #[.int .u64 0] ⟨(some (Addr.mk b4 0 none)), 0, 0⟩ a0 w5 fun s6 w7 =>
      c_vmem_New ⟨none, 0, 0⟩ ⟨none, 0, 0⟩ s6 (fun r8 w9 =>
      CND (r8.isNone) (
        K false w9
      ) (
        c_vmem_Mem_Reserve r8 0 512 (fun r10 r11 w12 =>
        JOIN (Bool × Unit) (fun J13 =>
          CND ((r11 : Int) != 0) (
            J13 (true, ()) w12
          ) (
            c_vmem_Mem_Commit r8 r10 a2 (fun r16 w17 =>
            J13 ((r16 : Int) != 0, ()) w17
            ) w12
          )
        ) fun s14 _ w15 =>
          CND (s14.1) (
            K false w15
          ) (
            LOOP (Int × Int × Unit) (0, 0, ()) w15 fun s18 _ w19 next20 =>
              CND (decide ((s18.2.1 : Int) ≤ a1)) (
                LOOP (Int × Int × Unit) (s18.1, 0, ()) w19 fun s21 _ w22 next23 =>
                  CND (decide ((s21.2.1 : Int) < a2)) (
                    JOIN (Int × Int × Unit) (fun J24 =>
                      JOIN (Bool × Unit) (fun J27 =>
                        CND (decide ((s18.2.1 : Int) > 0)) (
                          J27 (decide ((s21.1 : Int) < ((a0.len : Nat) : Int)), ()) w22
                        ) (
                          J27 (false, ()) w22
                        )
                      ) fun s28 _ w29 =>
                        CND (s28.1) (
                          NC a0.base fun p30 =>
                          ((0 : Int) ≤ s21.1 ∧ (s21.1 : Int) < (a0.len : Nat)) ∧
                          ∃ x31 : Int, w29.cell? (p30.add (Int.toNat s21.1 * 1)) = some (.int .u64 x31) ∧
                          J24 (i64 (s21.1 + 1), x31, ()) w29
                        ) (
                          J24 (s21.1, 0, ()) w29
                        )
                    ) fun s25 _ w26 =>
                      c_vmem_Mem_Load r8 (u64 ((u64 ((u64 (r10 + s21.2.1)) * 8192)) + (u64 (8 * s21.2.1)))) (fun r32 r33 w34 =>
                      JOIN (Bool × Unit) (fun J35 =>
                        CND ((r32 : Int) != s25.2.1) (
                          J35 (true, ()) w34
                        ) (
                          J35 ((r33 : Int) != 0, ()) w34
                        )
                      ) fun s36 _ w37 =>
                        CND (s36.1) (
                          K false w37
                        ) (
                          next23 (s25.1, u64 (s21.2.1 + 1), ()) w37
                        )
                      ) w26
                  ) (
                    JOIN (Bool × Unit) (fun J38 =>
                      c_vmem_Mem_Release r8 r10 a2 (fun r41 w42 =>
                      CND ((r41 : Int) != 0) (
                        J38 (true, ()) w42
                      ) (
                        c_vmem_Mem_Commit r8 r10 a2 (fun r43 w44 =>
                        J38 ((r43 : Int) != 0, ()) w44
                        ) w42
                      )
                      ) w22
                    ) fun s39 _ w40 =>
                      CND (s39.1) (
                        K false w40
                      ) (
                        next20 (s21.1, i64 (s18.2.1 + 1), ()) w40
                      )
                  )
              ) (
                c_vmem_Mem_Count r8 2 (fun r45 w46 =>
                CND ((r45 : Int) == a2) (
                  c_mallowlaw3_awake  (fun r47 w48 =>
                  K r47 w48
                  ) w46
                ) (
                  K false w46
                )
                ) w19
              )
          )
        ) w9
      )
      ) w7
    )

theorem tieZ3 (c_vmem_New : ∀ (a0_0 : SlV) (a0_1 : SlV) (a0_2 : SlV) (K : (Option Addr) → World → Prop) (w : World), Prop) (c_vmem_Mem_Reserve : ∀ (a0 : (Option Addr)) (a1 : Int) (a2 : Int) (K : Int → Int → World → Prop) (w : World), Prop) (c_vmem_Mem_Commit : ∀ (a0 : (Option Addr)) (a1 : Int) (a2 : Int) (K : Int → World → Prop) (w : World), Prop) (c_vmem_Mem_Load : ∀ (a0 : (Option Addr)) (a1 : Int) (K : Int → Int → World → Prop) (w : World), Prop) (c_vmem_Mem_Release : ∀ (a0 : (Option Addr)) (a1 : Int) (a2 : Int) (K : Int → World → Prop) (w : World), Prop) (c_vmem_Mem_Count : ∀ (a0 : (Option Addr)) (a1 : Int) (K : Int → World → Prop) (w : World), Prop) (c_mallowlaw3_awake : ∀ (K : Bool → World → Prop) (w : World), Prop) (x : ArgsV [.one (.sl), .one (.int .i64), .one (.int .u64)]) (K Kp : Value → World → Prop) (w : World) : T0.mallowlaw3_VmemFills env c_vmem_New c_vmem_Mem_Reserve c_vmem_Mem_Commit c_vmem_Mem_Load c_vmem_Mem_Release c_vmem_Mem_Count c_mallowlaw3_awake x.1 x.2.1 x.2.2.1 (fun r1 w' => K (.bool r1) w') w =
    ev Go.Proofs.Try.prog (tabC [(11, fun args w K Kp => unArgs [.agg [.sl, .sl, .sl]] args.toList fun x => c_vmem_New x.1.1 x.1.2.1 x.1.2.2.1 (fun r1 w' => K (.pointer r1) w') w), (12, fun args w K Kp => unArgs [.one (.ptr), .one (.int .u64), .one (.int .u64)] args.toList fun x => c_vmem_Mem_Reserve x.1 x.2.1 x.2.2.1 (fun r1 r2 w' => K (.tuple ⟨[.int .u64 r1, .int .i64 r2]⟩) w') w), (13, fun args w K Kp => unArgs [.one (.ptr), .one (.int .u64), .one (.int .u64)] args.toList fun x => c_vmem_Mem_Commit x.1 x.2.1 x.2.2.1 (fun r1 w' => K (.int .i64 r1) w') w), (14, fun args w K Kp => unArgs [.one (.ptr), .one (.int .u64)] args.toList fun x => c_vmem_Mem_Load x.1 x.2.1 (fun r1 r2 w' => K (.tuple ⟨[.int .u64 r1, .int .i64 r2]⟩) w') w), (15, fun args w K Kp => unArgs [.one (.ptr), .one (.int .u64), .one (.int .u64)] args.toList fun x => c_vmem_Mem_Release x.1 x.2.1 x.2.2.1 (fun r1 w' => K (.int .i64 r1) w') w), (16, fun args w K Kp => unArgs [.one (.ptr), .one (.int .i64)] args.toList fun x => c_vmem_Mem_Count x.1 x.2.1 (fun r1 w' => K (.int .u64 r1) w') w), (17, fun args w K Kp => unArgs [] args.toList fun x => c_mallowlaw3_awake  (fun r1 w' => K (.bool r1) w') w)]) (ground Go.Proofs.Try.prog) ann3 body3 (finQ Go.Proofs.Try.prog Go.Proofs.Try.f3 K Kp) (initF (mkArgs [.one (.sl), .one (.int .i64), .one (.int .u64)] x)) w := by kernel_rfl
theorem tie3 (x : ArgsV [.one (.sl), .one (.int .i64), .one (.int .u64)]) (K Kp : Value → World → Prop) (w : World) : F.mallowlaw3_VmemFills env x.1 x.2.1 x.2.2.1 (fun r1 w' => K (.bool r1) w') w =
    ev Go.Proofs.Try.prog (tabC [(11, C11), (12, C12), (13, C13), (14, C14), (15, C15), (16, C16), (17, C17)]) (ground Go.Proofs.Try.prog) ann3 body3 (finQ Go.Proofs.Try.prog Go.Proofs.Try.f3 K Kp) (initF (mkArgs [.one (.sl), .one (.int .i64), .one (.int .u64)] x)) w := tieZ3 (F.vmem_New env) (F.vmem_Mem_Reserve env) (F.vmem_Mem_Commit env) (F.vmem_Mem_Load env) (F.vmem_Mem_Release env) (F.vmem_Mem_Count env) (F.mallowlaw3_awake env) x K Kp w
theorem fits3 : FitsOne Go.Proofs.Try.prog 3 C3 :=
  fits_of_tie (T := [(11, C11), (12, C12), (13, C13), (14, C14), (15, C15), (16, C16), (17, C17)]) (A := ann3) (fn := Go.Proofs.Try.f3) (c := body3) (fits_cons fits11 (fits_cons fits12 (fits_cons fits13 (fits_cons fits14 (fits_cons fits15 (fits_cons fits16 (fits_cons fits17 fits_nil))))))) mixed Go.Proofs.Try.func3 Go.Proofs.Try.call3 (by kernel_rfl) (by kernel_rfl) (by kernel_rfl) tie3

/- F.mallowlaw3_VmemKeeps -/
noncomputable def C4 : Entry := fun args w K Kp => unArgs [.one (.sl), .one (.int .u64), .one (.int .i64)] args.toList fun x => F.mallowlaw3_VmemKeeps env x.1 x.2.1 x.2.2.1 (fun r1 w' => K (.bool r1) w') w
noncomputable def body4 : Code := (Go.Proofs.Try.f4.body).getD .skip
def ann4 : Ann := { loops := [(10, [(10, .one (.int .i64))]), (18, [(12, .one (.int .i64))])], joins := [(2, [(29, .one (.bool))]), (8, [(48, .one (.bool))]), (16, [(81, .one (.bool))]), (25, [(16, .one (.int .u64))]), (26, [(122, .one (.bool))])] }
def T0.mallowlaw3_VmemKeeps (E : Env) (c_vmem_New : ∀ (a0_0 : SlV) (a0_1 : SlV) (a0_2 : SlV) (K : (Option Addr) → World → Prop) (w : World), Prop) (c_vmem_Mem_Reserve : ∀ (a0 : (Option Addr)) (a1 : Int) (a2 : Int) (K : Int → Int → World → Prop) (w : World), Prop) (c_vmem_Mem_Commit : ∀ (a0 : (Option Addr)) (a1 : Int) (a2 : Int) (K : Int → World → Prop) (w : World), Prop) (c_vmem_Mem_Store : ∀ (a0 : (Option Addr)) (a1 : Int) (a2 : Int) (K : Int → World → Prop) (w : World), Prop) (c_vmem_Mem_Release : ∀ (a0 : (Option Addr)) (a1 : Int) (a2 : Int) (K : Int → World → Prop) (w : World), Prop) (c_vmem_Mem_Load : ∀ (a0 : (Option Addr)) (a1 : Int) (K : Int → Int → World → Prop) (w : World), Prop) (c_mallowlaw3_awake : ∀ (K : Bool → World → Prop) (w : World), Prop) (a0 : SlV) (a1 : Int) (a2 : Int) (K : Bool → World → Prop) (w : World) : Prop :=
  JOIN (Bool × Unit) (fun J1 =>
    CND (decide ((((a0.len : Nat) : Int) : Int) > 100)) (
      J1 (true, ()) w
    ) (
      CND (decide ((a2 : Int) < 0)) (
        J1 (true, ()) w
      ) (
        J1 (decide ((a2 : Int) > 7), ()) w
      )
    )
  ) fun s2 _ w3 =>
    CND (s2.1) (
      K true w3
    ) (
      AL (.cells ⟨[.int .u64 a1]⟩ E.t_uint64) w3 fun b4 w5 =>
      c_vmem_New ⟨none, 0, 0⟩ ⟨none, 0, 0⟩ ⟨(some (Addr.mk b4 0 none)), 1, 1⟩ (fun r6 w7 =>
      CND (r6.isNone) (
        K false w7
      ) (
        c_vmem_Mem_Reserve r6 0 512 (fun r8 r9 w10 =>
        JOIN (Bool × Unit) (fun J11 =>
          CND ((r9 : Int) != 0) (
            J11 (true, ()) w10
          ) (
            c_vmem_Mem_Commit r6 r8 8 (fun r14 w15 =>
            J11 ((r14 : Int) != 0, ()) w15
            ) w10
          )
        ) fun s12 _ w13 =>
          CND (s12.1) (
            K false w13
          ) (
            LOOP (Int × Unit) (0, ()) w13 fun s16 _ w17 next18 =>
              CND (decide ((s16.1 : Int) < ((a0.len : Nat) : Int))) (
                NC a0.base fun p19 =>
                ((0 : Int) ≤ s16.1 ∧ (s16.1 : Int) < (a0.len : Nat)) ∧
                ∃ x20 : Int, w17.cell? (p19.add (Int.toNat s16.1 * 1)) = some (.int .u64 x20) ∧
                c_vmem_Mem_Store r6 (u64 ((u64 (r8 * 8192)) + (u64 ((u64 (s16.1)) * 640)))) x20 (fun r21 w22 =>
                CND ((r21 : Int) != 0) (
                  K false w22
                ) (
                  next18 (i64 (s16.1 + 1), ()) w22
                )
                ) w17
              ) (
                JOIN (Bool × Unit) (fun J23 =>
                  c_vmem_Mem_Release r6 (u64 (r8 + (u64 (a2)))) 1 (fun r26 w27 =>
                  CND ((r26 : Int) != 0) (
                    J23 (true, ()) w27
                  ) (
                    c_vmem_Mem_Commit r6 (u64 (r8 + (u64 (a2)))) 1 (fun r28 w29 =>
                    J23 ((r28 : Int) != 0, ()) w29
                    ) w27
                  )
                  ) w17
                ) fun s24 _ w25 =>
                  CND (s24.1) (
                    K false w25
                  ) (
                    LOOP (Int × Unit) (0, ()) w25 fun s30 _ w31 next32 =>
                      CND (decide ((s30.1 : Int) < ((a0.len : Nat) : Int))) (
                        LET (u64 ((u64 (r8 * 8192)) + (u64 ((u64 (s30.1)) * 640))) : Int) fun addr_33 =>
                        c_vmem_Mem_Load r6 addr_33 (fun r34 r35 w36 =>
                        NC a0.base fun p37 =>
                        ((0 : Int) ≤ s30.1 ∧ (s30.1 : Int) < (a0.len : Nat)) ∧
                        ∃ x38 : Int, w36.cell? (p37.add (Int.toNat s30.1 * 1)) = some (.int .u64 x38) ∧
                        JOIN (Int × Unit) (fun J39 =>
                          8192 ≠ (0 : Int) ∧
                          CND (((u64 (Int.tdiv addr_33 8192)) : Int) == (u64 (r8 + (u64 (a2))))) (
                            J39 (a1, ()) w36
                          ) (
                            J39 (x38, ()) w36
                          )
                        ) fun s40 _ w41 =>
                          JOIN (Bool × Unit) (fun J42 =>
                            8192 ≠ (0 : Int) ∧
                            CND (decide (((u64 (Int.tdiv addr_33 8192)) : Int) < (u64 (r8 + 8)))) (
                              CND ((r34 : Int) != s40.1) (
                                J42 (true, ()) w41
                              ) (
                                J42 ((r35 : Int) != 0, ()) w41
                              )
                            ) (
                              J42 (false, ()) w41
                            )
                          ) fun s43 _ w44 =>
                            CND (s43.1) (
                              K false w44
                            ) (
                              next32 (i64 (s30.1 + 1), ()) w44
                            )
                        ) w31
                      ) (
                        c_vmem_Mem_Load r6 (u64 ((u64 ((u64 (r8 + (u64 (a2)))) * 8192)) + 8184)) (fun r45 r46 w47 =>
                        CND ((r45 : Int) == a1) (
                          CND ((r46 : Int) == 0) (
                            c_mallowlaw3_awake  (fun r48 w49 =>
                            K r48 w49
                            ) w47
                          ) (
                            K false w47
                          )
                        ) (
                          K false w47
                        )
                        ) w31
                      )
                  )
              )
          )
        ) w7
      )
      ) w5
    )

theorem tieZ4 (c_vmem_New : ∀ (a0_0 : SlV) (a0_1 : SlV) (a0_2 : SlV) (K : (Option Addr) → World → Prop) (w : World), Prop) (c_vmem_Mem_Reserve : ∀ (a0 : (Option Addr)) (a1 : Int) (a2 : Int) (K : Int → Int → World → Prop) (w : World), Prop) (c_vmem_Mem_Commit : ∀ (a0 : (Option Addr)) (a1 : Int) (a2 : Int) (K : Int → World → Prop) (w : World), Prop) (c_vmem_Mem_Store : ∀ (a0 : (Option Addr)) (a1 : Int) (a2 : Int) (K : Int → World → Prop) (w : World), Prop) (c_vmem_Mem_Release : ∀ (a0 : (Option Addr)) (a1 : Int) (a2 : Int) (K : Int → World → Prop) (w : World), Prop) (c_vmem_Mem_Load : ∀ (a0 : (Option Addr)) (a1 : Int) (K : Int → Int → World → Prop) (w : World), Prop) (c_mallowlaw3_awake : ∀ (K : Bool → World → Prop) (w : World), Prop) (x : ArgsV [.one (.sl), .one (.int .u64), .one (.int .i64)]) (K Kp : Value → World → Prop) (w : World) : T0.mallowlaw3_VmemKeeps env c_vmem_New c_vmem_Mem_Reserve c_vmem_Mem_Commit c_vmem_Mem_Store c_vmem_Mem_Release c_vmem_Mem_Load c_mallowlaw3_awake x.1 x.2.1 x.2.2.1 (fun r1 w' => K (.bool r1) w') w =
    ev Go.Proofs.Try.prog (tabC [(11, fun args w K Kp => unArgs [.agg [.sl, .sl, .sl]] args.toList fun x => c_vmem_New x.1.1 x.1.2.1 x.1.2.2.1 (fun r1 w' => K (.pointer r1) w') w), (12, fun args w K Kp => unArgs [.one (.ptr), .one (.int .u64), .one (.int .u64)] args.toList fun x => c_vmem_Mem_Reserve x.1 x.2.1 x.2.2.1 (fun r1 r2 w' => K (.tuple ⟨[.int .u64 r1, .int .i64 r2]⟩) w') w), (13, fun args w K Kp => unArgs [.one (.ptr), .one (.int .u64), .one (.int .u64)] args.toList fun x => c_vmem_Mem_Commit x.1 x.2.1 x.2.2.1 (fun r1 w' => K (.int .i64 r1) w') w), (18, fun args w K Kp => unArgs [.one (.ptr), .one (.int .u64), .one (.int .u64)] args.toList fun x => c_vmem_Mem_Store x.1 x.2.1 x.2.2.1 (fun r1 w' => K (.int .i64 r1) w') w), (15, fun args w K Kp => unArgs [.one (.ptr), .one (.int .u64), .one (.int .u64)] args.toList fun x => c_vmem_Mem_Release x.1 x.2.1 x.2.2.1 (fun r1 w' => K (.int .i64 r1) w') w), (14, fun args w K Kp => unArgs [.one (.ptr), .one (.int .u64)] args.toList fun x => c_vmem_Mem_Load x.1 x.2.1 (fun r1 r2 w' => K (.tuple ⟨[.int .u64 r1, .int .i64 r2]⟩) w') w), (17, fun args w K Kp => unArgs [] args.toList fun x => c_mallowlaw3_awake  (fun r1 w' => K (.bool r1) w') w)]) (ground Go.Proofs.Try.prog) ann4 body4 (finQ Go.Proofs.Try.prog Go.Proofs.Try.f4 K Kp) (initF (mkArgs [.one (.sl), .one (.int .u64), .one (.int .i64)] x)) w := by kernel_rfl
theorem tie4 (x : ArgsV [.one (.sl), .one (.int .u64), .one (.int .i64)]) (K Kp : Value → World → Prop) (w : World) : F.mallowlaw3_VmemKeeps env x.1 x.2.1 x.2.2.1 (fun r1 w' => K (.bool r1) w') w =
    ev Go.Proofs.Try.prog (tabC [(11, C11), (12, C12), (13, C13), (18, C18), (15, C15), (14, C14), (17, C17)]) (ground Go.Proofs.Try.prog) ann4 body4 (finQ Go.Proofs.Try.prog Go.Proofs.Try.f4 K Kp) (initF (mkArgs [.one (.sl), .one (.int .u64), .one (.int .i64)] x)) w := tieZ4 (F.vmem_New env) (F.vmem_Mem_Reserve env) (F.vmem_Mem_Commit env) (F.vmem_Mem_Store env) (F.vmem_Mem_Release env) (F.vmem_Mem_Load env) (F.mallowlaw3_awake env) x K Kp w
theorem fits4 : FitsOne Go.Proofs.Try.prog 4 C4 :=
  fits_of_tie (T := [(11, C11), (12, C12), (13, C13), (18, C18), (15, C15), (14, C14), (17, C17)]) (A := ann4) (fn := Go.Proofs.Try.f4) (c := body4) (fits_cons fits11 (fits_cons fits12 (fits_cons fits13 (fits_cons fits18 (fits_cons fits15 (fits_cons fits14 (fits_cons fits17 fits_nil))))))) mixed Go.Proofs.Try.func4 Go.Proofs.Try.call4 (by kernel_rfl) (by kernel_rfl) (by kernel_rfl) tie4

/- F.mallowlaw3_VmemRefused -/
noncomputable def C5 : Entry := fun args w K Kp => unArgs [.one (.int .u64), .one (.int .i64)] args.toList fun x => F.mallowlaw3_VmemRefused env x.1 x.2.1 (fun r1 w' => K (.bool r1) w') w
noncomputable def body5 : Code := (Go.Proofs.Try.f5.body).getD .skip
def ann5 : Ann := { loops := [(5, [(5, .one (.sl)), (6, .one (.int .i64))]), (15, [(10, .one (.int .i64))])], joins := [(2, [(26, .one (.bool))]), (23, []), (24, [(75, .one (.bool))])] }
def T0.mallowlaw3_VmemRefused (E : Env) (c_vmem_New : ∀ (a0_0 : SlV) (a0_1 : SlV) (a0_2 : SlV) (K : (Option Addr) → World → Prop) (w : World), Prop) (c_vmem_Mem_Reserve : ∀ (a0 : (Option Addr)) (a1 : Int) (a2 : Int) (K : Int → Int → World → Prop) (w : World), Prop) (c_vmem_Mem_Commit : ∀ (a0 : (Option Addr)) (a1 : Int) (a2 : Int) (K : Int → World → Prop) (w : World), Prop) (c_vmem_Mem_Count : ∀ (a0 : (Option Addr)) (a1 : Int) (K : Int → World → Prop) (w : World), Prop) (c_mallowlaw3_awake : ∀ (K : Bool → World → Prop) (w : World), Prop) (a0 : Int) (a1 : Int) (K : Bool → World → Prop) (w : World) : Prop :=
  JOIN (Bool × Unit) (fun J1 =>
    CND (decide ((a0 : Int) < 1)) (
      J1 (true, ()) w
    ) (
      CND (decide ((a0 : Int) > 500)) (
        J1 (true, ()) w
      ) (
        CND (decide ((a1 : Int) < 0)) (
          J1 (true, ()) w
        ) (
          J1 (decide ((a1 : Int) > 20), ()) w
        )
      )
    )
  ) fun s2 _ w3 =>
    CND (s2.1) (
      K true w3
    ) (
      AL (.cells ⟨[.bool false]⟩ E.t_bool) w3 fun b4 w5 =>
      LOOP (SlV × Int × Unit) (⟨(some (Addr.mk b4 0 none)), 1, 1⟩, 0, ()) w5 fun s6 _ w7 next8 =>
        CND (decide ((s6.2.1 : Int) < a1)) (
          AL (.cells ⟨[.bool true]⟩ E.t_bool) w7 fun b9 w10 =>
          APP E.t_bool 1 1 #[.bool false] s6.1 ⟨(some (Addr.mk b9 0 none)), 1, 1⟩ w10 fun s11 w12 =>
          next8 (s11, i64 (s6.2.1 + 1), ()) w12
        ) (
          c_vmem_New ⟨none, 0, 0⟩ s6.1 ⟨none, 0, 0⟩ (fun r13 w14 =>
          CND (r13.isNone) (
            K false w14
          ) (
            c_vmem_Mem_Reserve r13 0 512 (fun r15 r16 w17 =>
            CND ((r16 : Int) != 0) (
              K false w17
            ) (
              LOOP (Int × Unit) (0, ()) w17 fun s18 _ w19 next20 =>
                CND (decide ((s18.1 : Int) < a1)) (
                  JOIN (Unit) (fun J21 =>
                    2 ≠ (0 : Int) ∧
                    CND (((Int.tmod s18.1 2) : Int) == 0) (
                      c_vmem_Mem_Commit r13 r15 a0 (fun r24 w25 =>
                      CND ((r24 : Int) != 13) (
                        K false w25
                      ) (
                        J21 (()) w25
                      )
                      ) w19
                    ) (
                      c_vmem_Mem_Reserve r13 0 512 (fun r26 r27 w28 =>
                      CND ((r27 : Int) != 13) (
                        K false w28
                      ) (
                        J21 (()) w28
                      )
                      ) w19
                    )
                  ) fun s22 _ w23 =>
                    JOIN (Bool × Unit) (fun J29 =>
                      c_vmem_Mem_Count r13 1 (fun r32 w33 =>
                      CND ((r32 : Int) != 512) (
                        J29 (true, ()) w33
                      ) (
                        c_vmem_Mem_Count r13 2 (fun r34 w35 =>
                        J29 ((r34 : Int) != 0, ()) w35
                        ) w33
                      )
                      ) w23
                    ) fun s30 _ w31 =>
                      CND (s30.1) (
                        K false w31
                      ) (
                        next20 (i64 (s18.1 + 1), ()) w31
                      )
                ) (
                  c_vmem_Mem_Commit r13 r15 a0 (fun r36 w37 =>
                  CND ((r36 : Int) == 0) (
                    c_vmem_Mem_Count r13 2 (fun r38 w39 =>
                    CND ((r38 : Int) == a0) (
                      c_vmem_Mem_Commit r13 r15 a0 (fun r40 w41 =>
                      CND ((r40 : Int) == 0) (
                        c_mallowlaw3_awake  (fun r42 w43 =>
                        K r42 w43
                        ) w41
                      ) (
                        K false w41
                      )
                      ) w39
                    ) (
                      K false w39
                    )
                    ) w37
                  ) (
                    K false w37
                  )
                  ) w19
                )
            )
            ) w14
          )
          ) w7
        )
    )

theorem tieZ5 (c_vmem_New : ∀ (a0_0 : SlV) (a0_1 : SlV) (a0_2 : SlV) (K : (Option Addr) → World → Prop) (w : World), Prop) (c_vmem_Mem_Reserve : ∀ (a0 : (Option Addr)) (a1 : Int) (a2 : Int) (K : Int → Int → World → Prop) (w : World), Prop) (c_vmem_Mem_Commit : ∀ (a0 : (Option Addr)) (a1 : Int) (a2 : Int) (K : Int → World → Prop) (w : World), Prop) (c_vmem_Mem_Count : ∀ (a0 : (Option Addr)) (a1 : Int) (K : Int → World → Prop) (w : World), Prop) (c_mallowlaw3_awake : ∀ (K : Bool → World → Prop) (w : World), Prop) (x : ArgsV [.one (.int .u64), .one (.int .i64)]) (K Kp : Value → World → Prop) (w : World) : T0.mallowlaw3_VmemRefused env c_vmem_New c_vmem_Mem_Reserve c_vmem_Mem_Commit c_vmem_Mem_Count c_mallowlaw3_awake x.1 x.2.1 (fun r1 w' => K (.bool r1) w') w =
    ev Go.Proofs.Try.prog (tabC [(11, fun args w K Kp => unArgs [.agg [.sl, .sl, .sl]] args.toList fun x => c_vmem_New x.1.1 x.1.2.1 x.1.2.2.1 (fun r1 w' => K (.pointer r1) w') w), (12, fun args w K Kp => unArgs [.one (.ptr), .one (.int .u64), .one (.int .u64)] args.toList fun x => c_vmem_Mem_Reserve x.1 x.2.1 x.2.2.1 (fun r1 r2 w' => K (.tuple ⟨[.int .u64 r1, .int .i64 r2]⟩) w') w), (13, fun args w K Kp => unArgs [.one (.ptr), .one (.int .u64), .one (.int .u64)] args.toList fun x => c_vmem_Mem_Commit x.1 x.2.1 x.2.2.1 (fun r1 w' => K (.int .i64 r1) w') w), (16, fun args w K Kp => unArgs [.one (.ptr), .one (.int .i64)] args.toList fun x => c_vmem_Mem_Count x.1 x.2.1 (fun r1 w' => K (.int .u64 r1) w') w), (17, fun args w K Kp => unArgs [] args.toList fun x => c_mallowlaw3_awake  (fun r1 w' => K (.bool r1) w') w)]) (ground Go.Proofs.Try.prog) ann5 body5 (finQ Go.Proofs.Try.prog Go.Proofs.Try.f5 K Kp) (initF (mkArgs [.one (.int .u64), .one (.int .i64)] x)) w := by kernel_rfl
theorem tie5 (x : ArgsV [.one (.int .u64), .one (.int .i64)]) (K Kp : Value → World → Prop) (w : World) : F.mallowlaw3_VmemRefused env x.1 x.2.1 (fun r1 w' => K (.bool r1) w') w =
    ev Go.Proofs.Try.prog (tabC [(11, C11), (12, C12), (13, C13), (16, C16), (17, C17)]) (ground Go.Proofs.Try.prog) ann5 body5 (finQ Go.Proofs.Try.prog Go.Proofs.Try.f5 K Kp) (initF (mkArgs [.one (.int .u64), .one (.int .i64)] x)) w := tieZ5 (F.vmem_New env) (F.vmem_Mem_Reserve env) (F.vmem_Mem_Commit env) (F.vmem_Mem_Count env) (F.mallowlaw3_awake env) x K Kp w
theorem fits5 : FitsOne Go.Proofs.Try.prog 5 C5 :=
  fits_of_tie (T := [(11, C11), (12, C12), (13, C13), (16, C16), (17, C17)]) (A := ann5) (fn := Go.Proofs.Try.f5) (c := body5) (fits_cons fits11 (fits_cons fits12 (fits_cons fits13 (fits_cons fits16 (fits_cons fits17 fits_nil))))) mixed Go.Proofs.Try.func5 Go.Proofs.Try.call5 (by kernel_rfl) (by kernel_rfl) (by kernel_rfl) tie5

/- F.mallowlaw3_VmemPlaces -/
noncomputable def C6 : Entry := fun args w K Kp => unArgs [.one (.sl), .one (.sl)] args.toList fun x => F.mallowlaw3_VmemPlaces env x.1 x.2.1 (fun r1 w' => K (.bool r1) w') w
noncomputable def body6 : Code := (Go.Proofs.Try.f6.body).getD .skip
def ann6 : Ann := { loops := [(8, [(7, .one (.int .i64))])], joins := [(2, [(17, .one (.bool))]), (12, [(60, .one (.bool))]), (15, [(105, .one (.bool))]), (17, [(116, .one (.bool))])] }
def T0.mallowlaw3_VmemPlaces (E : Env) (c_vmem_New : ∀ (a0_0 : SlV) (a0_1 : SlV) (a0_2 : SlV) (K : (Option Addr) → World → Prop) (w : World), Prop) (c_vmem_Mem_Reserve : ∀ (a0 : (Option Addr)) (a1 : Int) (a2 : Int) (K : Int → Int → World → Prop) (w : World), Prop) (c_vmem_Mem_State : ∀ (a0 : (Option Addr)) (a1 : Int) (K : Int → World → Prop) (w : World), Prop) (c_vmem_Mem_Count : ∀ (a0 : (Option Addr)) (a1 : Int) (K : Int → World → Prop) (w : World), Prop) (c_mallowlaw3_awake : ∀ (K : Bool → World → Prop) (w : World), Prop) (a0 : SlV) (a1 : SlV) (K : Bool → World → Prop) (w : World) : Prop :=
  JOIN (Bool × Unit) (fun J1 =>
    CND (decide ((((a0.len : Nat) : Int) : Int) > 20)) (
      J1 (true, ()) w
    ) (
      J1 (decide ((((a1.len : Nat) : Int) : Int) > 20), ()) w
    )
  ) fun s2 _ w3 =>
    CND (s2.1) (
      K true w3
    ) (
      AL (.cells ⟨[]⟩ E.t_uint64) w3 fun b4 w5 =>
      APP E.t_uint64 1 8 #[.int .u64 0] ⟨(some (Addr.mk b4 0 none)), 0, 0⟩ a0 w5 fun s6 w7 =>
      c_vmem_New s6 ⟨none, 0, 0⟩ ⟨none, 0, 0⟩ (fun r8 w9 =>
      CND (r8.isNone) (
        K false w9
      ) (
        AL (.map #[] 0) w9 fun b10 w11 =>
        LOOP (Int × Unit) (0, ()) w11 fun s12 _ w13 next14 =>
          CND (decide ((s12.1 : Int) < ((a1.len : Nat) : Int))) (
            NC a1.base fun p15 =>
            ((0 : Int) ≤ s12.1 ∧ (s12.1 : Int) < (a1.len : Nat)) ∧
            ∃ x16 : Int, w13.cell? (p15.add (Int.toNat s12.1 * 1)) = some (.int .u64 x16) ∧
            c_vmem_Mem_Reserve r8 x16 512 (fun r17 r18 w19 =>
            JOIN (Bool × Unit) (fun J20 =>
              CND ((r18 : Int) != 0) (
                J20 (true, ()) w19
              ) (
                CND ((r17 : Int) == 0) (
                  J20 (true, ()) w19
                ) (
                  512 ≠ (0 : Int) ∧
                  CND (((Int.tmod r17 512) : Int) != 0) (
                    J20 (true, ()) w19
                  ) (
                    CND (decide ((r17 : Int) ≥ 34359738368)) (
                      J20 (true, ()) w19
                    ) (
                      LKP .u64 r17 (some b10) w19 (.bool false) fun v23 ok24 es25 =>
                      ∃ x26 : Bool, v23 = .bool x26 ∧
                      J20 (x26, ()) w19
                    )
                  )
                )
              )
            ) fun s21 _ w22 =>
              CND (s21.1) (
                K false w22
              ) (
                MUPD .u64 r17 (.bool true) (some b10) w22 fun w27 =>
                JOIN (Bool × Unit) (fun J28 =>
                  CND (decide ((s12.1 : Int) < ((a0.len : Nat) : Int))) (
                    NC a0.base fun p31 =>
                    ((0 : Int) ≤ s12.1 ∧ (s12.1 : Int) < (a0.len : Nat)) ∧
                    ∃ x32 : Int, w27.cell? (p31.add (Int.toNat s12.1 * 1)) = some (.int .u64 x32) ∧
                    CND (decide ((x32 : Int) > 0)) (
                      NC a0.base fun p33 =>
                      ((0 : Int) ≤ s12.1 ∧ (s12.1 : Int) < (a0.len : Nat)) ∧
                      ∃ x34 : Int, w27.cell? (p33.add (Int.toNat s12.1 * 1)) = some (.int .u64 x34) ∧
                      512 ≠ (0 : Int) ∧
                      CND (((Int.tmod x34 512) : Int) == 0) (
                        NC a0.base fun p35 =>
                        ((0 : Int) ≤ s12.1 ∧ (s12.1 : Int) < (a0.len : Nat)) ∧
                        ∃ x36 : Int, w27.cell? (p35.add (Int.toNat s12.1 * 1)) = some (.int .u64 x36) ∧
                        CND (decide ((x36 : Int) < 34359738368)) (
                          NC a0.base fun p37 =>
                          ((0 : Int) ≤ s12.1 ∧ (s12.1 : Int) < (a0.len : Nat)) ∧
                          ∃ x38 : Int, w27.cell? (p37.add (Int.toNat s12.1 * 1)) = some (.int .u64 x38) ∧
                          CND ((r17 : Int) != x38) (
                            NC a0.base fun p39 =>
                            ((0 : Int) ≤ s12.1 ∧ (s12.1 : Int) < (a0.len : Nat)) ∧
                            ∃ x40 : Int, w27.cell? (p39.add (Int.toNat s12.1 * 1)) = some (.int .u64 x40) ∧
                            LKP .u64 x40 (some b10) w27 (.bool false) fun v41 ok42 es43 =>
                            ∃ x44 : Bool, v41 = .bool x44 ∧
                            J28 (!x44, ()) w27
                          ) (
                            J28 (false, ()) w27
                          )
                        ) (
                          J28 (false, ()) w27
                        )
                      ) (
                        J28 (false, ()) w27
                      )
                    ) (
                      J28 (false, ()) w27
                    )
                  ) (
                    J28 (false, ()) w27
                  )
                ) fun s29 _ w30 =>
                  CND (s29.1) (
                    K false w30
                  ) (
                    JOIN (Bool × Unit) (fun J45 =>
                      c_vmem_Mem_State r8 r17 (fun r48 w49 =>
                      CND ((r48 : Int) != 1) (
                        J45 (true, ()) w49
                      ) (
                        c_vmem_Mem_State r8 (u64 (r17 + 511)) (fun r50 w51 =>
                        J45 ((r50 : Int) != 1, ()) w51
                        ) w49
                      )
                      ) w30
                    ) fun s46 _ w47 =>
                      CND (s46.1) (
                        K false w47
                      ) (
                        next14 (i64 (s12.1 + 1), ()) w47
                      )
                  )
              )
            ) w13
          ) (
            c_vmem_Mem_Count r8 1 (fun r52 w53 =>
            CND ((r52 : Int) == (u64 (i64 (512 * ((a1.len : Nat) : Int))))) (
              c_mallowlaw3_awake  (fun r54 w55 =>
              K r54 w55
              ) w53
            ) (
              K false w53
            )
            ) w13
          )
      )
      ) w7
    )

theorem tieZ6 (c_vmem_New : ∀ (a0_0 : SlV) (a0_1 : SlV) (a0_2 : SlV) (K : (Option Addr) → World → Prop) (w : World), Prop) (c_vmem_Mem_Reserve : ∀ (a0 : (Option Addr)) (a1 : Int) (a2 : Int) (K : Int → Int → World → Prop) (w : World), Prop) (c_vmem_Mem_State : ∀ (a0 : (Option Addr)) (a1 : Int) (K : Int → World → Prop) (w : World), Prop) (c_vmem_Mem_Count : ∀ (a0 : (Option Addr)) (a1 : Int) (K : Int → World → Prop) (w : World), Prop) (c_mallowlaw3_awake : ∀ (K : Bool → World → Prop) (w : World), Prop) (x : ArgsV [.one (.sl), .one (.sl)]) (K Kp : Value → World → Prop) (w : World) : T0.mallowlaw3_VmemPlaces env c_vmem_New c_vmem_Mem_Reserve c_vmem_Mem_State c_vmem_Mem_Count c_mallowlaw3_awake x.1 x.2.1 (fun r1 w' => K (.bool r1) w') w =
    ev Go.Proofs.Try.prog (tabC [(11, fun args w K Kp => unArgs [.agg [.sl, .sl, .sl]] args.toList fun x => c_vmem_New x.1.1 x.1.2.1 x.1.2.2.1 (fun r1 w' => K (.pointer r1) w') w), (12, fun args w K Kp => unArgs [.one (.ptr), .one (.int .u64), .one (.int .u64)] args.toList fun x => c_vmem_Mem_Reserve x.1 x.2.1 x.2.2.1 (fun r1 r2 w' => K (.tuple ⟨[.int .u64 r1, .int .i64 r2]⟩) w') w), (19, fun args w K Kp => unArgs [.one (.ptr), .one (.int .u64)] args.toList fun x => c_vmem_Mem_State x.1 x.2.1 (fun r1 w' => K (.int .i64 r1) w') w), (16, fun args w K Kp => unArgs [.one (.ptr), .one (.int .i64)] args.toList fun x => c_vmem_Mem_Count x.1 x.2.1 (fun r1 w' => K (.int .u64 r1) w') w), (17, fun args w K Kp => unArgs [] args.toList fun x => c_mallowlaw3_awake  (fun r1 w' => K (.bool r1) w') w)]) (ground Go.Proofs.Try.prog) ann6 body6 (finQ Go.Proofs.Try.prog Go.Proofs.Try.f6 K Kp) (initF (mkArgs [.one (.sl), .one (.sl)] x)) w := by kernel_rfl
theorem tie6 (x : ArgsV [.one (.sl), .one (.sl)]) (K Kp : Value → World → Prop) (w : World) : F.mallowlaw3_VmemPlaces env x.1 x.2.1 (fun r1 w' => K (.bool r1) w') w =
    ev Go.Proofs.Try.prog (tabC [(11, C11), (12, C12), (19, C19), (16, C16), (17, C17)]) (ground Go.Proofs.Try.prog) ann6 body6 (finQ Go.Proofs.Try.prog Go.Proofs.Try.f6 K Kp) (initF (mkArgs [.one (.sl), .one (.sl)] x)) w := tieZ6 (F.vmem_New env) (F.vmem_Mem_Reserve env) (F.vmem_Mem_State env) (F.vmem_Mem_Count env) (F.mallowlaw3_awake env) x K Kp w
theorem fits6 : FitsOne Go.Proofs.Try.prog 6 C6 :=
  fits_of_tie (T := [(11, C11), (12, C12), (19, C19), (16, C16), (17, C17)]) (A := ann6) (fn := Go.Proofs.Try.f6) (c := body6) (fits_cons fits11 (fits_cons fits12 (fits_cons fits19 (fits_cons fits16 (fits_cons fits17 fits_nil))))) mixed Go.Proofs.Try.func6 Go.Proofs.Try.call6 (by kernel_rfl) (by kernel_rfl) (by kernel_rfl) tie6

/- F.mallowlaw3_heavy -/
noncomputable def C20 : Entry := fun args w K Kp => unArgs [.agg [.sl, .sl, .sl], .one (.sl)] args.toList fun x => F.mallowlaw3_heavy env x.1.1 x.1.2.1 x.1.2.2.1 x.2.1 (fun r1 w' => K (.bool r1) w') w
noncomputable def body20 : Code := (Go.Proofs.Try.f20.body).getD .skip
def ann20 : Ann := { loops := [(5, [(5, .one (.int .u64)), (6, .one (.int .i64))])], joins := [(2, [(27, .one (.bool))]), (8, [(47, .one (.bool))]), (13, [(5, .one (.int .u64))]), (14, [(84, .one (.bool))])] }
theorem tie20 (x : ArgsV [.agg [.sl, .sl, .sl], .one (.sl)]) (K Kp : Value → World → Prop) (w : World) : F.mallowlaw3_heavy env x.1.1 x.1.2.1 x.1.2.2.1 x.2.1 (fun r1 w' => K (.bool r1) w') w =
    ev Go.Proofs.Try.prog (tabC []) (ground Go.Proofs.Try.prog) ann20 body20 (finQ Go.Proofs.Try.prog Go.Proofs.Try.f20 K Kp) (initF (mkArgs [.agg [.sl, .sl, .sl], .one (.sl)] x)) w := by kernel_rfl
theorem fits20 : FitsOne Go.Proofs.Try.prog 20 C20 :=
  fits_of_tie (T := []) (A := ann20) (fn := Go.Proofs.Try.f20) (c := body20) fits_nil mixed Go.Proofs.Try.func20 Go.Proofs.Try.call20 (by kernel_rfl) (by kernel_rfl) (by kernel_rfl) tie20

/- F.mallowlaw3_given -/
noncomputable def C21 : Entry := fun args w K Kp => unArgs [.agg [.sl, .sl, .sl]] args.toList fun x => F.mallowlaw3_given env x.1.1 x.1.2.1 x.1.2.2.1 (fun r1 r2 r3 w' => K (.agg ⟨[.slice r1.base r1.len r1.cap, .slice r2.base r2.len r2.cap, .slice r3.base r3.len r3.cap]⟩) w') w
noncomputable def body21 : Code := (Go.Proofs.Try.f21.body).getD .skip
def ann21 : Ann := { loops := [], joins := [] }
theorem tie21 (x : ArgsV [.agg [.sl, .sl, .sl]]) (K Kp : Value → World → Prop) (w : World) : F.mallowlaw3_given env x.1.1 x.1.2.1 x.1.2.2.1 (fun r1 r2 r3 w' => K (.agg ⟨[.slice r1.base r1.len r1.cap, .slice r2.base r2.len r2.cap, .slice r3.base r3.len r3.cap]⟩) w') w =
    ev Go.Proofs.Try.prog (tabC []) (ground Go.Proofs.Try.prog) ann21 body21 (finQ Go.Proofs.Try.prog Go.Proofs.Try.f21 K Kp) (initF (mkArgs [.agg [.sl, .sl, .sl]] x)) w := by kernel_rfl
theorem fits21 : FitsOne Go.Proofs.Try.prog 21 C21 :=
  fits_of_tie (T := []) (A := ann21) (fn := Go.Proofs.Try.f21) (c := body21) fits_nil mixed Go.Proofs.Try.func21 Go.Proofs.Try.call21 (by kernel_rfl) (by kernel_rfl) (by kernel_rfl) tie21

/- F.mallowref3_New -/
noncomputable def C22 : Entry := fun args w K Kp => unArgs [.agg [.sl, .sl, .sl]] args.toList fun x => F.mallowref3_New env x.1.1 x.1.2.1 x.1.2.2.1 (fun r1 w' => K (.pointer r1) w') w
noncomputable def body22 : Code := (Go.Proofs.Try.f22.body).getD .skip
def ann22 : Ann := { loops := [], joins := [] }
theorem tie22 (x : ArgsV [.agg [.sl, .sl, .sl]]) (K Kp : Value → World → Prop) (w : World) : F.mallowref3_New env x.1.1 x.1.2.1 x.1.2.2.1 (fun r1 w' => K (.pointer r1) w') w =
    ev Go.Proofs.Try.prog (tabC []) (ground Go.Proofs.Try.prog) ann22 body22 (finQ Go.Proofs.Try.prog Go.Proofs.Try.f22 K Kp) (initF (mkArgs [.agg [.sl, .sl, .sl]] x)) w := by kernel_rfl
theorem fits22 : FitsOne Go.Proofs.Try.prog 22 C22 :=
  fits_of_tie (T := []) (A := ann22) (fn := Go.Proofs.Try.f22) (c := body22) fits_nil mixed Go.Proofs.Try.func22 Go.Proofs.Try.call22 (by kernel_rfl) (by kernel_rfl) (by kernel_rfl) tie22

/- F.mallowref3_Mem_refuses -/
noncomputable def C55 : Entry := fun args w K Kp => unArgs [.one (.ptr)] args.toList fun x => F.mallowref3_Mem_refuses env x.1 (fun r1 w' => K (.bool r1) w') w
noncomputable def body55 : Code := (Go.Proofs.Try.f55.body).getD .skip
def ann55 : Ann := { loops := [], joins := [] }
theorem tie55 (x : ArgsV [.one (.ptr)]) (K Kp : Value → World → Prop) (w : World) : F.mallowref3_Mem_refuses env x.1 (fun r1 w' => K (.bool r1) w') w =
    ev Go.Proofs.Try.prog (tabC []) (ground Go.Proofs.Try.prog) ann55 body55 (finQ Go.Proofs.Try.prog Go.Proofs.Try.f55 K Kp) (initF (mkArgs [.one (.ptr)] x)) w := by kernel_rfl
theorem fits55 : FitsOne Go.Proofs.Try.prog 55 C55 :=
  fits_of_tie (T := []) (A := ann55) (fn := Go.Proofs.Try.f55) (c := body55) fits_nil mixed Go.Proofs.Try.func55 Go.Proofs.Try.call55 (by kernel_rfl) (by kernel_rfl) (by kernel_rfl) tie55

/- F.mallowref3_right -/
noncomputable def C56 : Entry := fun args w K Kp => unArgs [.one (.int .u64), .one (.int .u64)] args.toList fun x => F.mallowref3_right env x.1 x.2.1 (fun r1 w' => K (.bool r1) w') w
noncomputable def body56 : Code := (Go.Proofs.Try.f56.body).getD .skip
def ann56 : Ann := { loops := [], joins := [] }
theorem tie56 (x : ArgsV [.one (.int .u64), .one (.int .u64)]) (K Kp : Value → World → Prop) (w : World) : F.mallowref3_right env x.1 x.2.1 (fun r1 w' => K (.bool r1) w') w =
    ev Go.Proofs.Try.prog (tabC []) (ground Go.Proofs.Try.prog) ann56 body56 (finQ Go.Proofs.Try.prog Go.Proofs.Try.f56 K Kp) (initF (mkArgs [.one (.int .u64), .one (.int .u64)] x)) w := by kernel_rfl
theorem fits56 : FitsOne Go.Proofs.Try.prog 56 C56 :=
  fits_of_tie (T := []) (A := ann56) (fn := Go.Proofs.Try.f56) (c := body56) fits_nil mixed Go.Proofs.Try.func56 Go.Proofs.Try.call56 (by kernel_rfl) (by kernel_rfl) (by kernel_rfl) tie56

/- F.mallowref3_Mem_find -/
noncomputable def C59 : Entry := fun args w K Kp => unArgs [.one (.ptr), .one (.int .u64)] args.toList fun x => F.mallowref3_Mem_find env x.1 x.2.1 (fun r1 r2 w' => K (.tuple ⟨[.int .i64 r1, .bool r2]⟩) w') w
noncomputable def body59 : Code := (Go.Proofs.Try.f59.body).getD .skip
def ann59 : Ann := { loops := [(2, [(6, .one (.int .i64)), (7, .one (.int .i64))])], joins := [] }
theorem tie59 (x : ArgsV [.one (.ptr), .one (.int .u64)]) (K Kp : Value → World → Prop) (w : World) : F.mallowref3_Mem_find env x.1 x.2.1 (fun r1 r2 w' => K (.tuple ⟨[.int .i64 r1, .bool r2]⟩) w') w =
    ev Go.Proofs.Try.prog (tabC []) (ground Go.Proofs.Try.prog) ann59 body59 (finQ Go.Proofs.Try.prog Go.Proofs.Try.f59 K Kp) (initF (mkArgs [.one (.ptr), .one (.int .u64)] x)) w := by kernel_rfl
theorem fits59 : FitsOne Go.Proofs.Try.prog 59 C59 :=
  fits_of_tie (T := []) (A := ann59) (fn := Go.Proofs.Try.f59) (c := body59) fits_nil mixed Go.Proofs.Try.func59 Go.Proofs.Try.call59 (by kernel_rfl) (by kernel_rfl) (by kernel_rfl) tie59

/- F.mallowref3_Mem_clear -/
noncomputable def C57 : Entry := fun args w K Kp => unArgs [.one (.ptr), .one (.int .u64), .one (.int .u64)] args.toList fun x => F.mallowref3_Mem_clear env x.1 x.2.1 x.2.2.1 (fun r1 r2 w' => K (.tuple ⟨[.int .u64 r1, .bool r2]⟩) w') w
noncomputable def body57 : Code := (Go.Proofs.Try.f57.body).getD .skip
def ann57 : Ann := { loops := [], joins := [(3, [(36, .one (.bool))])] }
def T0.mallowref3_Mem_clear (E : Env) (c_mallowref3_Mem_find : ∀ (a0 : (Option Addr)) (a1 : Int) (K : Int → Bool → World → Prop) (w : World), Prop) (a0 : (Option Addr)) (a1 : Int) (a2 : Int) (K : Int → Bool → World → Prop) (w : World) : Prop :=
  c_mallowref3_Mem_find a0 a1 (fun r1 r2 w3 =>
  JOIN (Bool × Unit) (fun J4 =>
    NC a0 fun p7 =>
    ∃ x8 : SlV, w3.cell? (p7.add 3) = some (.slice x8.base x8.len x8.cap) ∧
    CND (decide ((r1 : Int) < ((x8.len : Nat) : Int))) (
      NC a0 fun p9 =>
      ∃ x10 : SlV, w3.cell? (p9.add 3) = some (.slice x10.base x10.len x10.cap) ∧
      NC x10.base fun p11 =>
      ((0 : Int) ≤ r1 ∧ (r1 : Int) < (x10.len : Nat)) ∧
      ∃ x12 : Int, w3.cell? (p11.add (Int.toNat r1 * 3)) = some (.int .u64 x12) ∧
      J4 (decide ((x12 : Int) < (u64 (a1 + a2))), ()) w3
    ) (
      J4 (false, ()) w3
    )
  ) fun s5 _ w6 =>
    CND (s5.1) (
      NC a0 fun p13 =>
      ∃ x14 : SlV, w6.cell? (p13.add 3) = some (.slice x14.base x14.len x14.cap) ∧
      NC x14.base fun p15 =>
      ((0 : Int) ≤ r1 ∧ (r1 : Int) < (x14.len : Nat)) ∧
      ∃ x16 : Int, w6.cell? (p15.add (Int.toNat r1 * 3)) = some (.int .u64 x16) ∧
      K (u64 (x16 + 1)) false w6
    ) (
      K 0 true w6
    )
  ) w

theorem tieZ57 (c_mallowref3_Mem_find : ∀ (a0 : (Option Addr)) (a1 : Int) (K : Int → Bool → World → Prop) (w : World), Prop) (x : ArgsV [.one (.ptr), .one (.int .u64), .one (.int .u64)]) (K Kp : Value → World → Prop) (w : World) : T0.mallowref3_Mem_clear env c_mallowref3_Mem_find x.1 x.2.1 x.2.2.1 (fun r1 r2 w' => K (.tuple ⟨[.int .u64 r1, .bool r2]⟩) w') w =
    ev Go.Proofs.Try.prog (tabC [(59, fun args w K Kp => unArgs [.one (.ptr), .one (.int .u64)] args.toList fun x => c_mallowref3_Mem_find x.1 x.2.1 (fun r1 r2 w' => K (.tuple ⟨[.int .i64 r1, .bool r2]⟩) w') w)]) (ground Go.Proofs.Try.prog) ann57 body57 (finQ Go.Proofs.Try.prog Go.Proofs.Try.f57 K Kp) (initF (mkArgs [.one (.ptr), .one (.int .u64), .one (.int .u64)] x)) w := by kernel_rfl
theorem tie57 (x : ArgsV [.one (.ptr), .one (.int .u64), .one (.int .u64)]) (K Kp : Value → World → Prop) (w : World) : F.mallowref3_Mem_clear env x.1 x.2.1 x.2.2.1 (fun r1 r2 w' => K (.tuple ⟨[.int .u64 r1, .bool r2]⟩) w') w =
    ev Go.Proofs.Try.prog (tabC [(59, C59)]) (ground Go.Proofs.Try.prog) ann57 body57 (finQ Go.Proofs.Try.prog Go.Proofs.Try.f57 K Kp) (initF (mkArgs [.one (.ptr), .one (.int .u64), .one (.int .u64)] x)) w := tieZ57 (F.mallowref3_Mem_find env) x K Kp w
theorem fits57 : FitsOne Go.Proofs.Try.prog 57 C57 :=
  fits_of_tie (T := [(59, C59)]) (A := ann57) (fn := Go.Proofs.Try.f57) (c := body57) (fits_cons fits59 fits_nil) mixed Go.Proofs.Try.func57 Go.Proofs.Try.call57 (by kernel_rfl) (by kernel_rfl) (by kernel_rfl) tie57

/- F.mallowref3_Mem_first -/
noncomputable def C58 : Entry := fun args w K Kp => unArgs [.one (.ptr), .one (.int .u64), .one (.int .u64)] args.toList fun x => F.mallowref3_Mem_first env x.1 x.2.1 x.2.2.1 (fun r1 r2 w' => K (.tuple ⟨[.int .u64 r1, .bool r2]⟩) w') w
noncomputable def body58 : Code := (Go.Proofs.Try.f58.body).getD .skip
def ann58 : Ann := { loops := [(4, [(8, .one (.int .u64))])], joins := [(4, [(8, .one (.int .u64))]), (8, [(8, .one (.int .u64))]), (9, [(31, .one (.bool))])] }
def T0.mallowref3_Mem_first (E : Env) (c_mallowref3_Mem_clear : ∀ (a0 : (Option Addr)) (a1 : Int) (a2 : Int) (K : Int → Bool → World → Prop) (w : World), Prop) (a0 : (Option Addr)) (a1 : Int) (a2 : Int) (K : Int → Bool → World → Prop) (w : World) : Prop :=
  JOIN (Int × Unit) (fun J1 =>
    CND ((a1 : Int) == 0) (
      J1 (512, ()) w
    ) (
      J1 (a1, ()) w
    )
  ) fun s2 _ w3 =>
    LOOP (Int × Unit) (s2.1, ()) w3 fun s4 _ w5 next6 =>
      CND (decide ((s4.1 : Int) ≥ 34359738368)) (
        K 0 false w5
      ) (
        JOIN (Int × Unit) (fun J7 =>
          512 ≠ (0 : Int) ∧
          CND (((Int.tmod s4.1 512) : Int) != 0) (
            512 ≠ (0 : Int) ∧
            LET (u64 ((u64 (s4.1 + 512)) - (Int.tmod s4.1 512)) : Int) fun page_10 =>
            J7 (page_10, ()) w5
          ) (
            J7 (s4.1, ()) w5
          )
        ) fun s8 _ w9 =>
          JOIN (Bool × Unit) (fun J11 =>
            CND (decide ((s8.1 : Int) ≥ 34359738368)) (
              J11 (true, ()) w9
            ) (
              J11 (decide ((a2 : Int) > (u64 (34359738368 - s8.1))), ()) w9
            )
          ) fun s12 _ w13 =>
            CND (s12.1) (
              K 0 false w13
            ) (
              c_mallowref3_Mem_clear a0 s8.1 a2 (fun r14 r15 w16 =>
              CND (r15) (
                K s8.1 true w16
              ) (
                next6 (r14, ()) w16
              )
              ) w13
            )
      )

theorem tieZ58 (c_mallowref3_Mem_clear : ∀ (a0 : (Option Addr)) (a1 : Int) (a2 : Int) (K : Int → Bool → World → Prop) (w : World), Prop) (x : ArgsV [.one (.ptr), .one (.int .u64), .one (.int .u64)]) (K Kp : Value → World → Prop) (w : World) : T0.mallowref3_Mem_first env c_mallowref3_Mem_clear x.1 x.2.1 x.2.2.1 (fun r1 r2 w' => K (.tuple ⟨[.int .u64 r1, .bool r2]⟩) w') w =
    ev Go.Proofs.Try.prog (tabC [(57, fun args w K Kp => unArgs [.one (.ptr), .one (.int .u64), .one (.int .u64)] args.toList fun x => c_mallowref3_Mem_clear x.1 x.2.1 x.2.2.1 (fun r1 r2 w' => K (.tuple ⟨[.int .u64 r1, .bool r2]⟩) w') w)]) (ground Go.Proofs.Try.prog) ann58 body58 (finQ Go.Proofs.Try.prog Go.Proofs.Try.f58 K Kp) (initF (mkArgs [.one (.ptr), .one (.int .u64), .one (.int .u64)] x)) w := by kernel_rfl
theorem tie58 (x : ArgsV [.one (.ptr), .one (.int .u64), .one (.int .u64)]) (K Kp : Value → World → Prop) (w : World) : F.mallowref3_Mem_first env x.1 x.2.1 x.2.2.1 (fun r1 r2 w' => K (.tuple ⟨[.int .u64 r1, .bool r2]⟩) w') w =
    ev Go.Proofs.Try.prog (tabC [(57, C57)]) (ground Go.Proofs.Try.prog) ann58 body58 (finQ Go.Proofs.Try.prog Go.Proofs.Try.f58 K Kp) (initF (mkArgs [.one (.ptr), .one (.int .u64), .one (.int .u64)] x)) w := tieZ58 (F.mallowref3_Mem_clear env) x K Kp w
theorem fits58 : FitsOne Go.Proofs.Try.prog 58 C58 :=
  fits_of_tie (T := [(57, C57)]) (A := ann58) (fn := Go.Proofs.Try.f58) (c := body58) (fits_cons fits57 fits_nil) mixed Go.Proofs.Try.func58 Go.Proofs.Try.call58 (by kernel_rfl) (by kernel_rfl) (by kernel_rfl) tie58

/- F.mallowref3_Mem_Reserve -/
noncomputable def C44 : Entry := fun args w K Kp => unArgs [.one (.ptr), .one (.int .u64), .one (.int .u64)] args.toList fun x => F.mallowref3_Mem_Reserve env x.1 x.2.1 x.2.2.1 (fun r1 r2 w' => K (.tuple ⟨[.int .u64 r1, .int .i64 r2]⟩) w') w
noncomputable def body44 : Code := (Go.Proofs.Try.f44.body).getD .skip
def ann44 : Ann := { loops := [(21, [(12, .one (.sl)), (13, .one (.int .u64))])], joins := [(2, [(24, .one (.bool))]), (10, [(9, .one (.bool))]), (12, [(8, .one (.int .u64)), (9, .one (.bool))]), (14, [(8, .one (.int .u64)), (9, .one (.bool))]), (16, [(8, .one (.int .u64)), (9, .one (.bool))])] }
def T0.mallowref3_Mem_Reserve (E : Env) (c_mallowref3_Mem_refuses : ∀ (a0 : (Option Addr)) (K : Bool → World → Prop) (w : World), Prop) (c_mallowref3_right : ∀ (a0 : Int) (a1 : Int) (K : Bool → World → Prop) (w : World), Prop) (c_mallowref3_Mem_clear : ∀ (a0 : (Option Addr)) (a1 : Int) (a2 : Int) (K : Int → Bool → World → Prop) (w : World), Prop) (c_mallowref3_Mem_first : ∀ (a0 : (Option Addr)) (a1 : Int) (a2 : Int) (K : Int → Bool → World → Prop) (w : World), Prop) (c_mallowref3_Mem_find : ∀ (a0 : (Option Addr)) (a1 : Int) (K : Int → Bool → World → Prop) (w : World), Prop) (a0 : (Option Addr)) (a1 : Int) (a2 : Int) (K : Int → Int → World → Prop) (w : World) : Prop :=
  JOIN (Bool × Unit) (fun J1 =>
    CND ((a2 : Int) == 0) (
      J1 (true, ()) w
    ) (
      512 ≠ (0 : Int) ∧
      CND (((Int.tmod a2 512) : Int) != 0) (
        J1 (true, ()) w
      ) (
        J1 (decide ((a2 : Int) > 134217728), ()) w
      )
    )
  ) fun s2 _ w3 =>
    CND (s2.1) (
      K 0 1 w3
    ) (
      c_mallowref3_Mem_refuses a0 (fun r4 w5 =>
      CND (r4) (
        K 0 13 w5
      ) (
        JOIN (Int × Bool × Unit) (fun J6 =>
          NC a0 fun p9 =>
          ∃ x10 : SlV, w5.cell? p9 = some (.slice x10.base x10.len x10.cap) ∧
          CND (decide ((((x10.len : Nat) : Int) : Int) > 0)) (
            NC a0 fun p11 =>
            ∃ x12 : SlV, w5.cell? p11 = some (.slice x12.base x12.len x12.cap) ∧
            NC x12.base fun p13 =>
            ((0 : Int) ≤ 0 ∧ (0 : Int) < (x12.len : Nat)) ∧
            ∃ x14 : Int, w5.cell? (p13.add (Int.toNat 0 * 1)) = some (.int .u64 x14) ∧
            NC a0 fun p15 =>
            ∃ x16 : SlV, w5.cell? p15 = some (.slice x16.base x16.len x16.cap) ∧
            ((0 : Int) ≤ 1 ∧ (1 : Int) ≤ (x16.len : Nat)) ∧
            NC a0 fun p17 =>
            stCells p17 0 [.slice (slB x16.base x16.cap (Int.toNat 1) 1) (x16.len - (Int.toNat 1)) (x16.cap - (Int.toNat 1))] w5 fun w18 =>
            JOIN (Bool × Unit) (fun J19 =>
              CND (decide ((x14 : Int) > 0)) (
                512 ≠ (0 : Int) ∧
                CND (((Int.tmod x14 512) : Int) == 0) (
                  c_mallowref3_right x14 a2 (fun r22 w23 =>
                  J19 (r22, ()) w23
                  ) w18
                ) (
                  J19 (false, ()) w18
                )
              ) (
                J19 (false, ()) w18
              )
            ) fun s20 _ w21 =>
              CND (s20.1) (
                c_mallowref3_Mem_clear a0 x14 a2 (fun r24 r25 w26 =>
                J6 (x14, r25, ()) w26
                ) w21
              ) (
                J6 (x14, s20.1, ()) w21
              )
          ) (
            J6 (0, false, ()) w5
          )
        ) fun s7 _ w8 =>
          JOIN (Int × Bool × Unit) (fun J27 =>
            CND (!s7.2.1) (
              c_mallowref3_Mem_first a0 a1 a2 (fun r30 r31 w32 =>
              J27 (r30, r31, ()) w32
              ) w8
            ) (
              J27 (s7.1, s7.2.1, ()) w8
            )
          ) fun s28 _ w29 =>
            JOIN (Int × Bool × Unit) (fun J33 =>
              CND (!s28.2.1) (
                c_mallowref3_Mem_first a0 0 a2 (fun r36 r37 w38 =>
                J33 (r36, r37, ()) w38
                ) w29
              ) (
                J33 (s28.1, s28.2.1, ()) w29
              )
            ) fun s34 _ w35 =>
              CND (!s34.2.1) (
                K 0 13 w35
              ) (
                c_mallowref3_Mem_find a0 s34.1 (fun r39 r40 w41 =>
                AL (.cells ⟨[]⟩ E.t_mallowref3_Page) w41 fun b42 w43 =>
                NC a0 fun p44 =>
                ∃ x45 : SlV, w43.cell? (p44.add 3) = some (.slice x45.base x45.len x45.cap) ∧
                ((0 : Int) ≤ r39 ∧ (r39 : Int) ≤ (x45.cap : Nat)) ∧
                APP E.t_mallowref3_Page 3 24 #[.int .u64 0, .int .i64 0, .int .u64 0] ⟨(some (Addr.mk b42 0 none)), 0, 0⟩ ⟨(slB x45.base x45.cap 0 3), (Int.toNat r39), x45.cap⟩ w43 fun s46 w47 =>
                LOOP (SlV × Int × Unit) (s46, 0, ()) w47 fun s48 _ w49 next50 =>
                  CND (decide ((s48.2.1 : Int) < a2)) (
                    AL (.cells ⟨[.int .u64 (u64 (s34.1 + s48.2.1)), .int .i64 1, .int .u64 0]⟩ E.t_mallowref3_Page) w49 fun b51 w52 =>
                    APP E.t_mallowref3_Page 3 24 #[.int .u64 0, .int .i64 0, .int .u64 0] s48.1 ⟨(some (Addr.mk b51 0 none)), 1, 1⟩ w52 fun s53 w54 =>
                    next50 (s53, u64 (s48.2.1 + 1), ()) w54
                  ) (
                    NC a0 fun p55 =>
                    ∃ x56 : SlV, w49.cell? (p55.add 3) = some (.slice x56.base x56.len x56.cap) ∧
                    ((0 : Int) ≤ r39 ∧ (r39 : Int) ≤ (x56.len : Nat)) ∧
                    APP E.t_mallowref3_Page 3 24 #[.int .u64 0, .int .i64 0, .int .u64 0] s48.1 ⟨(slB x56.base x56.cap (Int.toNat r39) 3), (x56.len - (Int.toNat r39)), (x56.cap - (Int.toNat r39))⟩ w49 fun s57 w58 =>
                    NC a0 fun p59 =>
                    stCells (p59.add 3) 0 [.slice s57.base s57.len s57.cap] w58 fun w60 =>
                    K s34.1 0 w60
                  )
                ) w35
              )
      )
      ) w3
    )

theorem tieZ44 (c_mallowref3_Mem_refuses : ∀ (a0 : (Option Addr)) (K : Bool → World → Prop) (w : World), Prop) (c_mallowref3_right : ∀ (a0 : Int) (a1 : Int) (K : Bool → World → Prop) (w : World), Prop) (c_mallowref3_Mem_clear : ∀ (a0 : (Option Addr)) (a1 : Int) (a2 : Int) (K : Int → Bool → World → Prop) (w : World), Prop) (c_mallowref3_Mem_first : ∀ (a0 : (Option Addr)) (a1 : Int) (a2 : Int) (K : Int → Bool → World → Prop) (w : World), Prop) (c_mallowref3_Mem_find : ∀ (a0 : (Option Addr)) (a1 : Int) (K : Int → Bool → World → Prop) (w : World), Prop) (x : ArgsV [.one (.ptr), .one (.int .u64), .one (.int .u64)]) (K Kp : Value → World → Prop) (w : World) : T0.mallowref3_Mem_Reserve env c_mallowref3_Mem_refuses c_mallowref3_right c_mallowref3_Mem_clear c_mallowref3_Mem_first c_mallowref3_Mem_find x.1 x.2.1 x.2.2.1 (fun r1 r2 w' => K (.tuple ⟨[.int .u64 r1, .int .i64 r2]⟩) w') w =
    ev Go.Proofs.Try.prog (tabC [(55, fun args w K Kp => unArgs [.one (.ptr)] args.toList fun x => c_mallowref3_Mem_refuses x.1 (fun r1 w' => K (.bool r1) w') w), (56, fun args w K Kp => unArgs [.one (.int .u64), .one (.int .u64)] args.toList fun x => c_mallowref3_right x.1 x.2.1 (fun r1 w' => K (.bool r1) w') w), (57, fun args w K Kp => unArgs [.one (.ptr), .one (.int .u64), .one (.int .u64)] args.toList fun x => c_mallowref3_Mem_clear x.1 x.2.1 x.2.2.1 (fun r1 r2 w' => K (.tuple ⟨[.int .u64 r1, .bool r2]⟩) w') w), (58, fun args w K Kp => unArgs [.one (.ptr), .one (.int .u64), .one (.int .u64)] args.toList fun x => c_mallowref3_Mem_first x.1 x.2.1 x.2.2.1 (fun r1 r2 w' => K (.tuple ⟨[.int .u64 r1, .bool r2]⟩) w') w), (59, fun args w K Kp => unArgs [.one (.ptr), .one (.int .u64)] args.toList fun x => c_mallowref3_Mem_find x.1 x.2.1 (fun r1 r2 w' => K (.tuple ⟨[.int .i64 r1, .bool r2]⟩) w') w)]) (ground Go.Proofs.Try.prog) ann44 body44 (finQ Go.Proofs.Try.prog Go.Proofs.Try.f44 K Kp) (initF (mkArgs [.one (.ptr), .one (.int .u64), .one (.int .u64)] x)) w := by kernel_rfl
theorem tie44 (x : ArgsV [.one (.ptr), .one (.int .u64), .one (.int .u64)]) (K Kp : Value → World → Prop) (w : World) : F.mallowref3_Mem_Reserve env x.1 x.2.1 x.2.2.1 (fun r1 r2 w' => K (.tuple ⟨[.int .u64 r1, .int .i64 r2]⟩) w') w =
    ev Go.Proofs.Try.prog (tabC [(55, C55), (56, C56), (57, C57), (58, C58), (59, C59)]) (ground Go.Proofs.Try.prog) ann44 body44 (finQ Go.Proofs.Try.prog Go.Proofs.Try.f44 K Kp) (initF (mkArgs [.one (.ptr), .one (.int .u64), .one (.int .u64)] x)) w := tieZ44 (F.mallowref3_Mem_refuses env) (F.mallowref3_right env) (F.mallowref3_Mem_clear env) (F.mallowref3_Mem_first env) (F.mallowref3_Mem_find env) x K Kp w
theorem fits44 : FitsOne Go.Proofs.Try.prog 44 C44 :=
  fits_of_tie (T := [(55, C55), (56, C56), (57, C57), (58, C58), (59, C59)]) (A := ann44) (fn := Go.Proofs.Try.f44) (c := body44) (fits_cons fits55 (fits_cons fits56 (fits_cons fits57 (fits_cons fits58 (fits_cons fits59 fits_nil))))) mixed Go.Proofs.Try.func44 Go.Proofs.Try.call44 (by kernel_rfl) (by kernel_rfl) (by kernel_rfl) tie44

/- F.mallowref3_Mem_Commit -/
noncomputable def C45 : Entry := fun args w K Kp => unArgs [.one (.ptr), .one (.int .u64), .one (.int .u64)] args.toList fun x => F.mallowref3_Mem_Commit env x.1 x.2.1 x.2.2.1 (fun r1 w' => K (.int .i64 r1) w') w
noncomputable def body45 : Code := (Go.Proofs.Try.f45.body).getD .skip
def ann45 : Ann := { loops := [(8, [(9, .one (.bool)), (10, .one (.int .u64))]), (19, [(12, .one (.int .i64))])], joins := [(25, [(94, .one (.bool))]), (27, [(14, .one (.int .u64))])] }
def T0.mallowref3_Mem_Commit (E : Env) (c_mallowref3_right : ∀ (a0 : Int) (a1 : Int) (K : Bool → World → Prop) (w : World), Prop) (c_mallowref3_Mem_find : ∀ (a0 : (Option Addr)) (a1 : Int) (K : Int → Bool → World → Prop) (w : World), Prop) (c_mallowref3_Mem_refuses : ∀ (a0 : (Option Addr)) (K : Bool → World → Prop) (w : World), Prop) (a0 : (Option Addr)) (a1 : Int) (a2 : Int) (K : Int → World → Prop) (w : World) : Prop :=
  c_mallowref3_right a1 a2 (fun r1 w2 =>
  CND (!r1) (
    K 1 w2
  ) (
    c_mallowref3_Mem_find a0 a1 (fun r3 r4 w5 =>
    NC a0 fun p6 =>
    ∃ x7 : SlV, w5.cell? (p6.add 3) = some (.slice x7.base x7.len x7.cap) ∧
    CND (decide ((a2 : Int) > (u64 (i64 (((x7.len : Nat) : Int) - r3))))) (
      K 33 w5
    ) (
      LOOP (Bool × Int × Unit) (true, 0, ()) w5 fun s8 _ w9 next10 =>
        CND (decide ((s8.2.1 : Int) < a2)) (
          NC a0 fun p11 =>
          ∃ x12 : SlV, w9.cell? (p11.add 3) = some (.slice x12.base x12.len x12.cap) ∧
          NC x12.base fun p13 =>
          ((0 : Int) ≤ (i64 (r3 + (i64 (s8.2.1)))) ∧ ((i64 (r3 + (i64 (s8.2.1)))) : Int) < (x12.len : Nat)) ∧
          ∃ c14 : Int, w9.cell? ((p13.add (Int.toNat (i64 (r3 + (i64 (s8.2.1)))) * 3)).add 0) = some (.int .u64 c14) ∧
          ∃ c15 : Int, w9.cell? ((p13.add (Int.toNat (i64 (r3 + (i64 (s8.2.1)))) * 3)).add 1) = some (.int .i64 c15) ∧
          ∃ c16 : Int, w9.cell? ((p13.add (Int.toNat (i64 (r3 + (i64 (s8.2.1)))) * 3)).add 2) = some (.int .u64 c16) ∧
          AL (.cells #[.int .u64 0, .int .i64 0, .int .u64 0] E.t_mallowref3_Page) w9 fun b17 w18 =>
          stCells (Addr.mk b17 0 none) 0 [.int .u64 c14, .int .i64 c15, .int .u64 c16] w18 fun w19 =>
          ∃ x20 : Int, w19.cell? (Addr.mk b17 0 none) = some (.int .u64 x20) ∧
          CND ((x20 : Int) != (u64 (a1 + s8.2.1))) (
            K 33 w19
          ) (
            CND (s8.1) (
              ∃ x21 : Int, w19.cell? ((Addr.mk b17 0 none).add 1) = some (.int .i64 x21) ∧
              next10 ((x21 : Int) == 2, u64 (s8.2.1 + 1), ()) w19
            ) (
              next10 (false, u64 (s8.2.1 + 1), ()) w19
            )
          )
        ) (
          CND (s8.1) (
            K 0 w9
          ) (
            c_mallowref3_Mem_refuses a0 (fun r22 w23 =>
            CND (r22) (
              K 13 w23
            ) (
              LOOP (Int × Unit) (0, ()) w23 fun s24 _ w25 next26 =>
                CND (decide ((s24.1 : Int) < (i64 (a2)))) (
                  NC a0 fun p27 =>
                  ∃ x28 : SlV, w25.cell? (p27.add 3) = some (.slice x28.base x28.len x28.cap) ∧
                  NC x28.base fun p29 =>
                  ((0 : Int) ≤ (i64 (r3 + s24.1)) ∧ ((i64 (r3 + s24.1)) : Int) < (x28.len : Nat)) ∧
                  ∃ c30 : Int, w25.cell? ((p29.add (Int.toNat (i64 (r3 + s24.1)) * 3)).add 0) = some (.int .u64 c30) ∧
                  ∃ c31 : Int, w25.cell? ((p29.add (Int.toNat (i64 (r3 + s24.1)) * 3)).add 1) = some (.int .i64 c31) ∧
                  ∃ c32 : Int, w25.cell? ((p29.add (Int.toNat (i64 (r3 + s24.1)) * 3)).add 2) = some (.int .u64 c32) ∧
                  AL (.cells #[.int .u64 0, .int .i64 0, .int .u64 0] E.t_mallowref3_Page) w25 fun b33 w34 =>
                  stCells (Addr.mk b33 0 none) 0 [.int .u64 c30, .int .i64 c31, .int .u64 c32] w34 fun w35 =>
                  ∃ x36 : Int, w35.cell? ((Addr.mk b33 0 none).add 1) = some (.int .i64 x36) ∧
                  CND ((x36 : Int) == 2) (
                    next26 (i64 (s24.1 + 1), ()) w35
                  ) (
                    JOIN (Int × Unit) (fun J37 =>
                      JOIN (Bool × Unit) (fun J40 =>
                        ∃ x43 : Int, w35.cell? ((Addr.mk b33 0 none).add 1) = some (.int .i64 x43) ∧
                        CND ((x43 : Int) == 3) (
                          NC a0 fun p44 =>
                          ∃ x45 : SlV, w35.cell? (p44.add 2) = some (.slice x45.base x45.len x45.cap) ∧
                          J40 (decide ((((x45.len : Nat) : Int) : Int) > 0), ()) w35
                        ) (
                          J40 (false, ()) w35
                        )
                      ) fun s41 _ w42 =>
                        CND (s41.1) (
                          NC a0 fun p46 =>
                          ∃ x47 : SlV, w42.cell? (p46.add 2) = some (.slice x47.base x47.len x47.cap) ∧
                          NC x47.base fun p48 =>
                          ((0 : Int) ≤ 0 ∧ (0 : Int) < (x47.len : Nat)) ∧
                          ∃ x49 : Int, w42.cell? (p48.add (Int.toNat 0 * 1)) = some (.int .u64 x49) ∧
                          NC a0 fun p50 =>
                          ∃ x51 : SlV, w42.cell? (p50.add 2) = some (.slice x51.base x51.len x51.cap) ∧
                          ((0 : Int) ≤ 1 ∧ (1 : Int) ≤ (x51.len : Nat)) ∧
                          NC a0 fun p52 =>
                          stCells (p52.add 2) 0 [.slice (slB x51.base x51.cap (Int.toNat 1) 1) (x51.len - (Int.toNat 1)) (x51.cap - (Int.toNat 1))] w42 fun w53 =>
                          J37 (x49, ()) w53
                        ) (
                          J37 (0, ()) w42
                        )
                    ) fun s38 _ w39 =>
                      NC a0 fun p54 =>
                      ∃ x55 : SlV, w39.drew.cell? (p54.add 3) = some (.slice x55.base x55.len x55.cap) ∧
                      ∃ x56 : Int, w39.drew.cell? (Addr.mk b33 0 none) = some (.int .u64 x56) ∧
                      NC x55.base fun p57 =>
                      ((0 : Int) ≤ (i64 (r3 + s24.1)) ∧ ((i64 (r3 + s24.1)) : Int) < (x55.len : Nat)) ∧
                      stCells (p57.add (Int.toNat (i64 (r3 + s24.1)) * 3)) 0 [.int .u64 x56, .int .i64 2, .int .u64 s38.1] w39.drew fun w58 =>
                      next26 (i64 (s24.1 + 1), ()) w58
                  )
                ) (
                  K 0 w25
                )
            )
            ) w9
          )
        )
    )
    ) w2
  )
  ) w

theorem tieZ45 (c_mallowref3_right : ∀ (a0 : Int) (a1 : Int) (K : Bool → World → Prop) (w : World), Prop) (c_mallowref3_Mem_find : ∀ (a0 : (Option Addr)) (a1 : Int) (K : Int → Bool → World → Prop) (w : World), Prop) (c_mallowref3_Mem_refuses : ∀ (a0 : (Option Addr)) (K : Bool → World → Prop) (w : World), Prop) (x : ArgsV [.one (.ptr), .one (.int .u64), .one (.int .u64)]) (K Kp : Value → World → Prop) (w : World) : T0.mallowref3_Mem_Commit env c_mallowref3_right c_mallowref3_Mem_find c_mallowref3_Mem_refuses x.1 x.2.1 x.2.2.1 (fun r1 w' => K (.int .i64 r1) w') w =
    ev Go.Proofs.Try.prog (tabC [(56, fun args w K Kp => unArgs [.one (.int .u64), .one (.int .u64)] args.toList fun x => c_mallowref3_right x.1 x.2.1 (fun r1 w' => K (.bool r1) w') w), (59, fun args w K Kp => unArgs [.one (.ptr), .one (.int .u64)] args.toList fun x => c_mallowref3_Mem_find x.1 x.2.1 (fun r1 r2 w' => K (.tuple ⟨[.int .i64 r1, .bool r2]⟩) w') w), (55, fun args w K Kp => unArgs [.one (.ptr)] args.toList fun x => c_mallowref3_Mem_refuses x.1 (fun r1 w' => K (.bool r1) w') w)]) (ground Go.Proofs.Try.prog) ann45 body45 (finQ Go.Proofs.Try.prog Go.Proofs.Try.f45 K Kp) (initF (mkArgs [.one (.ptr), .one (.int .u64), .one (.int .u64)] x)) w := by kernel_rfl
theorem tie45 (x : ArgsV [.one (.ptr), .one (.int .u64), .one (.int .u64)]) (K Kp : Value → World → Prop) (w : World) : F.mallowref3_Mem_Commit env x.1 x.2.1 x.2.2.1 (fun r1 w' => K (.int .i64 r1) w') w =
    ev Go.Proofs.Try.prog (tabC [(56, C56), (59, C59), (55, C55)]) (ground Go.Proofs.Try.prog) ann45 body45 (finQ Go.Proofs.Try.prog Go.Proofs.Try.f45 K Kp) (initF (mkArgs [.one (.ptr), .one (.int .u64), .one (.int .u64)] x)) w := tieZ45 (F.mallowref3_right env) (F.mallowref3_Mem_find env) (F.mallowref3_Mem_refuses env) x K Kp w
theorem fits45 : FitsOne Go.Proofs.Try.prog 45 C45 :=
  fits_of_tie (T := [(56, C56), (59, C59), (55, C55)]) (A := ann45) (fn := Go.Proofs.Try.f45) (c := body45) (fits_cons fits56 (fits_cons fits59 (fits_cons fits55 fits_nil))) mixed Go.Proofs.Try.func45 Go.Proofs.Try.call45 (by kernel_rfl) (by kernel_rfl) (by kernel_rfl) tie45

/- F.mallowref3_Mem_word -/
noncomputable def C61 : Entry := fun args w K Kp => unArgs [.one (.ptr), .one (.int .u64)] args.toList fun x => F.mallowref3_Mem_word env x.1 x.2.1 (fun r1 r2 w' => K (.tuple ⟨[.int .i64 r1, .bool r2]⟩) w') w
noncomputable def body61 : Code := (Go.Proofs.Try.f61.body).getD .skip
def ann61 : Ann := { loops := [(2, [(6, .one (.int .i64)), (7, .one (.int .i64))])], joins := [] }
theorem tie61 (x : ArgsV [.one (.ptr), .one (.int .u64)]) (K Kp : Value → World → Prop) (w : World) : F.mallowref3_Mem_word env x.1 x.2.1 (fun r1 r2 w' => K (.tuple ⟨[.int .i64 r1, .bool r2]⟩) w') w =
    ev Go.Proofs.Try.prog (tabC []) (ground Go.Proofs.Try.prog) ann61 body61 (finQ Go.Proofs.Try.prog Go.Proofs.Try.f61 K Kp) (initF (mkArgs [.one (.ptr), .one (.int .u64)] x)) w := by kernel_rfl
theorem fits61 : FitsOne Go.Proofs.Try.prog 61 C61 :=
  fits_of_tie (T := []) (A := ann61) (fn := Go.Proofs.Try.f61) (c := body61) fits_nil mixed Go.Proofs.Try.func61 Go.Proofs.Try.call61 (by kernel_rfl) (by kernel_rfl) (by kernel_rfl) tie61

/- F.mallowref3_Mem_forget -/
noncomputable def C60 : Entry := fun args w K Kp => unArgs [.one (.ptr), .one (.int .u64), .one (.int .u64)] args.toList fun x => F.mallowref3_Mem_forget env x.1 x.2.1 x.2.2.1 (fun  w' => K (.tuple ⟨[]⟩) w') w
noncomputable def body60 : Code := (Go.Proofs.Try.f60.body).getD .skip
def ann60 : Ann := { loops := [], joins := [] }
def T0.mallowref3_Mem_forget (E : Env) (c_mallowref3_Mem_word : ∀ (a0 : (Option Addr)) (a1 : Int) (K : Int → Bool → World → Prop) (w : World), Prop) (a0 : (Option Addr)) (a1 : Int) (a2 : Int) (K : World → Prop) (w : World) : Prop :=
  c_mallowref3_Mem_word a0 a1 (fun r1 r2 w3 =>
  c_mallowref3_Mem_word a0 (u64 (a1 + a2)) (fun r4 r5 w6 =>
  AL (.cells ⟨[]⟩ E.t_mallowref3_Word) w6 fun b7 w8 =>
  NC a0 fun p9 =>
  ∃ x10 : SlV, w8.cell? (p9.add 4) = some (.slice x10.base x10.len x10.cap) ∧
  ((0 : Int) ≤ r1 ∧ (r1 : Int) ≤ (x10.cap : Nat)) ∧
  APP E.t_mallowref3_Word 2 16 #[.int .u64 0, .int .u64 0] ⟨(some (Addr.mk b7 0 none)), 0, 0⟩ ⟨(slB x10.base x10.cap 0 2), (Int.toNat r1), x10.cap⟩ w8 fun s11 w12 =>
  NC a0 fun p13 =>
  ∃ x14 : SlV, w12.cell? (p13.add 4) = some (.slice x14.base x14.len x14.cap) ∧
  ((0 : Int) ≤ r4 ∧ (r4 : Int) ≤ (x14.len : Nat)) ∧
  APP E.t_mallowref3_Word 2 16 #[.int .u64 0, .int .u64 0] s11 ⟨(slB x14.base x14.cap (Int.toNat r4) 2), (x14.len - (Int.toNat r4)), (x14.cap - (Int.toNat r4))⟩ w12 fun s15 w16 =>
  NC a0 fun p17 =>
  stCells (p17.add 4) 0 [.slice s15.base s15.len s15.cap] w16 fun w18 =>
  K  w18
  ) w3
  ) w

theorem tieZ60 (c_mallowref3_Mem_word : ∀ (a0 : (Option Addr)) (a1 : Int) (K : Int → Bool → World → Prop) (w : World), Prop) (x : ArgsV [.one (.ptr), .one (.int .u64), .one (.int .u64)]) (K Kp : Value → World → Prop) (w : World) : T0.mallowref3_Mem_forget env c_mallowref3_Mem_word x.1 x.2.1 x.2.2.1 (fun  w' => K (.tuple ⟨[]⟩) w') w =
    ev Go.Proofs.Try.prog (tabC [(61, fun args w K Kp => unArgs [.one (.ptr), .one (.int .u64)] args.toList fun x => c_mallowref3_Mem_word x.1 x.2.1 (fun r1 r2 w' => K (.tuple ⟨[.int .i64 r1, .bool r2]⟩) w') w)]) (ground Go.Proofs.Try.prog) ann60 body60 (finQ Go.Proofs.Try.prog Go.Proofs.Try.f60 K Kp) (initF (mkArgs [.one (.ptr), .one (.int .u64), .one (.int .u64)] x)) w := by kernel_rfl
theorem tie60 (x : ArgsV [.one (.ptr), .one (.int .u64), .one (.int .u64)]) (K Kp : Value → World → Prop) (w : World) : F.mallowref3_Mem_forget env x.1 x.2.1 x.2.2.1 (fun  w' => K (.tuple ⟨[]⟩) w') w =
    ev Go.Proofs.Try.prog (tabC [(61, C61)]) (ground Go.Proofs.Try.prog) ann60 body60 (finQ Go.Proofs.Try.prog Go.Proofs.Try.f60 K Kp) (initF (mkArgs [.one (.ptr), .one (.int .u64), .one (.int .u64)] x)) w := tieZ60 (F.mallowref3_Mem_word env) x K Kp w
theorem fits60 : FitsOne Go.Proofs.Try.prog 60 C60 :=
  fits_of_tie (T := [(61, C61)]) (A := ann60) (fn := Go.Proofs.Try.f60) (c := body60) (fits_cons fits61 fits_nil) mixed Go.Proofs.Try.func60 Go.Proofs.Try.call60 (by kernel_rfl) (by kernel_rfl) (by kernel_rfl) tie60

/- F.mallowref3_Mem_Release -/
noncomputable def C46 : Entry := fun args w K Kp => unArgs [.one (.ptr), .one (.int .u64), .one (.int .u64)] args.toList fun x => F.mallowref3_Mem_Release env x.1 x.2.1 x.2.2.1 (fun r1 w' => K (.int .i64 r1) w') w
noncomputable def body46 : Code := (Go.Proofs.Try.f46.body).getD .skip
def ann46 : Ann := { loops := [(7, [(9, .one (.int .u64))]), (13, [(11, .one (.int .i64))])], joins := [(11, [(57, .one (.bool))])] }
def T0.mallowref3_Mem_Release (E : Env) (c_mallowref3_right : ∀ (a0 : Int) (a1 : Int) (K : Bool → World → Prop) (w : World), Prop) (c_mallowref3_Mem_find : ∀ (a0 : (Option Addr)) (a1 : Int) (K : Int → Bool → World → Prop) (w : World), Prop) (c_mallowref3_Mem_forget : ∀ (a0 : (Option Addr)) (a1 : Int) (a2 : Int) (K : World → Prop) (w : World), Prop) (a0 : (Option Addr)) (a1 : Int) (a2 : Int) (K : Int → World → Prop) (w : World) : Prop :=
  c_mallowref3_right a1 a2 (fun r1 w2 =>
  CND (!r1) (
    K 1 w2
  ) (
    c_mallowref3_Mem_find a0 a1 (fun r3 r4 w5 =>
    NC a0 fun p6 =>
    ∃ x7 : SlV, w5.cell? (p6.add 3) = some (.slice x7.base x7.len x7.cap) ∧
    CND (decide ((a2 : Int) > (u64 (i64 (((x7.len : Nat) : Int) - r3))))) (
      K 33 w5
    ) (
      LOOP (Int × Unit) (0, ()) w5 fun s8 _ w9 next10 =>
        CND (decide ((s8.1 : Int) < a2)) (
          NC a0 fun p11 =>
          ∃ x12 : SlV, w9.cell? (p11.add 3) = some (.slice x12.base x12.len x12.cap) ∧
          NC x12.base fun p13 =>
          ((0 : Int) ≤ (i64 (r3 + (i64 (s8.1)))) ∧ ((i64 (r3 + (i64 (s8.1)))) : Int) < (x12.len : Nat)) ∧
          ∃ c14 : Int, w9.cell? ((p13.add (Int.toNat (i64 (r3 + (i64 (s8.1)))) * 3)).add 0) = some (.int .u64 c14) ∧
          ∃ c15 : Int, w9.cell? ((p13.add (Int.toNat (i64 (r3 + (i64 (s8.1)))) * 3)).add 1) = some (.int .i64 c15) ∧
          ∃ c16 : Int, w9.cell? ((p13.add (Int.toNat (i64 (r3 + (i64 (s8.1)))) * 3)).add 2) = some (.int .u64 c16) ∧
          AL (.cells #[.int .u64 0, .int .i64 0, .int .u64 0] E.t_mallowref3_Page) w9 fun b17 w18 =>
          stCells (Addr.mk b17 0 none) 0 [.int .u64 c14, .int .i64 c15, .int .u64 c16] w18 fun w19 =>
          JOIN (Bool × Unit) (fun J20 =>
            ∃ x23 : Int, w19.cell? (Addr.mk b17 0 none) = some (.int .u64 x23) ∧
            CND ((x23 : Int) != (u64 (a1 + s8.1))) (
              J20 (true, ()) w19
            ) (
              ∃ x24 : Int, w19.cell? ((Addr.mk b17 0 none).add 1) = some (.int .i64 x24) ∧
              J20 ((x24 : Int) != 2, ()) w19
            )
          ) fun s21 _ w22 =>
            CND (s21.1) (
              K 33 w22
            ) (
              next10 (u64 (s8.1 + 1), ()) w22
            )
        ) (
          LOOP (Int × Unit) (0, ()) w9 fun s25 _ w26 next27 =>
            CND (decide ((s25.1 : Int) < (i64 (a2)))) (
              NC a0 fun p28 =>
              ∃ x29 : SlV, w26.cell? (p28.add 3) = some (.slice x29.base x29.len x29.cap) ∧
              NC x29.base fun p30 =>
              ((0 : Int) ≤ (i64 (r3 + s25.1)) ∧ ((i64 (r3 + s25.1)) : Int) < (x29.len : Nat)) ∧
              stCells (p30.add (Int.toNat (i64 (r3 + s25.1)) * 3)) 0 [.int .u64 (u64 (a1 + (u64 (s25.1)))), .int .i64 3, .int .u64 0] w26 fun w31 =>
              next27 (i64 (s25.1 + 1), ()) w31
            ) (
              c_mallowref3_Mem_forget a0 (u64 (a1 * 8192)) (u64 (a2 * 8192)) (fun  w32 =>
              K 0 w32
              ) w26
            )
        )
    )
    ) w2
  )
  ) w

theorem tieZ46 (c_mallowref3_right : ∀ (a0 : Int) (a1 : Int) (K : Bool → World → Prop) (w : World), Prop) (c_mallowref3_Mem_find : ∀ (a0 : (Option Addr)) (a1 : Int) (K : Int → Bool → World → Prop) (w : World), Prop) (c_mallowref3_Mem_forget : ∀ (a0 : (Option Addr)) (a1 : Int) (a2 : Int) (K : World → Prop) (w : World), Prop) (x : ArgsV [.one (.ptr), .one (.int .u64), .one (.int .u64)]) (K Kp : Value → World → Prop) (w : World) : T0.mallowref3_Mem_Release env c_mallowref3_right c_mallowref3_Mem_find c_mallowref3_Mem_forget x.1 x.2.1 x.2.2.1 (fun r1 w' => K (.int .i64 r1) w') w =
    ev Go.Proofs.Try.prog (tabC [(56, fun args w K Kp => unArgs [.one (.int .u64), .one (.int .u64)] args.toList fun x => c_mallowref3_right x.1 x.2.1 (fun r1 w' => K (.bool r1) w') w), (59, fun args w K Kp => unArgs [.one (.ptr), .one (.int .u64)] args.toList fun x => c_mallowref3_Mem_find x.1 x.2.1 (fun r1 r2 w' => K (.tuple ⟨[.int .i64 r1, .bool r2]⟩) w') w), (60, fun args w K Kp => unArgs [.one (.ptr), .one (.int .u64), .one (.int .u64)] args.toList fun x => c_mallowref3_Mem_forget x.1 x.2.1 x.2.2.1 (fun  w' => K (.tuple ⟨[]⟩) w') w)]) (ground Go.Proofs.Try.prog) ann46 body46 (finQ Go.Proofs.Try.prog Go.Proofs.Try.f46 K Kp) (initF (mkArgs [.one (.ptr), .one (.int .u64), .one (.int .u64)] x)) w := by kernel_rfl
theorem tie46 (x : ArgsV [.one (.ptr), .one (.int .u64), .one (.int .u64)]) (K Kp : Value → World → Prop) (w : World) : F.mallowref3_Mem_Release env x.1 x.2.1 x.2.2.1 (fun r1 w' => K (.int .i64 r1) w') w =
    ev Go.Proofs.Try.prog (tabC [(56, C56), (59, C59), (60, C60)]) (ground Go.Proofs.Try.prog) ann46 body46 (finQ Go.Proofs.Try.prog Go.Proofs.Try.f46 K Kp) (initF (mkArgs [.one (.ptr), .one (.int .u64), .one (.int .u64)] x)) w := tieZ46 (F.mallowref3_right env) (F.mallowref3_Mem_find env) (F.mallowref3_Mem_forget env) x K Kp w
theorem fits46 : FitsOne Go.Proofs.Try.prog 46 C46 :=
  fits_of_tie (T := [(56, C56), (59, C59), (60, C60)]) (A := ann46) (fn := Go.Proofs.Try.f46) (c := body46) (fits_cons fits56 (fits_cons fits59 (fits_cons fits60 fits_nil))) mixed Go.Proofs.Try.func46 Go.Proofs.Try.call46 (by kernel_rfl) (by kernel_rfl) (by kernel_rfl) tie46

/- F.mallowref3_Mem_Load -/
noncomputable def C47 : Entry := fun args w K Kp => unArgs [.one (.ptr), .one (.int .u64)] args.toList fun x => F.mallowref3_Mem_Load env x.1 x.2.1 (fun r1 r2 w' => K (.tuple ⟨[.int .u64 r1, .int .i64 r2]⟩) w') w
noncomputable def body47 : Code := (Go.Proofs.Try.f47.body).getD .skip
def ann47 : Ann := { loops := [], joins := [(5, [(31, .one (.bool))])] }
def T0.mallowref3_Mem_Load (E : Env) (c_mallowref3_Mem_find : ∀ (a0 : (Option Addr)) (a1 : Int) (K : Int → Bool → World → Prop) (w : World), Prop) (c_mallowref3_Mem_word : ∀ (a0 : (Option Addr)) (a1 : Int) (K : Int → Bool → World → Prop) (w : World), Prop) (a0 : (Option Addr)) (a1 : Int) (K : Int → Int → World → Prop) (w : World) : Prop :=
  8 ≠ (0 : Int) ∧
  CND (((Int.tmod a1 8) : Int) != 0) (
    K 0 11 w
  ) (
    8192 ≠ (0 : Int) ∧
    c_mallowref3_Mem_find a0 (u64 (Int.tdiv a1 8192)) (fun r1 r2 w3 =>
    JOIN (Bool × Unit) (fun J4 =>
      CND (!r2) (
        J4 (true, ()) w3
      ) (
        NC a0 fun p7 =>
        ∃ x8 : SlV, w3.cell? (p7.add 3) = some (.slice x8.base x8.len x8.cap) ∧
        NC x8.base fun p9 =>
        ((0 : Int) ≤ r1 ∧ (r1 : Int) < (x8.len : Nat)) ∧
        ∃ x10 : Int, w3.cell? ((p9.add (Int.toNat r1 * 3)).add 1) = some (.int .i64 x10) ∧
        J4 ((x10 : Int) != 2, ()) w3
      )
    ) fun s5 _ w6 =>
      CND (s5.1) (
        K 0 12 w6
      ) (
        c_mallowref3_Mem_word a0 a1 (fun r11 r12 w13 =>
        CND (r12) (
          NC a0 fun p14 =>
          ∃ x15 : SlV, w13.cell? (p14.add 4) = some (.slice x15.base x15.len x15.cap) ∧
          NC x15.base fun p16 =>
          ((0 : Int) ≤ r11 ∧ (r11 : Int) < (x15.len : Nat)) ∧
          ∃ x17 : Int, w13.cell? ((p16.add (Int.toNat r11 * 2)).add 1) = some (.int .u64 x17) ∧
          K x17 0 w13
        ) (
          NC a0 fun p18 =>
          ∃ x19 : SlV, w13.cell? (p18.add 3) = some (.slice x19.base x19.len x19.cap) ∧
          NC x19.base fun p20 =>
          ((0 : Int) ≤ r1 ∧ (r1 : Int) < (x19.len : Nat)) ∧
          ∃ x21 : Int, w13.cell? ((p20.add (Int.toNat r1 * 3)).add 2) = some (.int .u64 x21) ∧
          K x21 0 w13
        )
        ) w6
      )
    ) w
  )

theorem tieZ47 (c_mallowref3_Mem_find : ∀ (a0 : (Option Addr)) (a1 : Int) (K : Int → Bool → World → Prop) (w : World), Prop) (c_mallowref3_Mem_word : ∀ (a0 : (Option Addr)) (a1 : Int) (K : Int → Bool → World → Prop) (w : World), Prop) (x : ArgsV [.one (.ptr), .one (.int .u64)]) (K Kp : Value → World → Prop) (w : World) : T0.mallowref3_Mem_Load env c_mallowref3_Mem_find c_mallowref3_Mem_word x.1 x.2.1 (fun r1 r2 w' => K (.tuple ⟨[.int .u64 r1, .int .i64 r2]⟩) w') w =
    ev Go.Proofs.Try.prog (tabC [(59, fun args w K Kp => unArgs [.one (.ptr), .one (.int .u64)] args.toList fun x => c_mallowref3_Mem_find x.1 x.2.1 (fun r1 r2 w' => K (.tuple ⟨[.int .i64 r1, .bool r2]⟩) w') w), (61, fun args w K Kp => unArgs [.one (.ptr), .one (.int .u64)] args.toList fun x => c_mallowref3_Mem_word x.1 x.2.1 (fun r1 r2 w' => K (.tuple ⟨[.int .i64 r1, .bool r2]⟩) w') w)]) (ground Go.Proofs.Try.prog) ann47 body47 (finQ Go.Proofs.Try.prog Go.Proofs.Try.f47 K Kp) (initF (mkArgs [.one (.ptr), .one (.int .u64)] x)) w := by kernel_rfl
theorem tie47 (x : ArgsV [.one (.ptr), .one (.int .u64)]) (K Kp : Value → World → Prop) (w : World) : F.mallowref3_Mem_Load env x.1 x.2.1 (fun r1 r2 w' => K (.tuple ⟨[.int .u64 r1, .int .i64 r2]⟩) w') w =
    ev Go.Proofs.Try.prog (tabC [(59, C59), (61, C61)]) (ground Go.Proofs.Try.prog) ann47 body47 (finQ Go.Proofs.Try.prog Go.Proofs.Try.f47 K Kp) (initF (mkArgs [.one (.ptr), .one (.int .u64)] x)) w := tieZ47 (F.mallowref3_Mem_find env) (F.mallowref3_Mem_word env) x K Kp w
theorem fits47 : FitsOne Go.Proofs.Try.prog 47 C47 :=
  fits_of_tie (T := [(59, C59), (61, C61)]) (A := ann47) (fn := Go.Proofs.Try.f47) (c := body47) (fits_cons fits59 (fits_cons fits61 fits_nil)) mixed Go.Proofs.Try.func47 Go.Proofs.Try.call47 (by kernel_rfl) (by kernel_rfl) (by kernel_rfl) tie47

/- F.mallowref3_Mem_Store -/
noncomputable def C48 : Entry := fun args w K Kp => unArgs [.one (.ptr), .one (.int .u64), .one (.int .u64)] args.toList fun x => F.mallowref3_Mem_Store env x.1 x.2.1 x.2.2.1 (fun r1 w' => K (.int .i64 r1) w') w
noncomputable def body48 : Code := (Go.Proofs.Try.f48.body).getD .skip
def ann48 : Ann := { loops := [], joins := [] }
def T0.mallowref3_Mem_Store (E : Env) (c_mallowref3_Mem_Load : ∀ (a0 : (Option Addr)) (a1 : Int) (K : Int → Int → World → Prop) (w : World), Prop) (c_mallowref3_Mem_word : ∀ (a0 : (Option Addr)) (a1 : Int) (K : Int → Bool → World → Prop) (w : World), Prop) (a0 : (Option Addr)) (a1 : Int) (a2 : Int) (K : Int → World → Prop) (w : World) : Prop :=
  c_mallowref3_Mem_Load a0 a1 (fun r1 r2 w3 =>
  CND ((r2 : Int) != 0) (
    K r2 w3
  ) (
    c_mallowref3_Mem_word a0 a1 (fun r4 r5 w6 =>
    CND (r5) (
      NC a0 fun p7 =>
      ∃ x8 : SlV, w6.cell? (p7.add 4) = some (.slice x8.base x8.len x8.cap) ∧
      NC x8.base fun p9 =>
      ((0 : Int) ≤ r4 ∧ (r4 : Int) < (x8.len : Nat)) ∧
      stCells ((p9.add (Int.toNat r4 * 2)).add 1) 0 [.int .u64 a2] w6 fun w10 =>
      K 0 w10
    ) (
      AL (.cells ⟨[]⟩ E.t_mallowref3_Word) w6 fun b11 w12 =>
      NC a0 fun p13 =>
      ∃ x14 : SlV, w12.cell? (p13.add 4) = some (.slice x14.base x14.len x14.cap) ∧
      ((0 : Int) ≤ r4 ∧ (r4 : Int) ≤ (x14.cap : Nat)) ∧
      APP E.t_mallowref3_Word 2 16 #[.int .u64 0, .int .u64 0] ⟨(some (Addr.mk b11 0 none)), 0, 0⟩ ⟨(slB x14.base x14.cap 0 2), (Int.toNat r4), x14.cap⟩ w12 fun s15 w16 =>
      AL (.cells ⟨[.int .u64 a1, .int .u64 a2]⟩ E.t_mallowref3_Word) w16 fun b17 w18 =>
      APP E.t_mallowref3_Word 2 16 #[.int .u64 0, .int .u64 0] s15 ⟨(some (Addr.mk b17 0 none)), 1, 1⟩ w18 fun s19 w20 =>
      NC a0 fun p21 =>
      ∃ x22 : SlV, w20.cell? (p21.add 4) = some (.slice x22.base x22.len x22.cap) ∧
      ((0 : Int) ≤ r4 ∧ (r4 : Int) ≤ (x22.len : Nat)) ∧
      APP E.t_mallowref3_Word 2 16 #[.int .u64 0, .int .u64 0] s19 ⟨(slB x22.base x22.cap (Int.toNat r4) 2), (x22.len - (Int.toNat r4)), (x22.cap - (Int.toNat r4))⟩ w20 fun s23 w24 =>
      NC a0 fun p25 =>
      stCells (p25.add 4) 0 [.slice s23.base s23.len s23.cap] w24 fun w26 =>
      K 0 w26
    )
    ) w3
  )
  ) w

theorem tieZ48 (c_mallowref3_Mem_Load : ∀ (a0 : (Option Addr)) (a1 : Int) (K : Int → Int → World → Prop) (w : World), Prop) (c_mallowref3_Mem_word : ∀ (a0 : (Option Addr)) (a1 : Int) (K : Int → Bool → World → Prop) (w : World), Prop) (x : ArgsV [.one (.ptr), .one (.int .u64), .one (.int .u64)]) (K Kp : Value → World → Prop) (w : World) : T0.mallowref3_Mem_Store env c_mallowref3_Mem_Load c_mallowref3_Mem_word x.1 x.2.1 x.2.2.1 (fun r1 w' => K (.int .i64 r1) w') w =
    ev Go.Proofs.Try.prog (tabC [(47, fun args w K Kp => unArgs [.one (.ptr), .one (.int .u64)] args.toList fun x => c_mallowref3_Mem_Load x.1 x.2.1 (fun r1 r2 w' => K (.tuple ⟨[.int .u64 r1, .int .i64 r2]⟩) w') w), (61, fun args w K Kp => unArgs [.one (.ptr), .one (.int .u64)] args.toList fun x => c_mallowref3_Mem_word x.1 x.2.1 (fun r1 r2 w' => K (.tuple ⟨[.int .i64 r1, .bool r2]⟩) w') w)]) (ground Go.Proofs.Try.prog) ann48 body48 (finQ Go.Proofs.Try.prog Go.Proofs.Try.f48 K Kp) (initF (mkArgs [.one (.ptr), .one (.int .u64), .one (.int .u64)] x)) w := by kernel_rfl
theorem tie48 (x : ArgsV [.one (.ptr), .one (.int .u64), .one (.int .u64)]) (K Kp : Value → World → Prop) (w : World) : F.mallowref3_Mem_Store env x.1 x.2.1 x.2.2.1 (fun r1 w' => K (.int .i64 r1) w') w =
    ev Go.Proofs.Try.prog (tabC [(47, C47), (61, C61)]) (ground Go.Proofs.Try.prog) ann48 body48 (finQ Go.Proofs.Try.prog Go.Proofs.Try.f48 K Kp) (initF (mkArgs [.one (.ptr), .one (.int .u64), .one (.int .u64)] x)) w := tieZ48 (F.mallowref3_Mem_Load env) (F.mallowref3_Mem_word env) x K Kp w
theorem fits48 : FitsOne Go.Proofs.Try.prog 48 C48 :=
  fits_of_tie (T := [(47, C47), (61, C61)]) (A := ann48) (fn := Go.Proofs.Try.f48) (c := body48) (fits_cons fits47 (fits_cons fits61 fits_nil)) mixed Go.Proofs.Try.func48 Go.Proofs.Try.call48 (by kernel_rfl) (by kernel_rfl) (by kernel_rfl) tie48

/- F.vmem_Mem_part -/
noncomputable def C52 : Entry := fun args w K Kp => unArgs [.one (.ptr), .one (.int .u64), .one (.int .u64), .one (.int .u64)] args.toList fun x => F.vmem_Mem_part env x.1 x.2.1 x.2.2.1 x.2.2.2.1 (fun  w' => K (.tuple ⟨[]⟩) w') w
noncomputable def body52 : Code := (Go.Proofs.Try.f52.body).getD .skip
def ann52 : Ann := { loops := [], joins := [(1, [])] }
def T0.vmem_Mem_part (E : Env) (c_vmem_Mem_stored : ∀ (a0 : (Option Addr)) (a1 : Int) (K : (Option Addr) → World → Prop) (w : World), Prop) (a0 : (Option Addr)) (a1 : Int) (a2 : Int) (a3 : Int) (K : World → Prop) (w : World) : Prop :=
  JOIN (Unit) (fun J1 =>
    NC a0 fun p4 =>
    ∃ x5 : (Option Nat), w.cell? (p4.add 10) = some (.map x5) ∧
    LKP .u64 a1 x5 w (.pointer none) fun v6 ok7 es8 =>
    ∃ x9 : (Option Addr), v6 = .pointer x9 ∧
    CND (x9.isNone) (
      NC a0 fun p10 =>
      ∃ x11 : (Option Nat), w.cell? (p10.add 9) = some (.map x11) ∧
      LKP .u64 a1 x11 w (.int .u64 0) fun v12 ok13 es14 =>
      ∃ x15 : Int, v12 = .int .u64 x15 ∧
      CND ((x15 : Int) == 0) (
        K  w
      ) (
        J1 (()) w
      )
    ) (
      J1 (()) w
    )
  ) fun s2 _ w3 =>
    c_vmem_Mem_stored a0 a1 (fun r16 w17 =>
    NC r16 fun p18 =>
    ((0 : Int) ≤ a3 ∧ (a3 : Int) ≤ (1024 : Nat)) ∧
    ((0 : Int) ≤ a2 ∧ (a2 : Int) ≤ ((Int.toNat a3) : Nat)) ∧
    CLR #[.int .u64 0] (some (slA p18 1024 (Int.toNat a2) 1)) ((Int.toNat a3) - (Int.toNat a2)) w17 fun w19 =>
    K  w19
    ) w3

theorem tieZ52 (c_vmem_Mem_stored : ∀ (a0 : (Option Addr)) (a1 : Int) (K : (Option Addr) → World → Prop) (w : World), Prop) (x : ArgsV [.one (.ptr), .one (.int .u64), .one (.int .u64), .one (.int .u64)]) (K Kp : Value → World → Prop) (w : World) : T0.vmem_Mem_part env c_vmem_Mem_stored x.1 x.2.1 x.2.2.1 x.2.2.2.1 (fun  w' => K (.tuple ⟨[]⟩) w') w =
    ev Go.Proofs.Try.prog (tabC [(42, fun args w K Kp => unArgs [.one (.ptr), .one (.int .u64)] args.toList fun x => c_vmem_Mem_stored x.1 x.2.1 (fun r1 w' => K (.pointer r1) w') w)]) (ground Go.Proofs.Try.prog) ann52 body52 (finQ Go.Proofs.Try.prog Go.Proofs.Try.f52 K Kp) (initF (mkArgs [.one (.ptr), .one (.int .u64), .one (.int .u64), .one (.int .u64)] x)) w := by kernel_rfl
theorem tie52 (x : ArgsV [.one (.ptr), .one (.int .u64), .one (.int .u64), .one (.int .u64)]) (K Kp : Value → World → Prop) (w : World) : F.vmem_Mem_part env x.1 x.2.1 x.2.2.1 x.2.2.2.1 (fun  w' => K (.tuple ⟨[]⟩) w') w =
    ev Go.Proofs.Try.prog (tabC [(42, C42)]) (ground Go.Proofs.Try.prog) ann52 body52 (finQ Go.Proofs.Try.prog Go.Proofs.Try.f52 K Kp) (initF (mkArgs [.one (.ptr), .one (.int .u64), .one (.int .u64), .one (.int .u64)] x)) w := tieZ52 (F.vmem_Mem_stored env) x K Kp w
theorem fits52 : FitsOne Go.Proofs.Try.prog 52 C52 :=
  fits_of_tie (T := [(42, C42)]) (A := ann52) (fn := Go.Proofs.Try.f52) (c := body52) (fits_cons fits42 fits_nil) mixed Go.Proofs.Try.func52 Go.Proofs.Try.call52 (by kernel_rfl) (by kernel_rfl) (by kernel_rfl) tie52

/- F.vmem_Mem_Zero -/
noncomputable def C25 : Entry := fun args w K Kp => unArgs [.one (.ptr), .one (.int .u64), .one (.int .u64)] args.toList fun x => F.vmem_Mem_Zero env x.1 x.2.1 x.2.2.1 (fun r1 w' => K (.int .i64 r1) w') w
noncomputable def body25 : Code := (Go.Proofs.Try.f25.body).getD .skip
def ann25 : Ann := { loops := [], joins := [(2, [(18, .one (.bool))]), (6, [(28, .one (.bool))])] }
def T0.vmem_Mem_Zero (E : Env) (c_stretch_Set_Count : ∀ (a0 : (Option Addr)) (a1 : Int) (a2 : Int) (K : Int → World → Prop) (w : World), Prop) (c_vmem_Mem_part : ∀ (a0 : (Option Addr)) (a1 : Int) (a2 : Int) (a3 : Int) (K : World → Prop) (w : World), Prop) (c_vmem_forget_uint64_ : ∀ (a0 : (Option Nat)) (a1 : Int) (a2 : Int) (K : World → Prop) (w : World), Prop) (c_vmem_forget___1024_uint64_ : ∀ (a0 : (Option Nat)) (a1 : Int) (a2 : Int) (K : World → Prop) (w : World), Prop) (a0 : (Option Addr)) (a1 : Int) (a2 : Int) (K : Int → World → Prop) (w : World) : Prop :=
  JOIN (Bool × Unit) (fun J1 =>
    8 ≠ (0 : Int) ∧
    CND (((Int.tmod a1 8) : Int) != 0) (
      J1 (true, ()) w
    ) (
      8 ≠ (0 : Int) ∧
      J1 (((Int.tmod a2 8) : Int) != 0, ()) w
    )
  ) fun s2 _ w3 =>
    CND (s2.1) (
      K 11 w3
    ) (
      CND ((a2 : Int) == 0) (
        K 0 w3
      ) (
        JOIN (Bool × Unit) (fun J4 =>
          CND (decide ((a1 : Int) ≥ 281474976710656)) (
            J4 (true, ()) w3
          ) (
            J4 (decide ((a2 : Int) > (u64 (281474976710656 - a1))), ()) w3
          )
        ) fun s5 _ w6 =>
          CND (s5.1) (
            K 12 w6
          ) (
            8192 ≠ (0 : Int) ∧
            8192 ≠ (0 : Int) ∧
            LET (u64 (Int.tdiv (u64 ((u64 (a1 + a2)) - 1)) 8192) : Int) fun last_7 =>
            NC a0 fun p8 =>
            c_stretch_Set_Count (some (p8.add 5)) (u64 (Int.tdiv a1 8192)) (u64 (last_7 + 1)) (fun r9 w10 =>
            CND ((r9 : Int) != (u64 ((u64 (last_7 - (u64 (Int.tdiv a1 8192)))) + 1))) (
              K 12 w10
            ) (
              8192 ≠ (0 : Int) ∧
              8 ≠ (0 : Int) ∧
              8192 ≠ (0 : Int) ∧
              8 ≠ (0 : Int) ∧
              LET (u64 (Int.tdiv (Int.tmod a1 8192) 8) : Int) fun from_11 =>
              LET (u64 ((u64 (Int.tdiv (Int.tmod (u64 ((u64 (a1 + a2)) - 1)) 8192) 8)) + 1) : Int) fun to_12 =>
              CND (((u64 (Int.tdiv a1 8192)) : Int) == last_7) (
                c_vmem_Mem_part a0 (u64 (Int.tdiv a1 8192)) from_11 to_12 (fun  w13 =>
                K 0 w13
                ) w10
              ) (
                c_vmem_Mem_part a0 (u64 (Int.tdiv a1 8192)) from_11 1024 (fun  w14 =>
                c_vmem_Mem_part a0 last_7 0 to_12 (fun  w15 =>
                NC a0 fun p16 =>
                ∃ x17 : (Option Nat), w15.cell? (p16.add 9) = some (.map x17) ∧
                c_vmem_forget_uint64_ x17 (u64 ((u64 (Int.tdiv a1 8192)) + 1)) last_7 (fun  w18 =>
                NC a0 fun p19 =>
                ∃ x20 : (Option Nat), w18.cell? (p19.add 10) = some (.map x20) ∧
                c_vmem_forget___1024_uint64_ x20 (u64 ((u64 (Int.tdiv a1 8192)) + 1)) last_7 (fun  w21 =>
                K 0 w21
                ) w18
                ) w15
                ) w14
                ) w10
              )
            )
            ) w6
          )
      )
    )

theorem tieZ25 (c_stretch_Set_Count : ∀ (a0 : (Option Addr)) (a1 : Int) (a2 : Int) (K : Int → World → Prop) (w : World), Prop) (c_vmem_Mem_part : ∀ (a0 : (Option Addr)) (a1 : Int) (a2 : Int) (a3 : Int) (K : World → Prop) (w : World), Prop) (c_vmem_forget_uint64_ : ∀ (a0 : (Option Nat)) (a1 : Int) (a2 : Int) (K : World → Prop) (w : World), Prop) (c_vmem_forget___1024_uint64_ : ∀ (a0 : (Option Nat)) (a1 : Int) (a2 : Int) (K : World → Prop) (w : World), Prop) (x : ArgsV [.one (.ptr), .one (.int .u64), .one (.int .u64)]) (K Kp : Value → World → Prop) (w : World) : T0.vmem_Mem_Zero env c_stretch_Set_Count c_vmem_Mem_part c_vmem_forget_uint64_ c_vmem_forget___1024_uint64_ x.1 x.2.1 x.2.2.1 (fun r1 w' => K (.int .i64 r1) w') w =
    ev Go.Proofs.Try.prog (tabC [(34, fun args w K Kp => unArgs [.one (.ptr), .one (.int .u64), .one (.int .u64)] args.toList fun x => c_stretch_Set_Count x.1 x.2.1 x.2.2.1 (fun r1 w' => K (.int .u64 r1) w') w), (52, fun args w K Kp => unArgs [.one (.ptr), .one (.int .u64), .one (.int .u64), .one (.int .u64)] args.toList fun x => c_vmem_Mem_part x.1 x.2.1 x.2.2.1 x.2.2.2.1 (fun  w' => K (.tuple ⟨[]⟩) w') w), (39, fun args w K Kp => unArgs [.one (.map), .one (.int .u64), .one (.int .u64)] args.toList fun x => c_vmem_forget_uint64_ x.1 x.2.1 x.2.2.1 (fun  w' => K (.tuple ⟨[]⟩) w') w), (40, fun args w K Kp => unArgs [.one (.map), .one (.int .u64), .one (.int .u64)] args.toList fun x => c_vmem_forget___1024_uint64_ x.1 x.2.1 x.2.2.1 (fun  w' => K (.tuple ⟨[]⟩) w') w)]) (ground Go.Proofs.Try.prog) ann25 body25 (finQ Go.Proofs.Try.prog Go.Proofs.Try.f25 K Kp) (initF (mkArgs [.one (.ptr), .one (.int .u64), .one (.int .u64)] x)) w := by kernel_rfl
theorem tie25 (x : ArgsV [.one (.ptr), .one (.int .u64), .one (.int .u64)]) (K Kp : Value → World → Prop) (w : World) : F.vmem_Mem_Zero env x.1 x.2.1 x.2.2.1 (fun r1 w' => K (.int .i64 r1) w') w =
    ev Go.Proofs.Try.prog (tabC [(34, C34), (52, C52), (39, C39), (40, C40)]) (ground Go.Proofs.Try.prog) ann25 body25 (finQ Go.Proofs.Try.prog Go.Proofs.Try.f25 K Kp) (initF (mkArgs [.one (.ptr), .one (.int .u64), .one (.int .u64)] x)) w := tieZ25 (F.stretch_Set_Count env) (F.vmem_Mem_part env) (F.vmem_forget_uint64_ env) (F.vmem_forget___1024_uint64_ env) x K Kp w
theorem fits25 : FitsOne Go.Proofs.Try.prog 25 C25 :=
  fits_of_tie (T := [(34, C34), (52, C52), (39, C39), (40, C40)]) (A := ann25) (fn := Go.Proofs.Try.f25) (c := body25) (fits_cons fits34 (fits_cons fits52 (fits_cons fits39 (fits_cons fits40 fits_nil)))) mixed Go.Proofs.Try.func25 Go.Proofs.Try.call25 (by kernel_rfl) (by kernel_rfl) (by kernel_rfl) tie25

/- F.mallowref3_Mem_Zero -/
noncomputable def C49 : Entry := fun args w K Kp => unArgs [.one (.ptr), .one (.int .u64), .one (.int .u64)] args.toList fun x => F.mallowref3_Mem_Zero env x.1 x.2.1 x.2.2.1 (fun r1 w' => K (.int .i64 r1) w') w
noncomputable def body49 : Code := (Go.Proofs.Try.f49.body).getD .skip
def ann49 : Ann := { loops := [(12, [(11, .one (.int .u64))]), (19, [(13, .one (.int .u64))]), (24, [(15, .one (.int .u64))])], joins := [(2, [(23, .one (.bool))]), (6, [(33, .one (.bool))]), (16, [(86, .one (.bool))]), (27, [(131, .one (.bool))])] }
def T0.mallowref3_Mem_Zero (E : Env) (c_mallowref3_Mem_find : ∀ (a0 : (Option Addr)) (a1 : Int) (K : Int → Bool → World → Prop) (w : World), Prop) (c_mallowref3_Mem_forget : ∀ (a0 : (Option Addr)) (a1 : Int) (a2 : Int) (K : World → Prop) (w : World), Prop) (c_mallowref3_Mem_Store : ∀ (a0 : (Option Addr)) (a1 : Int) (a2 : Int) (K : Int → World → Prop) (w : World), Prop) (a0 : (Option Addr)) (a1 : Int) (a2 : Int) (K : Int → World → Prop) (w : World) : Prop :=
  JOIN (Bool × Unit) (fun J1 =>
    8 ≠ (0 : Int) ∧
    CND (((Int.tmod a1 8) : Int) != 0) (
      J1 (true, ()) w
    ) (
      8 ≠ (0 : Int) ∧
      J1 (((Int.tmod a2 8) : Int) != 0, ()) w
    )
  ) fun s2 _ w3 =>
    CND (s2.1) (
      K 11 w3
    ) (
      CND ((a2 : Int) == 0) (
        K 0 w3
      ) (
        JOIN (Bool × Unit) (fun J4 =>
          CND (decide ((a1 : Int) ≥ 281474976710656)) (
            J4 (true, ()) w3
          ) (
            J4 (decide ((a2 : Int) > (u64 (281474976710656 - a1))), ()) w3
          )
        ) fun s5 _ w6 =>
          CND (s5.1) (
            K 12 w6
          ) (
            8192 ≠ (0 : Int) ∧
            8192 ≠ (0 : Int) ∧
            LET (u64 (Int.tdiv (u64 ((u64 (a1 + a2)) - 1)) 8192) : Int) fun to_7 =>
            c_mallowref3_Mem_find a0 (u64 (Int.tdiv a1 8192)) (fun r8 r9 w10 =>
            NC a0 fun p11 =>
            ∃ x12 : SlV, w10.cell? (p11.add 3) = some (.slice x12.base x12.len x12.cap) ∧
            CND (decide (((u64 (to_7 - (u64 (Int.tdiv a1 8192)))) : Int) ≥ (u64 (i64 (((x12.len : Nat) : Int) - r8))))) (
              K 12 w10
            ) (
              LOOP (Int × Unit) (0, ()) w10 fun s13 _ w14 next15 =>
                CND (decide ((s13.1 : Int) ≤ (u64 (to_7 - (u64 (Int.tdiv a1 8192)))))) (
                  NC a0 fun p16 =>
                  ∃ x17 : SlV, w14.cell? (p16.add 3) = some (.slice x17.base x17.len x17.cap) ∧
                  NC x17.base fun p18 =>
                  ((0 : Int) ≤ (i64 (r8 + (i64 (s13.1)))) ∧ ((i64 (r8 + (i64 (s13.1)))) : Int) < (x17.len : Nat)) ∧
                  ∃ c19 : Int, w14.cell? ((p18.add (Int.toNat (i64 (r8 + (i64 (s13.1)))) * 3)).add 0) = some (.int .u64 c19) ∧
                  ∃ c20 : Int, w14.cell? ((p18.add (Int.toNat (i64 (r8 + (i64 (s13.1)))) * 3)).add 1) = some (.int .i64 c20) ∧
                  ∃ c21 : Int, w14.cell? ((p18.add (Int.toNat (i64 (r8 + (i64 (s13.1)))) * 3)).add 2) = some (.int .u64 c21) ∧
                  AL (.cells #[.int .u64 0, .int .i64 0, .int .u64 0] E.t_mallowref3_Page) w14 fun b22 w23 =>
                  stCells (Addr.mk b22 0 none) 0 [.int .u64 c19, .int .i64 c20, .int .u64 c21] w23 fun w24 =>
                  JOIN (Bool × Unit) (fun J25 =>
                    ∃ x28 : Int, w24.cell? (Addr.mk b22 0 none) = some (.int .u64 x28) ∧
                    CND ((x28 : Int) != (u64 ((u64 (Int.tdiv a1 8192)) + s13.1))) (
                      J25 (true, ()) w24
                    ) (
                      ∃ x29 : Int, w24.cell? ((Addr.mk b22 0 none).add 1) = some (.int .i64 x29) ∧
                      J25 ((x29 : Int) != 2, ()) w24
                    )
                  ) fun s26 _ w27 =>
                    CND (s26.1) (
                      K 12 w27
                    ) (
                      next15 (u64 (s13.1 + 1), ()) w27
                    )
                ) (
                  c_mallowref3_Mem_forget a0 a1 a2 (fun  w30 =>
                  LOOP (Int × Unit) (0, ()) w30 fun s31 _ w32 next33 =>
                    CND (decide ((s31.1 : Int) ≤ (u64 (to_7 - (u64 (Int.tdiv a1 8192)))))) (
                      NC a0 fun p34 =>
                      ∃ x35 : SlV, w32.cell? (p34.add 3) = some (.slice x35.base x35.len x35.cap) ∧
                      NC x35.base fun p36 =>
                      ((0 : Int) ≤ (i64 (r8 + (i64 (s31.1)))) ∧ ((i64 (r8 + (i64 (s31.1)))) : Int) < (x35.len : Nat)) ∧
                      ∃ c37 : Int, w32.cell? ((p36.add (Int.toNat (i64 (r8 + (i64 (s31.1)))) * 3)).add 0) = some (.int .u64 c37) ∧
                      ∃ c38 : Int, w32.cell? ((p36.add (Int.toNat (i64 (r8 + (i64 (s31.1)))) * 3)).add 1) = some (.int .i64 c38) ∧
                      ∃ c39 : Int, w32.cell? ((p36.add (Int.toNat (i64 (r8 + (i64 (s31.1)))) * 3)).add 2) = some (.int .u64 c39) ∧
                      AL (.cells #[.int .u64 0, .int .i64 0, .int .u64 0] E.t_mallowref3_Page) w32 fun b40 w41 =>
                      stCells (Addr.mk b40 0 none) 0 [.int .u64 c37, .int .i64 c38, .int .u64 c39] w41 fun w42 =>
                      ∃ x43 : Int, w42.cell? ((Addr.mk b40 0 none).add 2) = some (.int .u64 x43) ∧
                      CND ((x43 : Int) == 0) (
                        next33 (u64 (s31.1 + 1), ()) w42
                      ) (
                        ∃ x44 : Int, w42.cell? (Addr.mk b40 0 none) = some (.int .u64 x44) ∧
                        LOOP (Int × Unit) (u64 (x44 * 8192), ()) w42 fun s45 _ w46 next47 =>
                          ∃ x48 : Int, w46.cell? (Addr.mk b40 0 none) = some (.int .u64 x48) ∧
                          CND (decide ((s45.1 : Int) < (u64 ((u64 (x48 * 8192)) + 8192)))) (
                            JOIN (Bool × Unit) (fun J49 =>
                              CND (decide ((s45.1 : Int) ≥ a1)) (
                                J49 (decide ((s45.1 : Int) < (u64 (a1 + a2))), ()) w46
                              ) (
                                J49 (false, ()) w46
                              )
                            ) fun s50 _ w51 =>
                              CND (s50.1) (
                                c_mallowref3_Mem_Store a0 s45.1 0 (fun r52 w53 =>
                                next47 (u64 (s45.1 + 8), ()) w53
                                ) w51
                              ) (
                                next47 (u64 (s45.1 + 8), ()) w51
                              )
                          ) (
                            next33 (u64 (s31.1 + 1), ()) w46
                          )
                      )
                    ) (
                      K 0 w32
                    )
                  ) w14
                )
            )
            ) w6
          )
      )
    )

theorem tieZ49 (c_mallowref3_Mem_find : ∀ (a0 : (Option Addr)) (a1 : Int) (K : Int → Bool → World → Prop) (w : World), Prop) (c_mallowref3_Mem_forget : ∀ (a0 : (Option Addr)) (a1 : Int) (a2 : Int) (K : World → Prop) (w : World), Prop) (c_mallowref3_Mem_Store : ∀ (a0 : (Option Addr)) (a1 : Int) (a2 : Int) (K : Int → World → Prop) (w : World), Prop) (x : ArgsV [.one (.ptr), .one (.int .u64), .one (.int .u64)]) (K Kp : Value → World → Prop) (w : World) : T0.mallowref3_Mem_Zero env c_mallowref3_Mem_find c_mallowref3_Mem_forget c_mallowref3_Mem_Store x.1 x.2.1 x.2.2.1 (fun r1 w' => K (.int .i64 r1) w') w =
    ev Go.Proofs.Try.prog (tabC [(59, fun args w K Kp => unArgs [.one (.ptr), .one (.int .u64)] args.toList fun x => c_mallowref3_Mem_find x.1 x.2.1 (fun r1 r2 w' => K (.tuple ⟨[.int .i64 r1, .bool r2]⟩) w') w), (60, fun args w K Kp => unArgs [.one (.ptr), .one (.int .u64), .one (.int .u64)] args.toList fun x => c_mallowref3_Mem_forget x.1 x.2.1 x.2.2.1 (fun  w' => K (.tuple ⟨[]⟩) w') w), (48, fun args w K Kp => unArgs [.one (.ptr), .one (.int .u64), .one (.int .u64)] args.toList fun x => c_mallowref3_Mem_Store x.1 x.2.1 x.2.2.1 (fun r1 w' => K (.int .i64 r1) w') w)]) (ground Go.Proofs.Try.prog) ann49 body49 (finQ Go.Proofs.Try.prog Go.Proofs.Try.f49 K Kp) (initF (mkArgs [.one (.ptr), .one (.int .u64), .one (.int .u64)] x)) w := by kernel_rfl
theorem tie49 (x : ArgsV [.one (.ptr), .one (.int .u64), .one (.int .u64)]) (K Kp : Value → World → Prop) (w : World) : F.mallowref3_Mem_Zero env x.1 x.2.1 x.2.2.1 (fun r1 w' => K (.int .i64 r1) w') w =
    ev Go.Proofs.Try.prog (tabC [(59, C59), (60, C60), (48, C48)]) (ground Go.Proofs.Try.prog) ann49 body49 (finQ Go.Proofs.Try.prog Go.Proofs.Try.f49 K Kp) (initF (mkArgs [.one (.ptr), .one (.int .u64), .one (.int .u64)] x)) w := tieZ49 (F.mallowref3_Mem_find env) (F.mallowref3_Mem_forget env) (F.mallowref3_Mem_Store env) x K Kp w
theorem fits49 : FitsOne Go.Proofs.Try.prog 49 C49 :=
  fits_of_tie (T := [(59, C59), (60, C60), (48, C48)]) (A := ann49) (fn := Go.Proofs.Try.f49) (c := body49) (fits_cons fits59 (fits_cons fits60 (fits_cons fits48 fits_nil))) mixed Go.Proofs.Try.func49 Go.Proofs.Try.call49 (by kernel_rfl) (by kernel_rfl) (by kernel_rfl) tie49

/- F.mallowref3_Mem_Count -/
noncomputable def C50 : Entry := fun args w K Kp => unArgs [.one (.ptr), .one (.int .i64)] args.toList fun x => F.mallowref3_Mem_Count env x.1 x.2.1 (fun r1 w' => K (.int .u64 r1) w') w
noncomputable def body50 : Code := (Go.Proofs.Try.f50.body).getD .skip
def ann50 : Ann := { loops := [(3, [(5, .one (.int .u64)), (6, .one (.int .i64))])], joins := [(6, [(29, .one (.bool))])] }
theorem tie50 (x : ArgsV [.one (.ptr), .one (.int .i64)]) (K Kp : Value → World → Prop) (w : World) : F.mallowref3_Mem_Count env x.1 x.2.1 (fun r1 w' => K (.int .u64 r1) w') w =
    ev Go.Proofs.Try.prog (tabC []) (ground Go.Proofs.Try.prog) ann50 body50 (finQ Go.Proofs.Try.prog Go.Proofs.Try.f50 K Kp) (initF (mkArgs [.one (.ptr), .one (.int .i64)] x)) w := by kernel_rfl
theorem fits50 : FitsOne Go.Proofs.Try.prog 50 C50 :=
  fits_of_tie (T := []) (A := ann50) (fn := Go.Proofs.Try.f50) (c := body50) fits_nil mixed Go.Proofs.Try.func50 Go.Proofs.Try.call50 (by kernel_rfl) (by kernel_rfl) (by kernel_rfl) tie50

/- F.mallowref3_Mem_State -/
noncomputable def C51 : Entry := fun args w K Kp => unArgs [.one (.ptr), .one (.int .u64)] args.toList fun x => F.mallowref3_Mem_State env x.1 x.2.1 (fun r1 w' => K (.int .i64 r1) w') w
noncomputable def body51 : Code := (Go.Proofs.Try.f51.body).getD .skip
def ann51 : Ann := { loops := [], joins := [] }
def T0.mallowref3_Mem_State (E : Env) (c_mallowref3_Mem_find : ∀ (a0 : (Option Addr)) (a1 : Int) (K : Int → Bool → World → Prop) (w : World), Prop) (a0 : (Option Addr)) (a1 : Int) (K : Int → World → Prop) (w : World) : Prop :=
  c_mallowref3_Mem_find a0 a1 (fun r1 r2 w3 =>
  CND (!r2) (
    K 0 w3
  ) (
    NC a0 fun p4 =>
    ∃ x5 : SlV, w3.cell? (p4.add 3) = some (.slice x5.base x5.len x5.cap) ∧
    NC x5.base fun p6 =>
    ((0 : Int) ≤ r1 ∧ (r1 : Int) < (x5.len : Nat)) ∧
    ∃ x7 : Int, w3.cell? ((p6.add (Int.toNat r1 * 3)).add 1) = some (.int .i64 x7) ∧
    K x7 w3
  )
  ) w

theorem tieZ51 (c_mallowref3_Mem_find : ∀ (a0 : (Option Addr)) (a1 : Int) (K : Int → Bool → World → Prop) (w : World), Prop) (x : ArgsV [.one (.ptr), .one (.int .u64)]) (K Kp : Value → World → Prop) (w : World) : T0.mallowref3_Mem_State env c_mallowref3_Mem_find x.1 x.2.1 (fun r1 w' => K (.int .i64 r1) w') w =
    ev Go.Proofs.Try.prog (tabC [(59, fun args w K Kp => unArgs [.one (.ptr), .one (.int .u64)] args.toList fun x => c_mallowref3_Mem_find x.1 x.2.1 (fun r1 r2 w' => K (.tuple ⟨[.int .i64 r1, .bool r2]⟩) w') w)]) (ground Go.Proofs.Try.prog) ann51 body51 (finQ Go.Proofs.Try.prog Go.Proofs.Try.f51 K Kp) (initF (mkArgs [.one (.ptr), .one (.int .u64)] x)) w := by kernel_rfl
theorem tie51 (x : ArgsV [.one (.ptr), .one (.int .u64)]) (K Kp : Value → World → Prop) (w : World) : F.mallowref3_Mem_State env x.1 x.2.1 (fun r1 w' => K (.int .i64 r1) w') w =
    ev Go.Proofs.Try.prog (tabC [(59, C59)]) (ground Go.Proofs.Try.prog) ann51 body51 (finQ Go.Proofs.Try.prog Go.Proofs.Try.f51 K Kp) (initF (mkArgs [.one (.ptr), .one (.int .u64)] x)) w := tieZ51 (F.mallowref3_Mem_find env) x K Kp w
theorem fits51 : FitsOne Go.Proofs.Try.prog 51 C51 :=
  fits_of_tie (T := [(59, C59)]) (A := ann51) (fn := Go.Proofs.Try.f51) (c := body51) (fits_cons fits59 fits_nil) mixed Go.Proofs.Try.func51 Go.Proofs.Try.call51 (by kernel_rfl) (by kernel_rfl) (by kernel_rfl) tie51

/- F.mallowlaw3_act -/
noncomputable def C23 : Entry := fun args w K Kp => unArgs [.one (.ptr), .one (.ptr), .agg [.int .i64, .int .u64, .int .u64, .int .u64]] args.toList fun x => F.mallowlaw3_act env x.1 x.2.1 x.2.2.1.1 x.2.2.1.2.1 x.2.2.1.2.2.1 x.2.2.1.2.2.2.1 (fun r1 w' => K (.bool r1) w') w
noncomputable def body23 : Code := (Go.Proofs.Try.f23.body).getD .skip
def ann23 : Ann := { loops := [(20, [(15, .one (.int .i64))])], joins := [] }
def T0.mallowlaw3_act (E : Env) (c_vmem_Mem_Reserve : ∀ (a0 : (Option Addr)) (a1 : Int) (a2 : Int) (K : Int → Int → World → Prop) (w : World), Prop) (c_mallowref3_Mem_Reserve : ∀ (a0 : (Option Addr)) (a1 : Int) (a2 : Int) (K : Int → Int → World → Prop) (w : World), Prop) (c_vmem_Mem_Commit : ∀ (a0 : (Option Addr)) (a1 : Int) (a2 : Int) (K : Int → World → Prop) (w : World), Prop) (c_mallowref3_Mem_Commit : ∀ (a0 : (Option Addr)) (a1 : Int) (a2 : Int) (K : Int → World → Prop) (w : World), Prop) (c_vmem_Mem_Release : ∀ (a0 : (Option Addr)) (a1 : Int) (a2 : Int) (K : Int → World → Prop) (w : World), Prop) (c_mallowref3_Mem_Release : ∀ (a0 : (Option Addr)) (a1 : Int) (a2 : Int) (K : Int → World → Prop) (w : World), Prop) (c_vmem_Mem_Load : ∀ (a0 : (Option Addr)) (a1 : Int) (K : Int → Int → World → Prop) (w : World), Prop) (c_mallowref3_Mem_Load : ∀ (a0 : (Option Addr)) (a1 : Int) (K : Int → Int → World → Prop) (w : World), Prop) (c_vmem_Mem_Store : ∀ (a0 : (Option Addr)) (a1 : Int) (a2 : Int) (K : Int → World → Prop) (w : World), Prop) (c_mallowref3_Mem_Store : ∀ (a0 : (Option Addr)) (a1 : Int) (a2 : Int) (K : Int → World → Prop) (w : World), Prop) (c_vmem_Mem_Zero : ∀ (a0 : (Option Addr)) (a1 : Int) (a2 : Int) (K : Int → World → Prop) (w : World), Prop) (c_mallowref3_Mem_Zero : ∀ (a0 : (Option Addr)) (a1 : Int) (a2 : Int) (K : Int → World → Prop) (w : World), Prop) (c_vmem_Mem_Count : ∀ (a0 : (Option Addr)) (a1 : Int) (K : Int → World → Prop) (w : World), Prop) (c_mallowref3_Mem_Count : ∀ (a0 : (Option Addr)) (a1 : Int) (K : Int → World → Prop) (w : World), Prop) (c_vmem_Mem_State : ∀ (a0 : (Option Addr)) (a1 : Int) (K : Int → World → Prop) (w : World), Prop) (c_mallowref3_Mem_State : ∀ (a0 : (Option Addr)) (a1 : Int) (K : Int → World → Prop) (w : World), Prop) (a0 : (Option Addr)) (a1 : (Option Addr)) (a2_0 : Int) (a2_1 : Int) (a2_2 : Int) (a2_3 : Int) (K : Bool → World → Prop) (w : World) : Prop :=
  AL (.cells #[.int .i64 a2_0, .int .u64 a2_1, .int .u64 a2_2, .int .u64 a2_3] E.t_mallowlaw3_Act) w fun b1 w2 =>
  ∃ x3 : Int, w2.cell? (Addr.mk b1 0 none) = some (.int .i64 x3) ∧
  CND ((x3 : Int) == 1) (
    ∃ x4 : Int, w2.cell? ((Addr.mk b1 0 none).add 1) = some (.int .u64 x4) ∧
    ∃ x5 : Int, w2.cell? ((Addr.mk b1 0 none).add 2) = some (.int .u64 x5) ∧
    c_vmem_Mem_Reserve a0 x4 x5 (fun r6 r7 w8 =>
    ∃ x9 : Int, w8.cell? ((Addr.mk b1 0 none).add 1) = some (.int .u64 x9) ∧
    ∃ x10 : Int, w8.cell? ((Addr.mk b1 0 none).add 2) = some (.int .u64 x10) ∧
    c_mallowref3_Mem_Reserve a1 x9 x10 (fun r11 r12 w13 =>
    CND ((r6 : Int) == r11) (
      K ((r7 : Int) == r12) w13
    ) (
      K false w13
    )
    ) w8
    ) w2
  ) (
    CND ((x3 : Int) == 2) (
      ∃ x14 : Int, w2.drew.cell? ((Addr.mk b1 0 none).add 1) = some (.int .u64 x14) ∧
      ∃ x15 : Int, w2.drew.cell? ((Addr.mk b1 0 none).add 2) = some (.int .u64 x15) ∧
      ∃ x16 : Int, w2.drew.cell? ((Addr.mk b1 0 none).add 1) = some (.int .u64 x16) ∧
      ∃ x17 : Int, w2.drew.cell? ((Addr.mk b1 0 none).add 2) = some (.int .u64 x17) ∧
      c_vmem_Mem_Commit a0 x14 x15 (fun r18 w19 =>
      w19.cell? ((Addr.mk b1 0 none).add 2) = some (.int .u64 x17) ∧
      w19.cell? ((Addr.mk b1 0 none).add 1) = some (.int .u64 x16) ∧
      c_mallowref3_Mem_Commit a1 x16 x17 (fun r20 w21 =>
      K ((r18 : Int) == r20) w21
      ) w19
      ) w2.drew
    ) (
      CND ((x3 : Int) == 3) (
        ∃ x22 : Int, w2.drew.cell? ((Addr.mk b1 0 none).add 1) = some (.int .u64 x22) ∧
        ∃ x23 : Int, w2.drew.cell? ((Addr.mk b1 0 none).add 2) = some (.int .u64 x23) ∧
        ∃ x24 : Int, w2.drew.cell? ((Addr.mk b1 0 none).add 1) = some (.int .u64 x24) ∧
        ∃ x25 : Int, w2.drew.cell? ((Addr.mk b1 0 none).add 2) = some (.int .u64 x25) ∧
        c_vmem_Mem_Release a0 x22 x23 (fun r26 w27 =>
        w27.cell? ((Addr.mk b1 0 none).add 2) = some (.int .u64 x25) ∧
        w27.cell? ((Addr.mk b1 0 none).add 1) = some (.int .u64 x24) ∧
        c_mallowref3_Mem_Release a1 x24 x25 (fun r28 w29 =>
        K ((r26 : Int) == r28) w29
        ) w27
        ) w2.drew
      ) (
        CND ((x3 : Int) == 4) (
          ∃ x30 : Int, w2.cell? ((Addr.mk b1 0 none).add 3) = some (.int .u64 x30) ∧
          c_vmem_Mem_Load a0 x30 (fun r31 r32 w33 =>
          ∃ x34 : Int, w33.cell? ((Addr.mk b1 0 none).add 3) = some (.int .u64 x34) ∧
          c_mallowref3_Mem_Load a1 x34 (fun r35 r36 w37 =>
          CND ((r31 : Int) == r35) (
            K ((r32 : Int) == r36) w37
          ) (
            K false w37
          )
          ) w33
          ) w2
        ) (
          CND ((x3 : Int) == 5) (
            ∃ x38 : Int, w2.drew.cell? ((Addr.mk b1 0 none).add 3) = some (.int .u64 x38) ∧
            ∃ x39 : Int, w2.drew.cell? ((Addr.mk b1 0 none).add 2) = some (.int .u64 x39) ∧
            ∃ x40 : Int, w2.drew.cell? ((Addr.mk b1 0 none).add 3) = some (.int .u64 x40) ∧
            ∃ x41 : Int, w2.drew.cell? ((Addr.mk b1 0 none).add 2) = some (.int .u64 x41) ∧
            c_vmem_Mem_Store a0 x38 x39 (fun r42 w43 =>
            w43.cell? ((Addr.mk b1 0 none).add 2) = some (.int .u64 x41) ∧
            w43.cell? ((Addr.mk b1 0 none).add 3) = some (.int .u64 x40) ∧
            c_mallowref3_Mem_Store a1 x40 x41 (fun r44 w45 =>
            K ((r42 : Int) == r44) w45
            ) w43
            ) w2.drew
          ) (
            CND ((x3 : Int) == 6) (
              ∃ x46 : Int, w2.drew.cell? ((Addr.mk b1 0 none).add 3) = some (.int .u64 x46) ∧
              ∃ x47 : Int, w2.drew.cell? ((Addr.mk b1 0 none).add 2) = some (.int .u64 x47) ∧
              ∃ x48 : Int, w2.drew.cell? ((Addr.mk b1 0 none).add 3) = some (.int .u64 x48) ∧
              ∃ x49 : Int, w2.drew.cell? ((Addr.mk b1 0 none).add 2) = some (.int .u64 x49) ∧
              c_vmem_Mem_Zero a0 x46 x47 (fun r50 w51 =>
              w51.cell? ((Addr.mk b1 0 none).add 2) = some (.int .u64 x49) ∧
              w51.cell? ((Addr.mk b1 0 none).add 3) = some (.int .u64 x48) ∧
              c_mallowref3_Mem_Zero a1 x48 x49 (fun r52 w53 =>
              K ((r50 : Int) == r52) w53
              ) w51
              ) w2.drew
            ) (
              CND ((x3 : Int) == 7) (
                LOOP (Int × Unit) ((-1), ()) w2 fun s54 _ w55 next56 =>
                  CND (decide ((s54.1 : Int) < 6)) (
                    c_vmem_Mem_Count a0 s54.1 (fun r57 w58 =>
                    c_mallowref3_Mem_Count a1 s54.1 (fun r59 w60 =>
                    CND ((r57 : Int) != r59) (
                      K false w60
                    ) (
                      next56 (i64 (s54.1 + 1), ()) w60
                    )
                    ) w58
                    ) w55
                  ) (
                    ∃ x61 : Int, w55.drew.cell? ((Addr.mk b1 0 none).add 1) = some (.int .u64 x61) ∧
                    ∃ x62 : Int, w55.drew.cell? ((Addr.mk b1 0 none).add 1) = some (.int .u64 x62) ∧
                    c_vmem_Mem_State a0 x61 (fun r63 w64 =>
                    w64.cell? ((Addr.mk b1 0 none).add 1) = some (.int .u64 x62) ∧
                    c_mallowref3_Mem_State a1 x62 (fun r65 w66 =>
                    K ((r63 : Int) == r65) w66
                    ) w64
                    ) w55.drew
                  )
              ) (
                K true w2
              )
            )
          )
        )
      )
    )
  )

theorem tieZ23 (c_vmem_Mem_Reserve : ∀ (a0 : (Option Addr)) (a1 : Int) (a2 : Int) (K : Int → Int → World → Prop) (w : World), Prop) (c_mallowref3_Mem_Reserve : ∀ (a0 : (Option Addr)) (a1 : Int) (a2 : Int) (K : Int → Int → World → Prop) (w : World), Prop) (c_vmem_Mem_Commit : ∀ (a0 : (Option Addr)) (a1 : Int) (a2 : Int) (K : Int → World → Prop) (w : World), Prop) (c_mallowref3_Mem_Commit : ∀ (a0 : (Option Addr)) (a1 : Int) (a2 : Int) (K : Int → World → Prop) (w : World), Prop) (c_vmem_Mem_Release : ∀ (a0 : (Option Addr)) (a1 : Int) (a2 : Int) (K : Int → World → Prop) (w : World), Prop) (c_mallowref3_Mem_Release : ∀ (a0 : (Option Addr)) (a1 : Int) (a2 : Int) (K : Int → World → Prop) (w : World), Prop) (c_vmem_Mem_Load : ∀ (a0 : (Option Addr)) (a1 : Int) (K : Int → Int → World → Prop) (w : World), Prop) (c_mallowref3_Mem_Load : ∀ (a0 : (Option Addr)) (a1 : Int) (K : Int → Int → World → Prop) (w : World), Prop) (c_vmem_Mem_Store : ∀ (a0 : (Option Addr)) (a1 : Int) (a2 : Int) (K : Int → World → Prop) (w : World), Prop) (c_mallowref3_Mem_Store : ∀ (a0 : (Option Addr)) (a1 : Int) (a2 : Int) (K : Int → World → Prop) (w : World), Prop) (c_vmem_Mem_Zero : ∀ (a0 : (Option Addr)) (a1 : Int) (a2 : Int) (K : Int → World → Prop) (w : World), Prop) (c_mallowref3_Mem_Zero : ∀ (a0 : (Option Addr)) (a1 : Int) (a2 : Int) (K : Int → World → Prop) (w : World), Prop) (c_vmem_Mem_Count : ∀ (a0 : (Option Addr)) (a1 : Int) (K : Int → World → Prop) (w : World), Prop) (c_mallowref3_Mem_Count : ∀ (a0 : (Option Addr)) (a1 : Int) (K : Int → World → Prop) (w : World), Prop) (c_vmem_Mem_State : ∀ (a0 : (Option Addr)) (a1 : Int) (K : Int → World → Prop) (w : World), Prop) (c_mallowref3_Mem_State : ∀ (a0 : (Option Addr)) (a1 : Int) (K : Int → World → Prop) (w : World), Prop) (x : ArgsV [.one (.ptr), .one (.ptr), .agg [.int .i64, .int .u64, .int .u64, .int .u64]]) (K Kp : Value → World → Prop) (w : World) : T0.mallowlaw3_act env c_vmem_Mem_Reserve c_mallowref3_Mem_Reserve c_vmem_Mem_Commit c_mallowref3_Mem_Commit c_vmem_Mem_Release c_mallowref3_Mem_Release c_vmem_Mem_Load c_mallowref3_Mem_Load c_vmem_Mem_Store c_mallowref3_Mem_Store c_vmem_Mem_Zero c_mallowref3_Mem_Zero c_vmem_Mem_Count c_mallowref3_Mem_Count c_vmem_Mem_State c_mallowref3_Mem_State x.1 x.2.1 x.2.2.1.1 x.2.2.1.2.1 x.2.2.1.2.2.1 x.2.2.1.2.2.2.1 (fun r1 w' => K (.bool r1) w') w =
    ev Go.Proofs.Try.prog (tabC [(12, fun args w K Kp => unArgs [.one (.ptr), .one (.int .u64), .one (.int .u64)] args.toList fun x => c_vmem_Mem_Reserve x.1 x.2.1 x.2.2.1 (fun r1 r2 w' => K (.tuple ⟨[.int .u64 r1, .int .i64 r2]⟩) w') w), (44, fun args w K Kp => unArgs [.one (.ptr), .one (.int .u64), .one (.int .u64)] args.toList fun x => c_mallowref3_Mem_Reserve x.1 x.2.1 x.2.2.1 (fun r1 r2 w' => K (.tuple ⟨[.int .u64 r1, .int .i64 r2]⟩) w') w), (13, fun args w K Kp => unArgs [.one (.ptr), .one (.int .u64), .one (.int .u64)] args.toList fun x => c_vmem_Mem_Commit x.1 x.2.1 x.2.2.1 (fun r1 w' => K (.int .i64 r1) w') w), (45, fun args w K Kp => unArgs [.one (.ptr), .one (.int .u64), .one (.int .u64)] args.toList fun x => c_mallowref3_Mem_Commit x.1 x.2.1 x.2.2.1 (fun r1 w' => K (.int .i64 r1) w') w), (15, fun args w K Kp => unArgs [.one (.ptr), .one (.int .u64), .one (.int .u64)] args.toList fun x => c_vmem_Mem_Release x.1 x.2.1 x.2.2.1 (fun r1 w' => K (.int .i64 r1) w') w), (46, fun args w K Kp => unArgs [.one (.ptr), .one (.int .u64), .one (.int .u64)] args.toList fun x => c_mallowref3_Mem_Release x.1 x.2.1 x.2.2.1 (fun r1 w' => K (.int .i64 r1) w') w), (14, fun args w K Kp => unArgs [.one (.ptr), .one (.int .u64)] args.toList fun x => c_vmem_Mem_Load x.1 x.2.1 (fun r1 r2 w' => K (.tuple ⟨[.int .u64 r1, .int .i64 r2]⟩) w') w), (47, fun args w K Kp => unArgs [.one (.ptr), .one (.int .u64)] args.toList fun x => c_mallowref3_Mem_Load x.1 x.2.1 (fun r1 r2 w' => K (.tuple ⟨[.int .u64 r1, .int .i64 r2]⟩) w') w), (18, fun args w K Kp => unArgs [.one (.ptr), .one (.int .u64), .one (.int .u64)] args.toList fun x => c_vmem_Mem_Store x.1 x.2.1 x.2.2.1 (fun r1 w' => K (.int .i64 r1) w') w), (48, fun args w K Kp => unArgs [.one (.ptr), .one (.int .u64), .one (.int .u64)] args.toList fun x => c_mallowref3_Mem_Store x.1 x.2.1 x.2.2.1 (fun r1 w' => K (.int .i64 r1) w') w), (25, fun args w K Kp => unArgs [.one (.ptr), .one (.int .u64), .one (.int .u64)] args.toList fun x => c_vmem_Mem_Zero x.1 x.2.1 x.2.2.1 (fun r1 w' => K (.int .i64 r1) w') w), (49, fun args w K Kp => unArgs [.one (.ptr), .one (.int .u64), .one (.int .u64)] args.toList fun x => c_mallowref3_Mem_Zero x.1 x.2.1 x.2.2.1 (fun r1 w' => K (.int .i64 r1) w') w), (16, fun args w K Kp => unArgs [.one (.ptr), .one (.int .i64)] args.toList fun x => c_vmem_Mem_Count x.1 x.2.1 (fun r1 w' => K (.int .u64 r1) w') w), (50, fun args w K Kp => unArgs [.one (.ptr), .one (.int .i64)] args.toList fun x => c_mallowref3_Mem_Count x.1 x.2.1 (fun r1 w' => K (.int .u64 r1) w') w), (19, fun args w K Kp => unArgs [.one (.ptr), .one (.int .u64)] args.toList fun x => c_vmem_Mem_State x.1 x.2.1 (fun r1 w' => K (.int .i64 r1) w') w), (51, fun args w K Kp => unArgs [.one (.ptr), .one (.int .u64)] args.toList fun x => c_mallowref3_Mem_State x.1 x.2.1 (fun r1 w' => K (.int .i64 r1) w') w)]) (ground Go.Proofs.Try.prog) ann23 body23 (finQ Go.Proofs.Try.prog Go.Proofs.Try.f23 K Kp) (initF (mkArgs [.one (.ptr), .one (.ptr), .agg [.int .i64, .int .u64, .int .u64, .int .u64]] x)) w := by kernel_rfl
theorem tie23 (x : ArgsV [.one (.ptr), .one (.ptr), .agg [.int .i64, .int .u64, .int .u64, .int .u64]]) (K Kp : Value → World → Prop) (w : World) : F.mallowlaw3_act env x.1 x.2.1 x.2.2.1.1 x.2.2.1.2.1 x.2.2.1.2.2.1 x.2.2.1.2.2.2.1 (fun r1 w' => K (.bool r1) w') w =
    ev Go.Proofs.Try.prog (tabC [(12, C12), (44, C44), (13, C13), (45, C45), (15, C15), (46, C46), (14, C14), (47, C47), (18, C18), (48, C48), (25, C25), (49, C49), (16, C16), (50, C50), (19, C19), (51, C51)]) (ground Go.Proofs.Try.prog) ann23 body23 (finQ Go.Proofs.Try.prog Go.Proofs.Try.f23 K Kp) (initF (mkArgs [.one (.ptr), .one (.ptr), .agg [.int .i64, .int .u64, .int .u64, .int .u64]] x)) w := tieZ23 (F.vmem_Mem_Reserve env) (F.mallowref3_Mem_Reserve env) (F.vmem_Mem_Commit env) (F.mallowref3_Mem_Commit env) (F.vmem_Mem_Release env) (F.mallowref3_Mem_Release env) (F.vmem_Mem_Load env) (F.mallowref3_Mem_Load env) (F.vmem_Mem_Store env) (F.mallowref3_Mem_Store env) (F.vmem_Mem_Zero env) (F.mallowref3_Mem_Zero env) (F.vmem_Mem_Count env) (F.mallowref3_Mem_Count env) (F.vmem_Mem_State env) (F.mallowref3_Mem_State env) x K Kp w
theorem fits23 : FitsOne Go.Proofs.Try.prog 23 C23 :=
  fits_of_tie (T := [(12, C12), (44, C44), (13, C13), (45, C45), (15, C15), (46, C46), (14, C14), (47, C47), (18, C18), (48, C48), (25, C25), (49, C49), (16, C16), (50, C50), (19, C19), (51, C51)]) (A := ann23) (fn := Go.Proofs.Try.f23) (c := body23) (fits_cons fits12 (fits_cons fits44 (fits_cons fits13 (fits_cons fits45 (fits_cons fits15 (fits_cons fits46 (fits_cons fits14 (fits_cons fits47 (fits_cons fits18 (fits_cons fits48 (fits_cons fits25 (fits_cons fits49 (fits_cons fits16 (fits_cons fits50 (fits_cons fits19 (fits_cons fits51 fits_nil)))))))))))))))) mixed Go.Proofs.Try.func23 Go.Proofs.Try.call23 (by kernel_rfl) (by kernel_rfl) (by kernel_rfl) tie23

/- F.mallowlaw3_same -/
noncomputable def C24 : Entry := fun args w K Kp => unArgs [.one (.ptr), .one (.ptr)] args.toList fun x => F.mallowlaw3_same env x.1 x.2.1 (fun r1 w' => K (.bool r1) w') w
noncomputable def body24 : Code := (Go.Proofs.Try.f24.body).getD .skip
def ann24 : Ann := { loops := [(2, [(5, .one (.int .i64))]), (12, [(11, .one (.int .i64))]), (18, [(14, .one (.int .i64))])], joins := [(10, [(70, .one (.bool))]), (16, [(106, .one (.bool))])] }
def T0.mallowlaw3_same (E : Env) (c_vmem_Mem_State : ∀ (a0 : (Option Addr)) (a1 : Int) (K : Int → World → Prop) (w : World), Prop) (c_vmem_Mem_Load : ∀ (a0 : (Option Addr)) (a1 : Int) (K : Int → Int → World → Prop) (w : World), Prop) (c_mallowref3_Mem_Load : ∀ (a0 : (Option Addr)) (a1 : Int) (K : Int → Int → World → Prop) (w : World), Prop) (c_vmem_Mem_Count : ∀ (a0 : (Option Addr)) (a1 : Int) (K : Int → World → Prop) (w : World), Prop) (c_mallowref3_Mem_Count : ∀ (a0 : (Option Addr)) (a1 : Int) (K : Int → World → Prop) (w : World), Prop) (a0 : (Option Addr)) (a1 : (Option Addr)) (K : Bool → World → Prop) (w : World) : Prop :=
  LOOP (Int × Unit) (0, ()) w fun s1 _ w2 next3 =>
    NC a1 fun p4 =>
    ∃ x5 : SlV, w2.cell? (p4.add 3) = some (.slice x5.base x5.len x5.cap) ∧
    CND (decide ((s1.1 : Int) < ((x5.len : Nat) : Int))) (
      NC a1 fun p6 =>
      ∃ x7 : SlV, w2.cell? (p6.add 3) = some (.slice x7.base x7.len x7.cap) ∧
      NC x7.base fun p8 =>
      ((0 : Int) ≤ s1.1 ∧ (s1.1 : Int) < (x7.len : Nat)) ∧
      ∃ x9 : Int, w2.cell? (p8.add (Int.toNat s1.1 * 3)) = some (.int .u64 x9) ∧
      NC a1 fun p10 =>
      ∃ x11 : SlV, w2.drew.cell? (p10.add 3) = some (.slice x11.base x11.len x11.cap) ∧
      NC x11.base fun p12 =>
      ((0 : Int) ≤ s1.1 ∧ (s1.1 : Int) < (x11.len : Nat)) ∧
      ∃ x13 : Int, w2.drew.cell? ((p12.add (Int.toNat s1.1 * 3)).add 1) = some (.int .i64 x13) ∧
      c_vmem_Mem_State a0 x9 (fun r14 w15 =>
      w15.cell? ((p12.add (Int.toNat s1.1 * 3)).add 1) = some (.int .i64 x13) ∧
      w15.cell? (p10.add 3) = some (.slice x11.base x11.len x11.cap) ∧
      CND ((r14 : Int) != x13) (
        K false w15
      ) (
        c_vmem_Mem_Load a0 (u64 ((u64 (x9 * 8192)) + 8)) (fun r16 r17 w18 =>
        c_mallowref3_Mem_Load a1 (u64 ((u64 (x9 * 8192)) + 8)) (fun r19 r20 w21 =>
        JOIN (Bool × Unit) (fun J22 =>
          CND ((r16 : Int) != r19) (
            J22 (true, ()) w21
          ) (
            J22 ((r17 : Int) != r20, ()) w21
          )
        ) fun s23 _ w24 =>
          CND (s23.1) (
            K false w24
          ) (
            40 ≠ (0 : Int) ∧
            LET (i64 (s1.1 + (i64 (1 + (i64 (Int.tdiv s1.1 40))))) : Int) fun i_25 =>
            next3 (i_25, ()) w24
          )
        ) w18
        ) w15
      )
      ) w2.drew
    ) (
      LOOP (Int × Unit) (0, ()) w2 fun s26 _ w27 next28 =>
        NC a1 fun p29 =>
        ∃ x30 : SlV, w27.cell? (p29.add 4) = some (.slice x30.base x30.len x30.cap) ∧
        CND (decide ((s26.1 : Int) < ((x30.len : Nat) : Int))) (
          NC a1 fun p31 =>
          ∃ x32 : SlV, w27.cell? (p31.add 4) = some (.slice x32.base x32.len x32.cap) ∧
          NC x32.base fun p33 =>
          ((0 : Int) ≤ s26.1 ∧ (s26.1 : Int) < (x32.len : Nat)) ∧
          ∃ x34 : Int, w27.cell? (p33.add (Int.toNat s26.1 * 2)) = some (.int .u64 x34) ∧
          c_vmem_Mem_Load a0 x34 (fun r35 r36 w37 =>
          JOIN (Bool × Unit) (fun J38 =>
            NC a1 fun p41 =>
            ∃ x42 : SlV, w37.cell? (p41.add 4) = some (.slice x42.base x42.len x42.cap) ∧
            NC x42.base fun p43 =>
            ((0 : Int) ≤ s26.1 ∧ (s26.1 : Int) < (x42.len : Nat)) ∧
            ∃ x44 : Int, w37.cell? ((p43.add (Int.toNat s26.1 * 2)).add 1) = some (.int .u64 x44) ∧
            CND ((r35 : Int) != x44) (
              J38 (true, ()) w37
            ) (
              J38 ((r36 : Int) != 0, ()) w37
            )
          ) fun s39 _ w40 =>
            CND (s39.1) (
              K false w40
            ) (
              next28 (i64 (s26.1 + 1), ()) w40
            )
          ) w27
        ) (
          LOOP (Int × Unit) (1, ()) w27 fun s45 _ w46 next47 =>
            CND (decide ((s45.1 : Int) < 4)) (
              c_vmem_Mem_Count a0 s45.1 (fun r48 w49 =>
              c_mallowref3_Mem_Count a1 s45.1 (fun r50 w51 =>
              CND ((r48 : Int) != r50) (
                K false w51
              ) (
                next47 (i64 (s45.1 + 1), ()) w51
              )
              ) w49
              ) w46
            ) (
              K true w46
            )
        )
    )

theorem tieZ24 (c_vmem_Mem_State : ∀ (a0 : (Option Addr)) (a1 : Int) (K : Int → World → Prop) (w : World), Prop) (c_vmem_Mem_Load : ∀ (a0 : (Option Addr)) (a1 : Int) (K : Int → Int → World → Prop) (w : World), Prop) (c_mallowref3_Mem_Load : ∀ (a0 : (Option Addr)) (a1 : Int) (K : Int → Int → World → Prop) (w : World), Prop) (c_vmem_Mem_Count : ∀ (a0 : (Option Addr)) (a1 : Int) (K : Int → World → Prop) (w : World), Prop) (c_mallowref3_Mem_Count : ∀ (a0 : (Option Addr)) (a1 : Int) (K : Int → World → Prop) (w : World), Prop) (x : ArgsV [.one (.ptr), .one (.ptr)]) (K Kp : Value → World → Prop) (w : World) : T0.mallowlaw3_same env c_vmem_Mem_State c_vmem_Mem_Load c_mallowref3_Mem_Load c_vmem_Mem_Count c_mallowref3_Mem_Count x.1 x.2.1 (fun r1 w' => K (.bool r1) w') w =
    ev Go.Proofs.Try.prog (tabC [(19, fun args w K Kp => unArgs [.one (.ptr), .one (.int .u64)] args.toList fun x => c_vmem_Mem_State x.1 x.2.1 (fun r1 w' => K (.int .i64 r1) w') w), (14, fun args w K Kp => unArgs [.one (.ptr), .one (.int .u64)] args.toList fun x => c_vmem_Mem_Load x.1 x.2.1 (fun r1 r2 w' => K (.tuple ⟨[.int .u64 r1, .int .i64 r2]⟩) w') w), (47, fun args w K Kp => unArgs [.one (.ptr), .one (.int .u64)] args.toList fun x => c_mallowref3_Mem_Load x.1 x.2.1 (fun r1 r2 w' => K (.tuple ⟨[.int .u64 r1, .int .i64 r2]⟩) w') w), (16, fun args w K Kp => unArgs [.one (.ptr), .one (.int .i64)] args.toList fun x => c_vmem_Mem_Count x.1 x.2.1 (fun r1 w' => K (.int .u64 r1) w') w), (50, fun args w K Kp => unArgs [.one (.ptr), .one (.int .i64)] args.toList fun x => c_mallowref3_Mem_Count x.1 x.2.1 (fun r1 w' => K (.int .u64 r1) w') w)]) (ground Go.Proofs.Try.prog) ann24 body24 (finQ Go.Proofs.Try.prog Go.Proofs.Try.f24 K Kp) (initF (mkArgs [.one (.ptr), .one (.ptr)] x)) w := by kernel_rfl
theorem tie24 (x : ArgsV [.one (.ptr), .one (.ptr)]) (K Kp : Value → World → Prop) (w : World) : F.mallowlaw3_same env x.1 x.2.1 (fun r1 w' => K (.bool r1) w') w =
    ev Go.Proofs.Try.prog (tabC [(19, C19), (14, C14), (47, C47), (16, C16), (50, C50)]) (ground Go.Proofs.Try.prog) ann24 body24 (finQ Go.Proofs.Try.prog Go.Proofs.Try.f24 K Kp) (initF (mkArgs [.one (.ptr), .one (.ptr)] x)) w := tieZ24 (F.vmem_Mem_State env) (F.vmem_Mem_Load env) (F.mallowref3_Mem_Load env) (F.vmem_Mem_Count env) (F.mallowref3_Mem_Count env) x K Kp w
theorem fits24 : FitsOne Go.Proofs.Try.prog 24 C24 :=
  fits_of_tie (T := [(19, C19), (14, C14), (47, C47), (16, C16), (50, C50)]) (A := ann24) (fn := Go.Proofs.Try.f24) (c := body24) (fits_cons fits19 (fits_cons fits14 (fits_cons fits47 (fits_cons fits16 (fits_cons fits50 fits_nil))))) mixed Go.Proofs.Try.func24 Go.Proofs.Try.call24 (by kernel_rfl) (by kernel_rfl) (by kernel_rfl) tie24

/- F.mallowlaw3_VmemPlays -/
noncomputable def C7 : Entry := fun args w K Kp => unArgs [.agg [.sl, .sl, .sl], .one (.sl)] args.toList fun x => F.mallowlaw3_VmemPlays env x.1.1 x.1.2.1 x.1.2.2.1 x.2.1 (fun r1 w' => K (.bool r1) w') w
noncomputable def body7 : Code := (Go.Proofs.Try.f7.body).getD .skip
def ann7 : Ann := { loops := [(9, [(8, .one (.int .i64))]), (13, [(9, .one (.int .i64))]), (17, [(10, .one (.int .i64))]), (21, [(11, .one (.int .i64))])], joins := [] }
def T0.mallowlaw3_VmemPlays (E : Env) (c_mallowlaw3_heavy : ∀ (a0_0 : SlV) (a0_1 : SlV) (a0_2 : SlV) (a1 : SlV) (K : Bool → World → Prop) (w : World), Prop) (c_mallowlaw3_given : ∀ (a0_0 : SlV) (a0_1 : SlV) (a0_2 : SlV) (K : SlV → SlV → SlV → World → Prop) (w : World), Prop) (c_vmem_New : ∀ (a0_0 : SlV) (a0_1 : SlV) (a0_2 : SlV) (K : (Option Addr) → World → Prop) (w : World), Prop) (c_mallowref3_New : ∀ (a0_0 : SlV) (a0_1 : SlV) (a0_2 : SlV) (K : (Option Addr) → World → Prop) (w : World), Prop) (c_mallowlaw3_act : ∀ (a0 : (Option Addr)) (a1 : (Option Addr)) (a2_0 : Int) (a2_1 : Int) (a2_2 : Int) (a2_3 : Int) (K : Bool → World → Prop) (w : World), Prop) (c_mallowlaw3_same : ∀ (a0 : (Option Addr)) (a1 : (Option Addr)) (K : Bool → World → Prop) (w : World), Prop) (c_mallowlaw3_awake : ∀ (K : Bool → World → Prop) (w : World), Prop) (a0_0 : SlV) (a0_1 : SlV) (a0_2 : SlV) (a1 : SlV) (K : Bool → World → Prop) (w : World) : Prop :=
  AL (.cells #[.slice a0_0.base a0_0.len a0_0.cap, .slice a0_1.base a0_1.len a0_1.cap, .slice a0_2.base a0_2.len a0_2.cap] E.t_api_Answers) w fun b1 w2 =>
  ∃ c3 : SlV, w2.cell? ((Addr.mk b1 0 none).add 0) = some (.slice c3.base c3.len c3.cap) ∧
  ∃ c4 : SlV, w2.cell? ((Addr.mk b1 0 none).add 1) = some (.slice c4.base c4.len c4.cap) ∧
  ∃ c5 : SlV, w2.cell? ((Addr.mk b1 0 none).add 2) = some (.slice c5.base c5.len c5.cap) ∧
  c_mallowlaw3_heavy c3 c4 c5 a1 (fun r6 w7 =>
  CND (r6) (
    K true w7
  ) (
    ∃ c8 : SlV, w7.cell? ((Addr.mk b1 0 none).add 0) = some (.slice c8.base c8.len c8.cap) ∧
    ∃ c9 : SlV, w7.cell? ((Addr.mk b1 0 none).add 1) = some (.slice c9.base c9.len c9.cap) ∧
    ∃ c10 : SlV, w7.cell? ((Addr.mk b1 0 none).add 2) = some (.slice c10.base c10.len c10.cap) ∧
    c_mallowlaw3_given c8 c9 c10 (fun r11 r12 r13 w14 =>
    AL (.cells #[.slice none 0 0, .slice none 0 0, .slice none 0 0] E.t_api_Answers) w14 fun b15 w16 =>
    stCells (Addr.mk b15 0 none) 0 [.slice r11.base r11.len r11.cap, .slice r12.base r12.len r12.cap, .slice r13.base r13.len r13.cap] w16 fun w17 =>
    ∃ c18 : SlV, w17.cell? ((Addr.mk b15 0 none).add 0) = some (.slice c18.base c18.len c18.cap) ∧
    ∃ c19 : SlV, w17.cell? ((Addr.mk b15 0 none).add 1) = some (.slice c19.base c19.len c19.cap) ∧
    ∃ c20 : SlV, w17.cell? ((Addr.mk b15 0 none).add 2) = some (.slice c20.base c20.len c20.cap) ∧
    c_vmem_New c18 c19 c20 (fun r21 w22 =>
    ∃ c23 : SlV, w22.cell? ((Addr.mk b1 0 none).add 0) = some (.slice c23.base c23.len c23.cap) ∧
    ∃ c24 : SlV, w22.cell? ((Addr.mk b1 0 none).add 1) = some (.slice c24.base c24.len c24.cap) ∧
    ∃ c25 : SlV, w22.cell? ((Addr.mk b1 0 none).add 2) = some (.slice c25.base c25.len c25.cap) ∧
    c_mallowref3_New c23 c24 c25 (fun r26 w27 =>
    CND (r21.isNone) (
      K false w27
    ) (
      LOOP (Int × Unit) (0, ()) w27 fun s28 _ w29 next30 =>
        ∃ x31 : SlV, w29.cell? (Addr.mk b15 0 none) = some (.slice x31.base x31.len x31.cap) ∧
        CND (decide ((s28.1 : Int) < ((x31.len : Nat) : Int))) (
          ∃ x32 : SlV, w29.cell? (Addr.mk b15 0 none) = some (.slice x32.base x32.len x32.cap) ∧
          NC x32.base fun p33 =>
          ((0 : Int) ≤ s28.1 ∧ (s28.1 : Int) < (x32.len : Nat)) ∧
          stCells (p33.add (Int.toNat s28.1 * 1)) 0 [.int .u64 0] w29 fun w34 =>
          next30 (i64 (s28.1 + 1), ()) w34
        ) (
          LOOP (Int × Unit) (0, ()) w29 fun s35 _ w36 next37 =>
            ∃ x38 : SlV, w36.cell? ((Addr.mk b15 0 none).add 1) = some (.slice x38.base x38.len x38.cap) ∧
            CND (decide ((s35.1 : Int) < ((x38.len : Nat) : Int))) (
              ∃ x39 : SlV, w36.drew.cell? ((Addr.mk b15 0 none).add 1) = some (.slice x39.base x39.len x39.cap) ∧
              ∃ x40 : SlV, w36.drew.cell? ((Addr.mk b15 0 none).add 1) = some (.slice x40.base x40.len x40.cap) ∧
              NC x40.base fun p41 =>
              ((0 : Int) ≤ s35.1 ∧ (s35.1 : Int) < (x40.len : Nat)) ∧
              ∃ x42 : Bool, w36.drew.cell? (p41.add (Int.toNat s35.1 * 1)) = some (.bool x42) ∧
              NC x39.base fun p43 =>
              ((0 : Int) ≤ s35.1 ∧ (s35.1 : Int) < (x39.len : Nat)) ∧
              stCells (p43.add (Int.toNat s35.1 * 1)) 0 [.bool (!x42)] w36.drew fun w44 =>
              next37 (i64 (s35.1 + 1), ()) w44
            ) (
              LOOP (Int × Unit) (0, ()) w36 fun s45 _ w46 next47 =>
                ∃ x48 : SlV, w46.cell? ((Addr.mk b15 0 none).add 2) = some (.slice x48.base x48.len x48.cap) ∧
                CND (decide ((s45.1 : Int) < ((x48.len : Nat) : Int))) (
                  ∃ x49 : SlV, w46.drew.cell? ((Addr.mk b15 0 none).add 2) = some (.slice x49.base x49.len x49.cap) ∧
                  ∃ x50 : SlV, w46.drew.cell? ((Addr.mk b15 0 none).add 2) = some (.slice x50.base x50.len x50.cap) ∧
                  NC x50.base fun p51 =>
                  ((0 : Int) ≤ s45.1 ∧ (s45.1 : Int) < (x50.len : Nat)) ∧
                  ∃ x52 : Int, w46.drew.cell? (p51.add (Int.toNat s45.1 * 1)) = some (.int .u64 x52) ∧
                  NC x49.base fun p53 =>
                  ((0 : Int) ≤ s45.1 ∧ (s45.1 : Int) < (x49.len : Nat)) ∧
                  stCells (p53.add (Int.toNat s45.1 * 1)) 0 [.int .u64 (u64 (x52 + 1))] w46.drew fun w54 =>
                  next47 (i64 (s45.1 + 1), ()) w54
                ) (
                  LOOP (Int × Unit) (0, ()) w46 fun s55 _ w56 next57 =>
                    CND (decide ((s55.1 : Int) < ((a1.len : Nat) : Int))) (
                      NC a1.base fun p58 =>
                      ((0 : Int) ≤ s55.1 ∧ (s55.1 : Int) < (a1.len : Nat)) ∧
                      ∃ c59 : Int, w56.cell? ((p58.add (Int.toNat s55.1 * 4)).add 0) = some (.int .i64 c59) ∧
                      ∃ c60 : Int, w56.cell? ((p58.add (Int.toNat s55.1 * 4)).add 1) = some (.int .u64 c60) ∧
                      ∃ c61 : Int, w56.cell? ((p58.add (Int.toNat s55.1 * 4)).add 2) = some (.int .u64 c61) ∧
                      ∃ c62 : Int, w56.cell? ((p58.add (Int.toNat s55.1 * 4)).add 3) = some (.int .u64 c62) ∧
                      c_mallowlaw3_act r21 r26 c59 c60 c61 c62 (fun r63 w64 =>
                      CND (!r63) (
                        K false w64
                      ) (
                        next57 (i64 (s55.1 + 1), ()) w64
                      )
                      ) w56
                    ) (
                      c_mallowlaw3_same r21 r26 (fun r65 w66 =>
                      CND (r65) (
                        c_mallowlaw3_awake  (fun r67 w68 =>
                        K r67 w68
                        ) w66
                      ) (
                        K false w66
                      )
                      ) w56
                    )
                )
            )
        )
    )
    ) w22
    ) w17
    ) w7
  )
  ) w2

theorem tieZ7 (c_mallowlaw3_heavy : ∀ (a0_0 : SlV) (a0_1 : SlV) (a0_2 : SlV) (a1 : SlV) (K : Bool → World → Prop) (w : World), Prop) (c_mallowlaw3_given : ∀ (a0_0 : SlV) (a0_1 : SlV) (a0_2 : SlV) (K : SlV → SlV → SlV → World → Prop) (w : World), Prop) (c_vmem_New : ∀ (a0_0 : SlV) (a0_1 : SlV) (a0_2 : SlV) (K : (Option Addr) → World → Prop) (w : World), Prop) (c_mallowref3_New : ∀ (a0_0 : SlV) (a0_1 : SlV) (a0_2 : SlV) (K : (Option Addr) → World → Prop) (w : World), Prop) (c_mallowlaw3_act : ∀ (a0 : (Option Addr)) (a1 : (Option Addr)) (a2_0 : Int) (a2_1 : Int) (a2_2 : Int) (a2_3 : Int) (K : Bool → World → Prop) (w : World), Prop) (c_mallowlaw3_same : ∀ (a0 : (Option Addr)) (a1 : (Option Addr)) (K : Bool → World → Prop) (w : World), Prop) (c_mallowlaw3_awake : ∀ (K : Bool → World → Prop) (w : World), Prop) (x : ArgsV [.agg [.sl, .sl, .sl], .one (.sl)]) (K Kp : Value → World → Prop) (w : World) : T0.mallowlaw3_VmemPlays env c_mallowlaw3_heavy c_mallowlaw3_given c_vmem_New c_mallowref3_New c_mallowlaw3_act c_mallowlaw3_same c_mallowlaw3_awake x.1.1 x.1.2.1 x.1.2.2.1 x.2.1 (fun r1 w' => K (.bool r1) w') w =
    ev Go.Proofs.Try.prog (tabC [(20, fun args w K Kp => unArgs [.agg [.sl, .sl, .sl], .one (.sl)] args.toList fun x => c_mallowlaw3_heavy x.1.1 x.1.2.1 x.1.2.2.1 x.2.1 (fun r1 w' => K (.bool r1) w') w), (21, fun args w K Kp => unArgs [.agg [.sl, .sl, .sl]] args.toList fun x => c_mallowlaw3_given x.1.1 x.1.2.1 x.1.2.2.1 (fun r1 r2 r3 w' => K (.agg ⟨[.slice r1.base r1.len r1.cap, .slice r2.base r2.len r2.cap, .slice r3.base r3.len r3.cap]⟩) w') w), (11, fun args w K Kp => unArgs [.agg [.sl, .sl, .sl]] args.toList fun x => c_vmem_New x.1.1 x.1.2.1 x.1.2.2.1 (fun r1 w' => K (.pointer r1) w') w), (22, fun args w K Kp => unArgs [.agg [.sl, .sl, .sl]] args.toList fun x => c_mallowref3_New x.1.1 x.1.2.1 x.1.2.2.1 (fun r1 w' => K (.pointer r1) w') w), (23, fun args w K Kp => unArgs [.one (.ptr), .one (.ptr), .agg [.int .i64, .int .u64, .int .u64, .int .u64]] args.toList fun x => c_mallowlaw3_act x.1 x.2.1 x.2.2.1.1 x.2.2.1.2.1 x.2.2.1.2.2.1 x.2.2.1.2.2.2.1 (fun r1 w' => K (.bool r1) w') w), (24, fun args w K Kp => unArgs [.one (.ptr), .one (.ptr)] args.toList fun x => c_mallowlaw3_same x.1 x.2.1 (fun r1 w' => K (.bool r1) w') w), (17, fun args w K Kp => unArgs [] args.toList fun x => c_mallowlaw3_awake  (fun r1 w' => K (.bool r1) w') w)]) (ground Go.Proofs.Try.prog) ann7 body7 (finQ Go.Proofs.Try.prog Go.Proofs.Try.f7 K Kp) (initF (mkArgs [.agg [.sl, .sl, .sl], .one (.sl)] x)) w := by kernel_rfl
theorem tie7 (x : ArgsV [.agg [.sl, .sl, .sl], .one (.sl)]) (K Kp : Value → World → Prop) (w : World) : F.mallowlaw3_VmemPlays env x.1.1 x.1.2.1 x.1.2.2.1 x.2.1 (fun r1 w' => K (.bool r1) w') w =
    ev Go.Proofs.Try.prog (tabC [(20, C20), (21, C21), (11, C11), (22, C22), (23, C23), (24, C24), (17, C17)]) (ground Go.Proofs.Try.prog) ann7 body7 (finQ Go.Proofs.Try.prog Go.Proofs.Try.f7 K Kp) (initF (mkArgs [.agg [.sl, .sl, .sl], .one (.sl)] x)) w := tieZ7 (F.mallowlaw3_heavy env) (F.mallowlaw3_given env) (F.vmem_New env) (F.mallowref3_New env) (F.mallowlaw3_act env) (F.mallowlaw3_same env) (F.mallowlaw3_awake env) x K Kp w
theorem fits7 : FitsOne Go.Proofs.Try.prog 7 C7 :=
  fits_of_tie (T := [(20, C20), (21, C21), (11, C11), (22, C22), (23, C23), (24, C24), (17, C17)]) (A := ann7) (fn := Go.Proofs.Try.f7) (c := body7) (fits_cons fits20 (fits_cons fits21 (fits_cons fits11 (fits_cons fits22 (fits_cons fits23 (fits_cons fits24 (fits_cons fits17 fits_nil))))))) mixed Go.Proofs.Try.func7 Go.Proofs.Try.call7 (by kernel_rfl) (by kernel_rfl) (by kernel_rfl) tie7

/- F.mallowlaw3_VmemApart -/
noncomputable def C8 : Entry := fun args w K Kp => unArgs [.agg [.sl, .sl, .sl], .one (.sl), .one (.sl)] args.toList fun x => F.mallowlaw3_VmemApart env x.1.1 x.1.2.1 x.1.2.2.1 x.2.1 x.2.2.1 (fun r1 w' => K (.bool r1) w') w
noncomputable def body8 : Code := (Go.Proofs.Try.f8.body).getD .skip
def ann8 : Ann := { loops := [(8, [(11, .one (.int .i64))])], joins := [(6, [(30, .one (.bool))]), (11, [(46, .one (.bool))])] }
def T0.mallowlaw3_VmemApart (E : Env) (c_mallowlaw3_heavy : ∀ (a0_0 : SlV) (a0_1 : SlV) (a0_2 : SlV) (a1 : SlV) (K : Bool → World → Prop) (w : World), Prop) (c_mallowlaw3_given : ∀ (a0_0 : SlV) (a0_1 : SlV) (a0_2 : SlV) (K : SlV → SlV → SlV → World → Prop) (w : World), Prop) (c_vmem_New : ∀ (a0_0 : SlV) (a0_1 : SlV) (a0_2 : SlV) (K : (Option Addr) → World → Prop) (w : World), Prop) (c_mallowref3_New : ∀ (a0_0 : SlV) (a0_1 : SlV) (a0_2 : SlV) (K : (Option Addr) → World → Prop) (w : World), Prop) (c_mallowlaw3_act : ∀ (a0 : (Option Addr)) (a1 : (Option Addr)) (a2_0 : Int) (a2_1 : Int) (a2_2 : Int) (a2_3 : Int) (K : Bool → World → Prop) (w : World), Prop) (c_mallowlaw3_same : ∀ (a0 : (Option Addr)) (a1 : (Option Addr)) (K : Bool → World → Prop) (w : World), Prop) (c_mallowlaw3_awake : ∀ (K : Bool → World → Prop) (w : World), Prop) (a0_0 : SlV) (a0_1 : SlV) (a0_2 : SlV) (a1 : SlV) (a2 : SlV) (K : Bool → World → Prop) (w : World) : Prop :=
  AL (.cells #[.slice a0_0.base a0_0.len a0_0.cap, .slice a0_1.base a0_1.len a0_1.cap, .slice a0_2.base a0_2.len a0_2.cap] E.t_api_Answers) w fun b1 w2 =>
  ∃ c3 : SlV, w2.cell? ((Addr.mk b1 0 none).add 0) = some (.slice c3.base c3.len c3.cap) ∧
  ∃ c4 : SlV, w2.cell? ((Addr.mk b1 0 none).add 1) = some (.slice c4.base c4.len c4.cap) ∧
  ∃ c5 : SlV, w2.cell? ((Addr.mk b1 0 none).add 2) = some (.slice c5.base c5.len c5.cap) ∧
  c_mallowlaw3_heavy c3 c4 c5 a1 (fun r6 w7 =>
  CND (r6) (
    K true w7
  ) (
    ∃ c8 : SlV, w7.drew.cell? ((Addr.mk b1 0 none).add 0) = some (.slice c8.base c8.len c8.cap) ∧
    ∃ c9 : SlV, w7.drew.cell? ((Addr.mk b1 0 none).add 1) = some (.slice c9.base c9.len c9.cap) ∧
    ∃ c10 : SlV, w7.drew.cell? ((Addr.mk b1 0 none).add 2) = some (.slice c10.base c10.len c10.cap) ∧
    ∃ c11 : SlV, w7.drew.cell? ((Addr.mk b1 0 none).add 0) = some (.slice c11.base c11.len c11.cap) ∧
    ∃ c12 : SlV, w7.drew.cell? ((Addr.mk b1 0 none).add 1) = some (.slice c12.base c12.len c12.cap) ∧
    ∃ c13 : SlV, w7.drew.cell? ((Addr.mk b1 0 none).add 2) = some (.slice c13.base c13.len c13.cap) ∧
    c_mallowlaw3_given c8 c9 c10 (fun r14 r15 r16 w17 =>
    (w17.cell? ((Addr.mk b1 0 none).add 0) = some (.slice c11.base c11.len c11.cap) ∧ (w17.cell? ((Addr.mk b1 0 none).add 1) = some (.slice c12.base c12.len c12.cap) ∧ (w17.cell? ((Addr.mk b1 0 none).add 2) = some (.slice c13.base c13.len c13.cap) ∧ True))) ∧
    c_vmem_New r14 r15 r16 (fun r18 w19 =>
    (w19.cell? ((Addr.mk b1 0 none).add 0) = some (.slice c11.base c11.len c11.cap) ∧ (w19.cell? ((Addr.mk b1 0 none).add 1) = some (.slice c12.base c12.len c12.cap) ∧ (w19.cell? ((Addr.mk b1 0 none).add 2) = some (.slice c13.base c13.len c13.cap) ∧ True))) ∧
    c_mallowlaw3_given c11 c12 c13 (fun r20 r21 r22 w23 =>
    c_vmem_New r20 r21 r22 (fun r24 w25 =>
    ∃ c26 : SlV, w25.drew.cell? ((Addr.mk b1 0 none).add 0) = some (.slice c26.base c26.len c26.cap) ∧
    ∃ c27 : SlV, w25.drew.cell? ((Addr.mk b1 0 none).add 1) = some (.slice c27.base c27.len c27.cap) ∧
    ∃ c28 : SlV, w25.drew.cell? ((Addr.mk b1 0 none).add 2) = some (.slice c28.base c28.len c28.cap) ∧
    ∃ c29 : SlV, w25.drew.cell? ((Addr.mk b1 0 none).add 0) = some (.slice c29.base c29.len c29.cap) ∧
    ∃ c30 : SlV, w25.drew.cell? ((Addr.mk b1 0 none).add 1) = some (.slice c30.base c30.len c30.cap) ∧
    ∃ c31 : SlV, w25.drew.cell? ((Addr.mk b1 0 none).add 2) = some (.slice c31.base c31.len c31.cap) ∧
    c_mallowref3_New c26 c27 c28 (fun r32 w33 =>
    (w33.cell? ((Addr.mk b1 0 none).add 0) = some (.slice c29.base c29.len c29.cap) ∧ (w33.cell? ((Addr.mk b1 0 none).add 1) = some (.slice c30.base c30.len c30.cap) ∧ (w33.cell? ((Addr.mk b1 0 none).add 2) = some (.slice c31.base c31.len c31.cap) ∧ True))) ∧
    c_mallowref3_New c29 c30 c31 (fun r34 w35 =>
    JOIN (Bool × Unit) (fun J36 =>
      CND (r18.isNone) (
        J36 (true, ()) w35
      ) (
        J36 (r24.isNone, ()) w35
      )
    ) fun s37 _ w38 =>
      CND (s37.1) (
        K false w38
      ) (
        LOOP (Int × Unit) (0, ()) w38 fun s39 _ w40 next41 =>
          CND (decide ((s39.1 : Int) < ((a1.len : Nat) : Int))) (
            JOIN (Bool × Unit) (fun J42 =>
              CND (decide ((s39.1 : Int) < ((a2.len : Nat) : Int))) (
                NC a2.base fun p45 =>
                ((0 : Int) ≤ s39.1 ∧ (s39.1 : Int) < (a2.len : Nat)) ∧
                ∃ x46 : Bool, w40.cell? (p45.add (Int.toNat s39.1 * 1)) = some (.bool x46) ∧
                J42 (x46, ()) w40
              ) (
                J42 (false, ()) w40
              )
            ) fun s43 _ w44 =>
              CND (s43.1) (
                NC a1.base fun p47 =>
                ((0 : Int) ≤ s39.1 ∧ (s39.1 : Int) < (a1.len : Nat)) ∧
                ∃ c48 : Int, w44.cell? ((p47.add (Int.toNat s39.1 * 4)).add 0) = some (.int .i64 c48) ∧
                ∃ c49 : Int, w44.cell? ((p47.add (Int.toNat s39.1 * 4)).add 1) = some (.int .u64 c49) ∧
                ∃ c50 : Int, w44.cell? ((p47.add (Int.toNat s39.1 * 4)).add 2) = some (.int .u64 c50) ∧
                ∃ c51 : Int, w44.cell? ((p47.add (Int.toNat s39.1 * 4)).add 3) = some (.int .u64 c51) ∧
                c_mallowlaw3_act r24 r34 c48 c49 c50 c51 (fun r52 w53 =>
                CND (!r52) (
                  K false w53
                ) (
                  next41 (i64 (s39.1 + 1), ()) w53
                )
                ) w44
              ) (
                NC a1.base fun p54 =>
                ((0 : Int) ≤ s39.1 ∧ (s39.1 : Int) < (a1.len : Nat)) ∧
                ∃ c55 : Int, w44.cell? ((p54.add (Int.toNat s39.1 * 4)).add 0) = some (.int .i64 c55) ∧
                ∃ c56 : Int, w44.cell? ((p54.add (Int.toNat s39.1 * 4)).add 1) = some (.int .u64 c56) ∧
                ∃ c57 : Int, w44.cell? ((p54.add (Int.toNat s39.1 * 4)).add 2) = some (.int .u64 c57) ∧
                ∃ c58 : Int, w44.cell? ((p54.add (Int.toNat s39.1 * 4)).add 3) = some (.int .u64 c58) ∧
                c_mallowlaw3_act r18 r32 c55 c56 c57 c58 (fun r59 w60 =>
                CND (!r59) (
                  K false w60
                ) (
                  next41 (i64 (s39.1 + 1), ()) w60
                )
                ) w44
              )
          ) (
            c_mallowlaw3_same r18 r32 (fun r61 w62 =>
            CND (r61) (
              c_mallowlaw3_same r24 r34 (fun r63 w64 =>
              CND (r63) (
                c_mallowlaw3_awake  (fun r65 w66 =>
                K r65 w66
                ) w64
              ) (
                K false w64
              )
              ) w62
            ) (
              K false w62
            )
            ) w40
          )
      )
    ) w33
    ) w25.drew
    ) w23
    ) w19
    ) w17
    ) w7.drew
  )
  ) w2

theorem tieZ8 (c_mallowlaw3_heavy : ∀ (a0_0 : SlV) (a0_1 : SlV) (a0_2 : SlV) (a1 : SlV) (K : Bool → World → Prop) (w : World), Prop) (c_mallowlaw3_given : ∀ (a0_0 : SlV) (a0_1 : SlV) (a0_2 : SlV) (K : SlV → SlV → SlV → World → Prop) (w : World), Prop) (c_vmem_New : ∀ (a0_0 : SlV) (a0_1 : SlV) (a0_2 : SlV) (K : (Option Addr) → World → Prop) (w : World), Prop) (c_mallowref3_New : ∀ (a0_0 : SlV) (a0_1 : SlV) (a0_2 : SlV) (K : (Option Addr) → World → Prop) (w : World), Prop) (c_mallowlaw3_act : ∀ (a0 : (Option Addr)) (a1 : (Option Addr)) (a2_0 : Int) (a2_1 : Int) (a2_2 : Int) (a2_3 : Int) (K : Bool → World → Prop) (w : World), Prop) (c_mallowlaw3_same : ∀ (a0 : (Option Addr)) (a1 : (Option Addr)) (K : Bool → World → Prop) (w : World), Prop) (c_mallowlaw3_awake : ∀ (K : Bool → World → Prop) (w : World), Prop) (x : ArgsV [.agg [.sl, .sl, .sl], .one (.sl), .one (.sl)]) (K Kp : Value → World → Prop) (w : World) : T0.mallowlaw3_VmemApart env c_mallowlaw3_heavy c_mallowlaw3_given c_vmem_New c_mallowref3_New c_mallowlaw3_act c_mallowlaw3_same c_mallowlaw3_awake x.1.1 x.1.2.1 x.1.2.2.1 x.2.1 x.2.2.1 (fun r1 w' => K (.bool r1) w') w =
    ev Go.Proofs.Try.prog (tabC [(20, fun args w K Kp => unArgs [.agg [.sl, .sl, .sl], .one (.sl)] args.toList fun x => c_mallowlaw3_heavy x.1.1 x.1.2.1 x.1.2.2.1 x.2.1 (fun r1 w' => K (.bool r1) w') w), (21, fun args w K Kp => unArgs [.agg [.sl, .sl, .sl]] args.toList fun x => c_mallowlaw3_given x.1.1 x.1.2.1 x.1.2.2.1 (fun r1 r2 r3 w' => K (.agg ⟨[.slice r1.base r1.len r1.cap, .slice r2.base r2.len r2.cap, .slice r3.base r3.len r3.cap]⟩) w') w), (11, fun args w K Kp => unArgs [.agg [.sl, .sl, .sl]] args.toList fun x => c_vmem_New x.1.1 x.1.2.1 x.1.2.2.1 (fun r1 w' => K (.pointer r1) w') w), (22, fun args w K Kp => unArgs [.agg [.sl, .sl, .sl]] args.toList fun x => c_mallowref3_New x.1.1 x.1.2.1 x.1.2.2.1 (fun r1 w' => K (.pointer r1) w') w), (23, fun args w K Kp => unArgs [.one (.ptr), .one (.ptr), .agg [.int .i64, .int .u64, .int .u64, .int .u64]] args.toList fun x => c_mallowlaw3_act x.1 x.2.1 x.2.2.1.1 x.2.2.1.2.1 x.2.2.1.2.2.1 x.2.2.1.2.2.2.1 (fun r1 w' => K (.bool r1) w') w), (24, fun args w K Kp => unArgs [.one (.ptr), .one (.ptr)] args.toList fun x => c_mallowlaw3_same x.1 x.2.1 (fun r1 w' => K (.bool r1) w') w), (17, fun args w K Kp => unArgs [] args.toList fun x => c_mallowlaw3_awake  (fun r1 w' => K (.bool r1) w') w)]) (ground Go.Proofs.Try.prog) ann8 body8 (finQ Go.Proofs.Try.prog Go.Proofs.Try.f8 K Kp) (initF (mkArgs [.agg [.sl, .sl, .sl], .one (.sl), .one (.sl)] x)) w := by kernel_rfl
theorem tie8 (x : ArgsV [.agg [.sl, .sl, .sl], .one (.sl), .one (.sl)]) (K Kp : Value → World → Prop) (w : World) : F.mallowlaw3_VmemApart env x.1.1 x.1.2.1 x.1.2.2.1 x.2.1 x.2.2.1 (fun r1 w' => K (.bool r1) w') w =
    ev Go.Proofs.Try.prog (tabC [(20, C20), (21, C21), (11, C11), (22, C22), (23, C23), (24, C24), (17, C17)]) (ground Go.Proofs.Try.prog) ann8 body8 (finQ Go.Proofs.Try.prog Go.Proofs.Try.f8 K Kp) (initF (mkArgs [.agg [.sl, .sl, .sl], .one (.sl), .one (.sl)] x)) w := tieZ8 (F.mallowlaw3_heavy env) (F.mallowlaw3_given env) (F.vmem_New env) (F.mallowref3_New env) (F.mallowlaw3_act env) (F.mallowlaw3_same env) (F.mallowlaw3_awake env) x K Kp w
theorem fits8 : FitsOne Go.Proofs.Try.prog 8 C8 :=
  fits_of_tie (T := [(20, C20), (21, C21), (11, C11), (22, C22), (23, C23), (24, C24), (17, C17)]) (A := ann8) (fn := Go.Proofs.Try.f8) (c := body8) (fits_cons fits20 (fits_cons fits21 (fits_cons fits11 (fits_cons fits22 (fits_cons fits23 (fits_cons fits24 (fits_cons fits17 fits_nil))))))) mixed Go.Proofs.Try.func8 Go.Proofs.Try.call8 (by kernel_rfl) (by kernel_rfl) (by kernel_rfl) tie8

/- F.mallowlaw3_VmemStates -/
noncomputable def C9 : Entry := fun args w K Kp => unArgs [.one (.sl)] args.toList fun x => F.mallowlaw3_VmemStates env x.1 (fun r1 w' => K (.bool r1) w') w
noncomputable def body9 : Code := (Go.Proofs.Try.f9.body).getD .skip
def ann9 : Ann := { loops := [(8, [(5, .one (.int .i64))]), (23, [(7, .one (.int .i64))])], joins := [(22, []), (28, [(9, .one (.bool))])] }
def T0.mallowlaw3_VmemStates (E : Env) (c_mallowlaw3_heavy : ∀ (a0_0 : SlV) (a0_1 : SlV) (a0_2 : SlV) (a1 : SlV) (K : Bool → World → Prop) (w : World), Prop) (c_vmem_New : ∀ (a0_0 : SlV) (a0_1 : SlV) (a0_2 : SlV) (K : (Option Addr) → World → Prop) (w : World), Prop) (c_vmem_Mem_Reserve : ∀ (a0 : (Option Addr)) (a1 : Int) (a2 : Int) (K : Int → Int → World → Prop) (w : World), Prop) (c_vmem_Mem_Commit : ∀ (a0 : (Option Addr)) (a1 : Int) (a2 : Int) (K : Int → World → Prop) (w : World), Prop) (c_vmem_Mem_Release : ∀ (a0 : (Option Addr)) (a1 : Int) (a2 : Int) (K : Int → World → Prop) (w : World), Prop) (c_vmem_Mem_Store : ∀ (a0 : (Option Addr)) (a1 : Int) (a2 : Int) (K : Int → World → Prop) (w : World), Prop) (c_vmem_Mem_Zero : ∀ (a0 : (Option Addr)) (a1 : Int) (a2 : Int) (K : Int → World → Prop) (w : World), Prop) (c_vmem_Mem_State : ∀ (a0 : (Option Addr)) (a1 : Int) (K : Int → World → Prop) (w : World), Prop) (c_mallowlaw3_awake : ∀ (K : Bool → World → Prop) (w : World), Prop) (a0 : SlV) (K : Bool → World → Prop) (w : World) : Prop :=
  c_mallowlaw3_heavy ⟨none, 0, 0⟩ ⟨none, 0, 0⟩ ⟨none, 0, 0⟩ a0 (fun r1 w2 =>
  CND (r1) (
    K true w2
  ) (
    c_vmem_New ⟨none, 0, 0⟩ ⟨none, 0, 0⟩ ⟨none, 0, 0⟩ (fun r3 w4 =>
    CND (r3.isNone) (
      K false w4
    ) (
      ((0 : Int) ≤ 60 ∧ (60 : Int) ≤ 60 ∧ (60 : Int) < 9223372036854775808 ∧ ((8 : Nat) : Int) * 60 ≤ 140737488355328) ∧
      AL (.cells (mkZero #[.int .i64 0] (Int.toNat 60 * 1)) E.t_int) w4 fun b5 w6 =>
      LOOP (Int × Unit) (0, ()) w6 fun s7 _ w8 next9 =>
        CND (decide ((s7.1 : Int) < ((a0.len : Nat) : Int))) (
          NC a0.base fun p10 =>
          ((0 : Int) ≤ s7.1 ∧ (s7.1 : Int) < (a0.len : Nat)) ∧
          ∃ x11 : Int, w8.cell? (p10.add (Int.toNat s7.1 * 4)) = some (.int .i64 x11) ∧
          JOIN (Unit) (fun J12 =>
            CND ((x11 : Int) == 1) (
              NC a0.base fun p15 =>
              ((0 : Int) ≤ s7.1 ∧ (s7.1 : Int) < (a0.len : Nat)) ∧
              ∃ x16 : Int, w8.drew.cell? ((p15.add (Int.toNat s7.1 * 4)).add 1) = some (.int .u64 x16) ∧
              NC a0.base fun p17 =>
              ((0 : Int) ≤ s7.1 ∧ (s7.1 : Int) < (a0.len : Nat)) ∧
              ∃ x18 : Int, w8.drew.cell? ((p17.add (Int.toNat s7.1 * 4)).add 2) = some (.int .u64 x18) ∧
              c_vmem_Mem_Reserve r3 x16 x18 (fun r19 r20 w21 =>
              J12 (()) w21
              ) w8.drew
            ) (
              CND ((x11 : Int) == 2) (
                NC a0.base fun p22 =>
                ((0 : Int) ≤ s7.1 ∧ (s7.1 : Int) < (a0.len : Nat)) ∧
                ∃ x23 : Int, w8.drew.cell? ((p22.add (Int.toNat s7.1 * 4)).add 1) = some (.int .u64 x23) ∧
                NC a0.base fun p24 =>
                ((0 : Int) ≤ s7.1 ∧ (s7.1 : Int) < (a0.len : Nat)) ∧
                ∃ x25 : Int, w8.drew.cell? ((p24.add (Int.toNat s7.1 * 4)).add 2) = some (.int .u64 x25) ∧
                c_vmem_Mem_Commit r3 x23 x25 (fun r26 w27 =>
                J12 (()) w27
                ) w8.drew
              ) (
                CND ((x11 : Int) == 3) (
                  NC a0.base fun p28 =>
                  ((0 : Int) ≤ s7.1 ∧ (s7.1 : Int) < (a0.len : Nat)) ∧
                  ∃ x29 : Int, w8.drew.cell? ((p28.add (Int.toNat s7.1 * 4)).add 1) = some (.int .u64 x29) ∧
                  NC a0.base fun p30 =>
                  ((0 : Int) ≤ s7.1 ∧ (s7.1 : Int) < (a0.len : Nat)) ∧
                  ∃ x31 : Int, w8.drew.cell? ((p30.add (Int.toNat s7.1 * 4)).add 2) = some (.int .u64 x31) ∧
                  c_vmem_Mem_Release r3 x29 x31 (fun r32 w33 =>
                  J12 (()) w33
                  ) w8.drew
                ) (
                  CND ((x11 : Int) == 5) (
                    NC a0.base fun p34 =>
                    ((0 : Int) ≤ s7.1 ∧ (s7.1 : Int) < (a0.len : Nat)) ∧
                    ∃ x35 : Int, w8.drew.cell? ((p34.add (Int.toNat s7.1 * 4)).add 3) = some (.int .u64 x35) ∧
                    NC a0.base fun p36 =>
                    ((0 : Int) ≤ s7.1 ∧ (s7.1 : Int) < (a0.len : Nat)) ∧
                    ∃ x37 : Int, w8.drew.cell? ((p36.add (Int.toNat s7.1 * 4)).add 2) = some (.int .u64 x37) ∧
                    c_vmem_Mem_Store r3 x35 x37 (fun r38 w39 =>
                    J12 (()) w39
                    ) w8.drew
                  ) (
                    CND ((x11 : Int) == 6) (
                      NC a0.base fun p40 =>
                      ((0 : Int) ≤ s7.1 ∧ (s7.1 : Int) < (a0.len : Nat)) ∧
                      ∃ x41 : Int, w8.drew.cell? ((p40.add (Int.toNat s7.1 * 4)).add 3) = some (.int .u64 x41) ∧
                      NC a0.base fun p42 =>
                      ((0 : Int) ≤ s7.1 ∧ (s7.1 : Int) < (a0.len : Nat)) ∧
                      ∃ x43 : Int, w8.drew.cell? ((p42.add (Int.toNat s7.1 * 4)).add 2) = some (.int .u64 x43) ∧
                      c_vmem_Mem_Zero r3 x41 x43 (fun r44 w45 =>
                      J12 (()) w45
                      ) w8.drew
                    ) (
                      J12 (()) w8
                    )
                  )
                )
              )
            )
          ) fun s13 _ w14 =>
            LOOP (Int × Unit) (0, ()) w14 fun s46 _ w47 next48 =>
              CND (decide ((s46.1 : Int) < (((Int.toNat 60) : Nat) : Int))) (
                c_vmem_Mem_State r3 (u64 (508 + (u64 (s46.1)))) (fun r49 w50 =>
                ((0 : Int) ≤ s46.1 ∧ (s46.1 : Int) < ((Int.toNat 60) : Nat)) ∧
                ∃ x51 : Int, w50.cell? ((Addr.mk b5 0 none).add (Int.toNat s46.1 * 1)) = some (.int .i64 x51) ∧
                CND ((r49 : Int) == x51) (
                  next48 (i64 (s46.1 + 1), ()) w50
                ) (
                  JOIN (Bool × Unit) (fun J52 =>
                    CND ((x11 : Int) == 1) (
                      ((0 : Int) ≤ s46.1 ∧ (s46.1 : Int) < ((Int.toNat 60) : Nat)) ∧
                      ∃ x55 : Int, w50.cell? ((Addr.mk b5 0 none).add (Int.toNat s46.1 * 1)) = some (.int .i64 x55) ∧
                      CND ((x55 : Int) == 0) (
                        CND ((r49 : Int) == 1) (
                          J52 (true, ()) w50
                        ) (
                          CND ((x11 : Int) == 2) (
                            ((0 : Int) ≤ s46.1 ∧ (s46.1 : Int) < ((Int.toNat 60) : Nat)) ∧
                            ∃ x56 : Int, w50.cell? ((Addr.mk b5 0 none).add (Int.toNat s46.1 * 1)) = some (.int .i64 x56) ∧
                            CND ((x56 : Int) != 0) (
                              CND ((r49 : Int) == 2) (
                                J52 (true, ()) w50
                              ) (
                                CND ((x11 : Int) == 3) (
                                  ((0 : Int) ≤ s46.1 ∧ (s46.1 : Int) < ((Int.toNat 60) : Nat)) ∧
                                  ∃ x57 : Int, w50.cell? ((Addr.mk b5 0 none).add (Int.toNat s46.1 * 1)) = some (.int .i64 x57) ∧
                                  CND ((x57 : Int) == 2) (
                                    J52 ((r49 : Int) == 3, ()) w50
                                  ) (
                                    J52 (false, ()) w50
                                  )
                                ) (
                                  J52 (false, ()) w50
                                )
                              )
                            ) (
                              CND ((x11 : Int) == 3) (
                                ((0 : Int) ≤ s46.1 ∧ (s46.1 : Int) < ((Int.toNat 60) : Nat)) ∧
                                ∃ x58 : Int, w50.cell? ((Addr.mk b5 0 none).add (Int.toNat s46.1 * 1)) = some (.int .i64 x58) ∧
                                CND ((x58 : Int) == 2) (
                                  J52 ((r49 : Int) == 3, ()) w50
                                ) (
                                  J52 (false, ()) w50
                                )
                              ) (
                                J52 (false, ()) w50
                              )
                            )
                          ) (
                            CND ((x11 : Int) == 3) (
                              ((0 : Int) ≤ s46.1 ∧ (s46.1 : Int) < ((Int.toNat 60) : Nat)) ∧
                              ∃ x59 : Int, w50.cell? ((Addr.mk b5 0 none).add (Int.toNat s46.1 * 1)) = some (.int .i64 x59) ∧
                              CND ((x59 : Int) == 2) (
                                J52 ((r49 : Int) == 3, ()) w50
                              ) (
                                J52 (false, ()) w50
                              )
                            ) (
                              J52 (false, ()) w50
                            )
                          )
                        )
                      ) (
                        CND ((x11 : Int) == 2) (
                          ((0 : Int) ≤ s46.1 ∧ (s46.1 : Int) < ((Int.toNat 60) : Nat)) ∧
                          ∃ x60 : Int, w50.cell? ((Addr.mk b5 0 none).add (Int.toNat s46.1 * 1)) = some (.int .i64 x60) ∧
                          CND ((x60 : Int) != 0) (
                            CND ((r49 : Int) == 2) (
                              J52 (true, ()) w50
                            ) (
                              CND ((x11 : Int) == 3) (
                                ((0 : Int) ≤ s46.1 ∧ (s46.1 : Int) < ((Int.toNat 60) : Nat)) ∧
                                ∃ x61 : Int, w50.cell? ((Addr.mk b5 0 none).add (Int.toNat s46.1 * 1)) = some (.int .i64 x61) ∧
                                CND ((x61 : Int) == 2) (
                                  J52 ((r49 : Int) == 3, ()) w50
                                ) (
                                  J52 (false, ()) w50
                                )
                              ) (
                                J52 (false, ()) w50
                              )
                            )
                          ) (
                            CND ((x11 : Int) == 3) (
                              ((0 : Int) ≤ s46.1 ∧ (s46.1 : Int) < ((Int.toNat 60) : Nat)) ∧
                              ∃ x62 : Int, w50.cell? ((Addr.mk b5 0 none).add (Int.toNat s46.1 * 1)) = some (.int .i64 x62) ∧
                              CND ((x62 : Int) == 2) (
                                J52 ((r49 : Int) == 3, ()) w50
                              ) (
                                J52 (false, ()) w50
                              )
                            ) (
                              J52 (false, ()) w50
                            )
                          )
                        ) (
                          CND ((x11 : Int) == 3) (
                            ((0 : Int) ≤ s46.1 ∧ (s46.1 : Int) < ((Int.toNat 60) : Nat)) ∧
                            ∃ x63 : Int, w50.cell? ((Addr.mk b5 0 none).add (Int.toNat s46.1 * 1)) = some (.int .i64 x63) ∧
                            CND ((x63 : Int) == 2) (
                              J52 ((r49 : Int) == 3, ()) w50
                            ) (
                              J52 (false, ()) w50
                            )
                          ) (
                            J52 (false, ()) w50
                          )
                        )
                      )
                    ) (
                      CND ((x11 : Int) == 2) (
                        ((0 : Int) ≤ s46.1 ∧ (s46.1 : Int) < ((Int.toNat 60) : Nat)) ∧
                        ∃ x64 : Int, w50.cell? ((Addr.mk b5 0 none).add (Int.toNat s46.1 * 1)) = some (.int .i64 x64) ∧
                        CND ((x64 : Int) != 0) (
                          CND ((r49 : Int) == 2) (
                            J52 (true, ()) w50
                          ) (
                            CND ((x11 : Int) == 3) (
                              ((0 : Int) ≤ s46.1 ∧ (s46.1 : Int) < ((Int.toNat 60) : Nat)) ∧
                              ∃ x65 : Int, w50.cell? ((Addr.mk b5 0 none).add (Int.toNat s46.1 * 1)) = some (.int .i64 x65) ∧
                              CND ((x65 : Int) == 2) (
                                J52 ((r49 : Int) == 3, ()) w50
                              ) (
                                J52 (false, ()) w50
                              )
                            ) (
                              J52 (false, ()) w50
                            )
                          )
                        ) (
                          CND ((x11 : Int) == 3) (
                            ((0 : Int) ≤ s46.1 ∧ (s46.1 : Int) < ((Int.toNat 60) : Nat)) ∧
                            ∃ x66 : Int, w50.cell? ((Addr.mk b5 0 none).add (Int.toNat s46.1 * 1)) = some (.int .i64 x66) ∧
                            CND ((x66 : Int) == 2) (
                              J52 ((r49 : Int) == 3, ()) w50
                            ) (
                              J52 (false, ()) w50
                            )
                          ) (
                            J52 (false, ()) w50
                          )
                        )
                      ) (
                        CND ((x11 : Int) == 3) (
                          ((0 : Int) ≤ s46.1 ∧ (s46.1 : Int) < ((Int.toNat 60) : Nat)) ∧
                          ∃ x67 : Int, w50.cell? ((Addr.mk b5 0 none).add (Int.toNat s46.1 * 1)) = some (.int .i64 x67) ∧
                          CND ((x67 : Int) == 2) (
                            J52 ((r49 : Int) == 3, ()) w50
                          ) (
                            J52 (false, ()) w50
                          )
                        ) (
                          J52 (false, ()) w50
                        )
                      )
                    )
                  ) fun s53 _ w54 =>
                    CND (!s53.1) (
                      K false w54
                    ) (
                      ((0 : Int) ≤ s46.1 ∧ (s46.1 : Int) < ((Int.toNat 60) : Nat)) ∧
                      stCells ((Addr.mk b5 0 none).add (Int.toNat s46.1 * 1)) 0 [.int .i64 r49] w54 fun w68 =>
                      next48 (i64 (s46.1 + 1), ()) w68
                    )
                )
                ) w47
              ) (
                next9 (i64 (s7.1 + 1), ()) w47
              )
        ) (
          c_vmem_Mem_State r3 34359738368 (fun r69 w70 =>
          CND ((r69 : Int) == 0) (
            c_vmem_Mem_State r3 18446744073709551615 (fun r71 w72 =>
            CND ((r71 : Int) == 0) (
              c_mallowlaw3_awake  (fun r73 w74 =>
              K r73 w74
              ) w72
            ) (
              K false w72
            )
            ) w70
          ) (
            K false w70
          )
          ) w8
        )
    )
    ) w2
  )
  ) w

theorem tieZ9 (c_mallowlaw3_heavy : ∀ (a0_0 : SlV) (a0_1 : SlV) (a0_2 : SlV) (a1 : SlV) (K : Bool → World → Prop) (w : World), Prop) (c_vmem_New : ∀ (a0_0 : SlV) (a0_1 : SlV) (a0_2 : SlV) (K : (Option Addr) → World → Prop) (w : World), Prop) (c_vmem_Mem_Reserve : ∀ (a0 : (Option Addr)) (a1 : Int) (a2 : Int) (K : Int → Int → World → Prop) (w : World), Prop) (c_vmem_Mem_Commit : ∀ (a0 : (Option Addr)) (a1 : Int) (a2 : Int) (K : Int → World → Prop) (w : World), Prop) (c_vmem_Mem_Release : ∀ (a0 : (Option Addr)) (a1 : Int) (a2 : Int) (K : Int → World → Prop) (w : World), Prop) (c_vmem_Mem_Store : ∀ (a0 : (Option Addr)) (a1 : Int) (a2 : Int) (K : Int → World → Prop) (w : World), Prop) (c_vmem_Mem_Zero : ∀ (a0 : (Option Addr)) (a1 : Int) (a2 : Int) (K : Int → World → Prop) (w : World), Prop) (c_vmem_Mem_State : ∀ (a0 : (Option Addr)) (a1 : Int) (K : Int → World → Prop) (w : World), Prop) (c_mallowlaw3_awake : ∀ (K : Bool → World → Prop) (w : World), Prop) (x : ArgsV [.one (.sl)]) (K Kp : Value → World → Prop) (w : World) : T0.mallowlaw3_VmemStates env c_mallowlaw3_heavy c_vmem_New c_vmem_Mem_Reserve c_vmem_Mem_Commit c_vmem_Mem_Release c_vmem_Mem_Store c_vmem_Mem_Zero c_vmem_Mem_State c_mallowlaw3_awake x.1 (fun r1 w' => K (.bool r1) w') w =
    ev Go.Proofs.Try.prog (tabC [(20, fun args w K Kp => unArgs [.agg [.sl, .sl, .sl], .one (.sl)] args.toList fun x => c_mallowlaw3_heavy x.1.1 x.1.2.1 x.1.2.2.1 x.2.1 (fun r1 w' => K (.bool r1) w') w), (11, fun args w K Kp => unArgs [.agg [.sl, .sl, .sl]] args.toList fun x => c_vmem_New x.1.1 x.1.2.1 x.1.2.2.1 (fun r1 w' => K (.pointer r1) w') w), (12, fun args w K Kp => unArgs [.one (.ptr), .one (.int .u64), .one (.int .u64)] args.toList fun x => c_vmem_Mem_Reserve x.1 x.2.1 x.2.2.1 (fun r1 r2 w' => K (.tuple ⟨[.int .u64 r1, .int .i64 r2]⟩) w') w), (13, fun args w K Kp => unArgs [.one (.ptr), .one (.int .u64), .one (.int .u64)] args.toList fun x => c_vmem_Mem_Commit x.1 x.2.1 x.2.2.1 (fun r1 w' => K (.int .i64 r1) w') w), (15, fun args w K Kp => unArgs [.one (.ptr), .one (.int .u64), .one (.int .u64)] args.toList fun x => c_vmem_Mem_Release x.1 x.2.1 x.2.2.1 (fun r1 w' => K (.int .i64 r1) w') w), (18, fun args w K Kp => unArgs [.one (.ptr), .one (.int .u64), .one (.int .u64)] args.toList fun x => c_vmem_Mem_Store x.1 x.2.1 x.2.2.1 (fun r1 w' => K (.int .i64 r1) w') w), (25, fun args w K Kp => unArgs [.one (.ptr), .one (.int .u64), .one (.int .u64)] args.toList fun x => c_vmem_Mem_Zero x.1 x.2.1 x.2.2.1 (fun r1 w' => K (.int .i64 r1) w') w), (19, fun args w K Kp => unArgs [.one (.ptr), .one (.int .u64)] args.toList fun x => c_vmem_Mem_State x.1 x.2.1 (fun r1 w' => K (.int .i64 r1) w') w), (17, fun args w K Kp => unArgs [] args.toList fun x => c_mallowlaw3_awake  (fun r1 w' => K (.bool r1) w') w)]) (ground Go.Proofs.Try.prog) ann9 body9 (finQ Go.Proofs.Try.prog Go.Proofs.Try.f9 K Kp) (initF (mkArgs [.one (.sl)] x)) w := by kernel_rfl
theorem tie9 (x : ArgsV [.one (.sl)]) (K Kp : Value → World → Prop) (w : World) : F.mallowlaw3_VmemStates env x.1 (fun r1 w' => K (.bool r1) w') w =
    ev Go.Proofs.Try.prog (tabC [(20, C20), (11, C11), (12, C12), (13, C13), (15, C15), (18, C18), (25, C25), (19, C19), (17, C17)]) (ground Go.Proofs.Try.prog) ann9 body9 (finQ Go.Proofs.Try.prog Go.Proofs.Try.f9 K Kp) (initF (mkArgs [.one (.sl)] x)) w := tieZ9 (F.mallowlaw3_heavy env) (F.vmem_New env) (F.vmem_Mem_Reserve env) (F.vmem_Mem_Commit env) (F.vmem_Mem_Release env) (F.vmem_Mem_Store env) (F.vmem_Mem_Zero env) (F.vmem_Mem_State env) (F.mallowlaw3_awake env) x K Kp w
theorem fits9 : FitsOne Go.Proofs.Try.prog 9 C9 :=
  fits_of_tie (T := [(20, C20), (11, C11), (12, C12), (13, C13), (15, C15), (18, C18), (25, C25), (19, C19), (17, C17)]) (A := ann9) (fn := Go.Proofs.Try.f9) (c := body9) (fits_cons fits20 (fits_cons fits11 (fits_cons fits12 (fits_cons fits13 (fits_cons fits15 (fits_cons fits18 (fits_cons fits25 (fits_cons fits19 (fits_cons fits17 fits_nil))))))))) mixed Go.Proofs.Try.func9 Go.Proofs.Try.call9 (by kernel_rfl) (by kernel_rfl) (by kernel_rfl) tie9

/- F.mallowlaw3_VmemZeroes -/
noncomputable def C10 : Entry := fun args w K Kp => unArgs [.one (.int .u64), .one (.int .u64), .one (.int .u64)] args.toList fun x => F.mallowlaw3_VmemZeroes env x.1 x.2.1 x.2.2.1 (fun r1 w' => K (.bool r1) w') w
noncomputable def body10 : Code := (Go.Proofs.Try.f10.body).getD .skip
def ann10 : Ann := { loops := [(13, [(11, .one (.int .u64))])], joins := [(2, [(26, .one (.bool))]), (8, [(63, .one (.bool))]), (11, [(87, .one (.bool))]), (17, [(105, .one (.bool))]), (18, [(12, .one (.int .u64))]), (20, [(121, .one (.bool))])] }
def T0.mallowlaw3_VmemZeroes (E : Env) (c_vmem_New : ∀ (a0_0 : SlV) (a0_1 : SlV) (a0_2 : SlV) (K : (Option Addr) → World → Prop) (w : World), Prop) (c_vmem_Mem_Reserve : ∀ (a0 : (Option Addr)) (a1 : Int) (a2 : Int) (K : Int → Int → World → Prop) (w : World), Prop) (c_vmem_Mem_Commit : ∀ (a0 : (Option Addr)) (a1 : Int) (a2 : Int) (K : Int → World → Prop) (w : World), Prop) (c_vmem_Mem_Release : ∀ (a0 : (Option Addr)) (a1 : Int) (a2 : Int) (K : Int → World → Prop) (w : World), Prop) (c_vmem_Mem_Zero : ∀ (a0 : (Option Addr)) (a1 : Int) (a2 : Int) (K : Int → World → Prop) (w : World), Prop) (c_vmem_Mem_Load : ∀ (a0 : (Option Addr)) (a1 : Int) (K : Int → Int → World → Prop) (w : World), Prop) (c_mallowlaw3_awake : ∀ (K : Bool → World → Prop) (w : World), Prop) (a0 : Int) (a1 : Int) (a2 : Int) (K : Bool → World → Prop) (w : World) : Prop :=
  JOIN (Bool × Unit) (fun J1 =>
    CND (decide ((a1 : Int) > 3000)) (
      J1 (true, ()) w
    ) (
      CND (decide ((a2 : Int) > 3000)) (
        J1 (true, ()) w
      ) (
        J1 (decide (((u64 (a1 + a2)) : Int) > 4096), ()) w
      )
    )
  ) fun s2 _ w3 =>
    CND (s2.1) (
      K true w3
    ) (
      AL (.cells ⟨[.int .u64 a0, .int .u64 (u64 (a0 + 1)), .int .u64 (u64 (a0 + 2)), .int .u64 (u64 (a0 + 3))]⟩ E.t_uint64) w3 fun b4 w5 =>
      c_vmem_New ⟨none, 0, 0⟩ ⟨none, 0, 0⟩ ⟨(some (Addr.mk b4 0 none)), 4, 4⟩ (fun r6 w7 =>
      CND (r6.isNone) (
        K false w7
      ) (
        c_vmem_Mem_Reserve r6 0 512 (fun r8 r9 w10 =>
        JOIN (Bool × Unit) (fun J11 =>
          CND ((r9 : Int) != 0) (
            J11 (true, ()) w10
          ) (
            c_vmem_Mem_Commit r6 r8 4 (fun r14 w15 =>
            CND ((r14 : Int) != 0) (
              J11 (true, ()) w15
            ) (
              c_vmem_Mem_Release r6 r8 4 (fun r16 w17 =>
              CND ((r16 : Int) != 0) (
                J11 (true, ()) w17
              ) (
                c_vmem_Mem_Commit r6 r8 4 (fun r18 w19 =>
                J11 ((r18 : Int) != 0, ()) w19
                ) w17
              )
              ) w15
            )
            ) w10
          )
        ) fun s12 _ w13 =>
          CND (s12.1) (
            K false w13
          ) (
            JOIN (Bool × Unit) (fun J20 =>
              c_vmem_Mem_Zero r6 (u64 ((u64 (r8 * 8192)) + (u64 (8 * a1)))) (u64 (8 * a2)) (fun r23 w24 =>
              CND ((r23 : Int) != 0) (
                J20 (true, ()) w24
              ) (
                c_vmem_Mem_Zero r6 (u64 ((u64 (r8 * 8192)) + 4)) 8 (fun r25 w26 =>
                CND ((r25 : Int) != 11) (
                  J20 (true, ()) w26
                ) (
                  c_vmem_Mem_Zero r6 (u64 (r8 * 8192)) 40960 (fun r27 w28 =>
                  J20 ((r27 : Int) != 12, ()) w28
                  ) w26
                )
                ) w24
              )
              ) w13
            ) fun s21 _ w22 =>
              CND (s21.1) (
                K false w22
              ) (
                LOOP (Int × Unit) (0, ()) w22 fun s29 _ w30 next31 =>
                  CND (decide ((s29.1 : Int) < 4096)) (
                    1024 ≠ (0 : Int) ∧
                    LET (u64 (a0 + (u64 (Int.tdiv s29.1 1024))) : Int) fun want_32 =>
                    JOIN (Int × Unit) (fun J33 =>
                      JOIN (Bool × Unit) (fun J36 =>
                        CND (decide ((s29.1 : Int) ≥ a1)) (
                          J36 (decide ((s29.1 : Int) < (u64 (a1 + a2))), ()) w30
                        ) (
                          J36 (false, ()) w30
                        )
                      ) fun s37 _ w38 =>
                        CND (s37.1) (
                          J33 (0, ()) w38
                        ) (
                          J33 (want_32, ()) w38
                        )
                    ) fun s34 _ w35 =>
                      c_vmem_Mem_Load r6 (u64 ((u64 (r8 * 8192)) + (u64 (8 * s29.1)))) (fun r39 r40 w41 =>
                      JOIN (Bool × Unit) (fun J42 =>
                        CND ((r39 : Int) != s34.1) (
                          J42 (true, ()) w41
                        ) (
                          J42 ((r40 : Int) != 0, ()) w41
                        )
                      ) fun s43 _ w44 =>
                        CND (s43.1) (
                          K false w44
                        ) (
                          next31 (u64 (s29.1 + 1), ()) w44
                        )
                      ) w35
                  ) (
                    c_mallowlaw3_awake  (fun r45 w46 =>
                    K r45 w46
                    ) w30
                  )
              )
          )
        ) w7
      )
      ) w5
    )

theorem tieZ10 (c_vmem_New : ∀ (a0_0 : SlV) (a0_1 : SlV) (a0_2 : SlV) (K : (Option Addr) → World → Prop) (w : World), Prop) (c_vmem_Mem_Reserve : ∀ (a0 : (Option Addr)) (a1 : Int) (a2 : Int) (K : Int → Int → World → Prop) (w : World), Prop) (c_vmem_Mem_Commit : ∀ (a0 : (Option Addr)) (a1 : Int) (a2 : Int) (K : Int → World → Prop) (w : World), Prop) (c_vmem_Mem_Release : ∀ (a0 : (Option Addr)) (a1 : Int) (a2 : Int) (K : Int → World → Prop) (w : World), Prop) (c_vmem_Mem_Zero : ∀ (a0 : (Option Addr)) (a1 : Int) (a2 : Int) (K : Int → World → Prop) (w : World), Prop) (c_vmem_Mem_Load : ∀ (a0 : (Option Addr)) (a1 : Int) (K : Int → Int → World → Prop) (w : World), Prop) (c_mallowlaw3_awake : ∀ (K : Bool → World → Prop) (w : World), Prop) (x : ArgsV [.one (.int .u64), .one (.int .u64), .one (.int .u64)]) (K Kp : Value → World → Prop) (w : World) : T0.mallowlaw3_VmemZeroes env c_vmem_New c_vmem_Mem_Reserve c_vmem_Mem_Commit c_vmem_Mem_Release c_vmem_Mem_Zero c_vmem_Mem_Load c_mallowlaw3_awake x.1 x.2.1 x.2.2.1 (fun r1 w' => K (.bool r1) w') w =
    ev Go.Proofs.Try.prog (tabC [(11, fun args w K Kp => unArgs [.agg [.sl, .sl, .sl]] args.toList fun x => c_vmem_New x.1.1 x.1.2.1 x.1.2.2.1 (fun r1 w' => K (.pointer r1) w') w), (12, fun args w K Kp => unArgs [.one (.ptr), .one (.int .u64), .one (.int .u64)] args.toList fun x => c_vmem_Mem_Reserve x.1 x.2.1 x.2.2.1 (fun r1 r2 w' => K (.tuple ⟨[.int .u64 r1, .int .i64 r2]⟩) w') w), (13, fun args w K Kp => unArgs [.one (.ptr), .one (.int .u64), .one (.int .u64)] args.toList fun x => c_vmem_Mem_Commit x.1 x.2.1 x.2.2.1 (fun r1 w' => K (.int .i64 r1) w') w), (15, fun args w K Kp => unArgs [.one (.ptr), .one (.int .u64), .one (.int .u64)] args.toList fun x => c_vmem_Mem_Release x.1 x.2.1 x.2.2.1 (fun r1 w' => K (.int .i64 r1) w') w), (25, fun args w K Kp => unArgs [.one (.ptr), .one (.int .u64), .one (.int .u64)] args.toList fun x => c_vmem_Mem_Zero x.1 x.2.1 x.2.2.1 (fun r1 w' => K (.int .i64 r1) w') w), (14, fun args w K Kp => unArgs [.one (.ptr), .one (.int .u64)] args.toList fun x => c_vmem_Mem_Load x.1 x.2.1 (fun r1 r2 w' => K (.tuple ⟨[.int .u64 r1, .int .i64 r2]⟩) w') w), (17, fun args w K Kp => unArgs [] args.toList fun x => c_mallowlaw3_awake  (fun r1 w' => K (.bool r1) w') w)]) (ground Go.Proofs.Try.prog) ann10 body10 (finQ Go.Proofs.Try.prog Go.Proofs.Try.f10 K Kp) (initF (mkArgs [.one (.int .u64), .one (.int .u64), .one (.int .u64)] x)) w := by kernel_rfl
theorem tie10 (x : ArgsV [.one (.int .u64), .one (.int .u64), .one (.int .u64)]) (K Kp : Value → World → Prop) (w : World) : F.mallowlaw3_VmemZeroes env x.1 x.2.1 x.2.2.1 (fun r1 w' => K (.bool r1) w') w =
    ev Go.Proofs.Try.prog (tabC [(11, C11), (12, C12), (13, C13), (15, C15), (25, C25), (14, C14), (17, C17)]) (ground Go.Proofs.Try.prog) ann10 body10 (finQ Go.Proofs.Try.prog Go.Proofs.Try.f10 K Kp) (initF (mkArgs [.one (.int .u64), .one (.int .u64), .one (.int .u64)] x)) w := tieZ10 (F.vmem_New env) (F.vmem_Mem_Reserve env) (F.vmem_Mem_Commit env) (F.vmem_Mem_Release env) (F.vmem_Mem_Zero env) (F.vmem_Mem_Load env) (F.mallowlaw3_awake env) x K Kp w
theorem fits10 : FitsOne Go.Proofs.Try.prog 10 C10 :=
  fits_of_tie (T := [(11, C11), (12, C12), (13, C13), (15, C15), (25, C25), (14, C14), (17, C17)]) (A := ann10) (fn := Go.Proofs.Try.f10) (c := body10) (fits_cons fits11 (fits_cons fits12 (fits_cons fits13 (fits_cons fits15 (fits_cons fits25 (fits_cons fits14 (fits_cons fits17 fits_nil))))))) mixed Go.Proofs.Try.func10 Go.Proofs.Try.call10 (by kernel_rfl) (by kernel_rfl) (by kernel_rfl) tie10

/- F.stretch_Set_at_1 -/
noncomputable def C63 : Entry := fun args w K Kp => unArgs [.one (.int .i64), .one (.ptr), .one (.ptr)] args.toList fun x => F.stretch_Set_at_1 env x.1 x.2.1 x.2.2.1 (fun r1 w' => K (.bool r1) w') w
noncomputable def body63 : Code := (Go.Proofs.Try.f63.body).getD .skip
def ann63 : Ann := { loops := [], joins := [] }
theorem tie63 (x : ArgsV [.one (.int .i64), .one (.ptr), .one (.ptr)]) (K Kp : Value → World → Prop) (w : World) : F.stretch_Set_at_1 env x.1 x.2.1 x.2.2.1 (fun r1 w' => K (.bool r1) w') w =
    ev Go.Proofs.Try.prog (tabC []) (ground Go.Proofs.Try.prog) ann63 body63 (finQ Go.Proofs.Try.prog Go.Proofs.Try.f63 K Kp) (initF (mkArgs [.one (.int .i64), .one (.ptr), .one (.ptr)] x)) w := by kernel_rfl
theorem fits63 : FitsOne Go.Proofs.Try.prog 63 C63 :=
  fits_of_tie (T := []) (A := ann63) (fn := Go.Proofs.Try.f63) (c := body63) fits_nil mixed Go.Proofs.Try.func63 Go.Proofs.Try.call63 (by kernel_rfl) (by kernel_rfl) (by kernel_rfl) tie63

end Go.Sh

set_option linter.all false
namespace Go.Sh

theorem at1_mono {E : Env} {i : Int} {p1 p2 : Option Addr} {w : World} {K K' : Bool → World → Prop} (hk : ∀ b w', K b w' → K' b w') (h : F.stretch_Set_at_1 E i p1 p2 K w) : F.stretch_Set_at_1 E i p1 p2 K' w := by
  unfold F.stretch_Set_at_1 at h ⊢
  obtain ⟨q1, rfl, x2, h2, h⟩ := NC_elim h
  obtain ⟨q3, rfl, x4, h4, h⟩ := NC_elim h
  obtain ⟨q5, h5, hi, x6, h6, h⟩ := NC_elim h
  obtain ⟨q7, rfl, x8, h8, h⟩ := NC_elim h
  refine ⟨some q3, h2, x4, h4, ?_⟩
  rw [h5]
  exact ⟨hi, x6, h6, x8, h8, hk _ _ h⟩

theorem ground_mono {P : Program} (g : FuncId) (args : Array Value) (w : World) (K K' : Value → World → Prop) (hk : ∀ v w', K v w' → K' v w') (h : ground P g args w K noP) : ground P g args w K' noP :=
  ⟨h.1, h.2.mono fun e w' hE => let ⟨v, hv, h⟩ := hE.val; .inl ⟨v, hv, hk v w' h⟩⟩

end Go.Sh

set_option linter.all false
namespace Go.Sh
open Go.Proofs

theorem envS : EnvS env where
  at1 := by
    intro i p1 p2 K w h
    refine ⟨(fits63 #[.int .i64 i, .pointer p1, .pointer p2] w (fun v w' => ∃ b, v = .bool b ∧ K b w') noP ?_).1, (fits63 #[.int .i64 i, .pointer p1, .pointer p2] w (fun v w' => ∃ b, v = .bool b ∧ K b w') noP ?_).2⟩ <;>
    exact (show F.stretch_Set_at_1 env i p1 p2 (fun b w' => ∃ b', Value.bool b = .bool b' ∧ K b' w') w from at1_mono (fun b w' h => ⟨b, rfl, h⟩) h)
  mono := ground_mono

end Go.Sh
