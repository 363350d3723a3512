/- The shallow forms of the functions, printed by a program. No further condition. -/
import Derived.Test.YtelbllakgljffaaSh
set_option linter.all false
set_option maxRecDepth 100000
namespace Go.Sh

structure Env where
  call : Calling
  t_uint64 : Nat
  t_bool : Nat
  t_api_Answers : Nat
  t_vmem_Mem : Nat
  t__stretch_Set : Nat
  t_stretch_One : Nat
  t_vmem_fault : Nat
  t_api_Errno : Nat
  t__1024_uint64 : Nat
  t_mallowref3_Mem : Nat
  t_mallowref3_Page : Nat
  t_mallowref3_Word : Nat
  t_mallowlaw3_Act : Nat
  t_int : Nat
  f_stretch_Set_at_1 : Nat

def F.slices_Clone___uint64_uint64_ (E : Env) (a0 : SlV) (K : SlV → World → Prop) (w : World) : Prop :=
  CND (a0.base.isNone) (
    K ⟨none, 0, 0⟩ w
  ) (
    AL (.cells ⟨[]⟩ E.t_uint64) w fun b1 w2 =>
    APP E.t_uint64 1 8 #[.int .u64 0] ⟨(some (Addr.mk b1 0 none)), 0, 0⟩ a0 w2 fun s3 w4 =>
    K s3 w4
  )

def F.slices_Clone___bool_bool_ (E : Env) (a0 : SlV) (K : SlV → World → Prop) (w : World) : Prop :=
  CND (a0.base.isNone) (
    K ⟨none, 0, 0⟩ w
  ) (
    AL (.cells ⟨[]⟩ E.t_bool) w fun b1 w2 =>
    APP E.t_bool 1 1 #[.bool false] ⟨(some (Addr.mk b1 0 none)), 0, 0⟩ a0 w2 fun s3 w4 =>
    K s3 w4
  )

def F.vmem_New (E : Env) (a0_0 : SlV) (a0_1 : SlV) (a0_2 : SlV) (K : (Option Addr) → World → Prop) (w : World) : Prop :=
  AL (.cells #[.slice a0_0.base a0_0.len a0_0.cap, .slice a0_1.base a0_1.len a0_1.cap, .slice a0_2.base a0_2.len a0_2.cap] E.t_api_Answers) w fun b1 w2 =>
  ∃ x3 : SlV, w2.drew.cell? (Addr.mk b1 0 none) = some (.slice x3.base x3.len x3.cap) ∧
  ∃ x4 : SlV, w2.drew.cell? ((Addr.mk b1 0 none).add 1) = some (.slice x4.base x4.len x4.cap) ∧
  ∃ x5 : SlV, w2.drew.cell? ((Addr.mk b1 0 none).add 2) = some (.slice x5.base x5.len x5.cap) ∧
  (
    F.slices_Clone___uint64_uint64_ E x3 (fun r6 w7 =>
    w7.cell? ((Addr.mk b1 0 none).add 2) = some (.slice x5.base x5.len x5.cap) ∧
    w7.cell? ((Addr.mk b1 0 none).add 1) = some (.slice x4.base x4.len x4.cap) ∧
    (
      F.slices_Clone___bool_bool_ E x4 (fun r8 w9 =>
      w9.cell? ((Addr.mk b1 0 none).add 2) = some (.slice x5.base x5.len x5.cap) ∧
      (
        F.slices_Clone___uint64_uint64_ E x5 (fun r10 w11 =>
        (
          AL (.map #[] 0) w11 fun b12 w13 =>
          AL (.map #[] 0) w13 fun b14 w15 =>
          AL (.cells #[.slice r6.base r6.len r6.cap, .slice r8.base r8.len r8.cap, .slice r10.base r10.len r10.cap, .slice none 0 0, .int .u64 0, .slice none 0 0, .int .u64 0, .slice none 0 0, .int .u64 0, .map (some b12), .map (some b14)] E.t_vmem_Mem) w15 fun b16 w17 =>
          K (some (Addr.mk b16 0 none)) w17

        ) ∧ (
          AL (.map #[] 0) w11 fun b18 w19 =>
          AL (.map #[] 0) w19 fun b20 w21 =>
          AL (.cells #[.slice r6.base r6.len r6.cap, .slice r8.base r8.len r8.cap, .slice r10.base r10.len r10.cap, .slice none 0 0, .int .u64 0, .slice none 0 0, .int .u64 0, .slice none 0 0, .int .u64 0, .map (some b20), .map (some b18)] E.t_vmem_Mem) w21 fun b22 w23 =>
          K (some (Addr.mk b22 0 none)) w23
        )
        ) w9

      ) ∧ (
        AL (.map #[] 0) w9 fun b24 w25 =>
        w25.cell? ((Addr.mk b1 0 none).add 2) = some (.slice x5.base x5.len x5.cap) ∧
        (
          F.slices_Clone___uint64_uint64_ E x5 (fun r26 w27 =>
          AL (.map #[] 0) w27 fun b28 w29 =>
          AL (.cells #[.slice r6.base r6.len r6.cap, .slice r8.base r8.len r8.cap, .slice r26.base r26.len r26.cap, .slice none 0 0, .int .u64 0, .slice none 0 0, .int .u64 0, .slice none 0 0, .int .u64 0, .map (some b24), .map (some b28)] E.t_vmem_Mem) w29 fun b30 w31 =>
          K (some (Addr.mk b30 0 none)) w31
          ) w25

        ) ∧ (
          AL (.map #[] 0) w25 fun b32 w33 =>
          w33.cell? ((Addr.mk b1 0 none).add 2) = some (.slice x5.base x5.len x5.cap) ∧
          F.slices_Clone___uint64_uint64_ E x5 (fun r34 w35 =>
          AL (.cells #[.slice r6.base r6.len r6.cap, .slice r8.base r8.len r8.cap, .slice r34.base r34.len r34.cap, .slice none 0 0, .int .u64 0, .slice none 0 0, .int .u64 0, .slice none 0 0, .int .u64 0, .map (some b24), .map (some b32)] E.t_vmem_Mem) w35 fun b36 w37 =>
          K (some (Addr.mk b36 0 none)) w37
          ) w33
        )

      ) ∧ (
        AL (.map #[] 0) w9 fun b38 w39 =>
        w39.cell? ((Addr.mk b1 0 none).add 2) = some (.slice x5.base x5.len x5.cap) ∧
        (
          F.slices_Clone___uint64_uint64_ E x5 (fun r40 w41 =>
          AL (.map #[] 0) w41 fun b42 w43 =>
          AL (.cells #[.slice r6.base r6.len r6.cap, .slice r8.base r8.len r8.cap, .slice r40.base r40.len r40.cap, .slice none 0 0, .int .u64 0, .slice none 0 0, .int .u64 0, .slice none 0 0, .int .u64 0, .map (some b42), .map (some b38)] E.t_vmem_Mem) w43 fun b44 w45 =>
          K (some (Addr.mk b44 0 none)) w45
          ) w39

        ) ∧ (
          AL (.map #[] 0) w39 fun b46 w47 =>
          w47.cell? ((Addr.mk b1 0 none).add 2) = some (.slice x5.base x5.len x5.cap) ∧
          F.slices_Clone___uint64_uint64_ E x5 (fun r48 w49 =>
          AL (.cells #[.slice r6.base r6.len r6.cap, .slice r8.base r8.len r8.cap, .slice r48.base r48.len r48.cap, .slice none 0 0, .int .u64 0, .slice none 0 0, .int .u64 0, .slice none 0 0, .int .u64 0, .map (some b46), .map (some b38)] E.t_vmem_Mem) w49 fun b50 w51 =>
          K (some (Addr.mk b50 0 none)) w51
          ) w47
        )
      )
      ) w7

    ) ∧ (
      AL (.map #[] 0) w7 fun b52 w53 =>
      w53.cell? ((Addr.mk b1 0 none).add 2) = some (.slice x5.base x5.len x5.cap) ∧
      w53.cell? ((Addr.mk b1 0 none).add 1) = some (.slice x4.base x4.len x4.cap) ∧
      (
        F.slices_Clone___bool_bool_ E x4 (fun r54 w55 =>
        w55.cell? ((Addr.mk b1 0 none).add 2) = some (.slice x5.base x5.len x5.cap) ∧
        (
          F.slices_Clone___uint64_uint64_ E x5 (fun r56 w57 =>
          AL (.map #[] 0) w57 fun b58 w59 =>
          AL (.cells #[.slice r6.base r6.len r6.cap, .slice r54.base r54.len r54.cap, .slice r56.base r56.len r56.cap, .slice none 0 0, .int .u64 0, .slice none 0 0, .int .u64 0, .slice none 0 0, .int .u64 0, .map (some b52), .map (some b58)] E.t_vmem_Mem) w59 fun b60 w61 =>
          K (some (Addr.mk b60 0 none)) w61
          ) w55

        ) ∧ (
          AL (.map #[] 0) w55 fun b62 w63 =>
          w63.cell? ((Addr.mk b1 0 none).add 2) = some (.slice x5.base x5.len x5.cap) ∧
          F.slices_Clone___uint64_uint64_ E x5 (fun r64 w65 =>
          AL (.cells #[.slice r6.base r6.len r6.cap, .slice r54.base r54.len r54.cap, .slice r64.base r64.len r64.cap, .slice none 0 0, .int .u64 0, .slice none 0 0, .int .u64 0, .slice none 0 0, .int .u64 0, .map (some b52), .map (some b62)] E.t_vmem_Mem) w65 fun b66 w67 =>
          K (some (Addr.mk b66 0 none)) w67
          ) w63
        )
        ) w53

      ) ∧ (
        AL (.map #[] 0) w53 fun b68 w69 =>
        w69.cell? ((Addr.mk b1 0 none).add 2) = some (.slice x5.base x5.len x5.cap) ∧
        w69.cell? ((Addr.mk b1 0 none).add 1) = some (.slice x4.base x4.len x4.cap) ∧
        F.slices_Clone___bool_bool_ E x4 (fun r70 w71 =>
        w71.cell? ((Addr.mk b1 0 none).add 2) = some (.slice x5.base x5.len x5.cap) ∧
        F.slices_Clone___uint64_uint64_ E x5 (fun r72 w73 =>
        AL (.cells #[.slice r6.base r6.len r6.cap, .slice r70.base r70.len r70.cap, .slice r72.base r72.len r72.cap, .slice none 0 0, .int .u64 0, .slice none 0 0, .int .u64 0, .slice none 0 0, .int .u64 0, .map (some b52), .map (some b68)] E.t_vmem_Mem) w73 fun b74 w75 =>
        K (some (Addr.mk b74 0 none)) w75
        ) w71
        ) w69
      )

    ) ∧ (
      AL (.map #[] 0) w7 fun b76 w77 =>
      w77.cell? ((Addr.mk b1 0 none).add 2) = some (.slice x5.base x5.len x5.cap) ∧
      w77.cell? ((Addr.mk b1 0 none).add 1) = some (.slice x4.base x4.len x4.cap) ∧
      (
        F.slices_Clone___bool_bool_ E x4 (fun r78 w79 =>
        w79.cell? ((Addr.mk b1 0 none).add 2) = some (.slice x5.base x5.len x5.cap) ∧
        (
          F.slices_Clone___uint64_uint64_ E x5 (fun r80 w81 =>
          AL (.map #[] 0) w81 fun b82 w83 =>
          AL (.cells #[.slice r6.base r6.len r6.cap, .slice r78.base r78.len r78.cap, .slice r80.base r80.len r80.cap, .slice none 0 0, .int .u64 0, .slice none 0 0, .int .u64 0, .slice none 0 0, .int .u64 0, .map (some b82), .map (some b76)] E.t_vmem_Mem) w83 fun b84 w85 =>
          K (some (Addr.mk b84 0 none)) w85
          ) w79

        ) ∧ (
          AL (.map #[] 0) w79 fun b86 w87 =>
          w87.cell? ((Addr.mk b1 0 none).add 2) = some (.slice x5.base x5.len x5.cap) ∧
          F.slices_Clone___uint64_uint64_ E x5 (fun r88 w89 =>
          AL (.cells #[.slice r6.base r6.len r6.cap, .slice r78.base r78.len r78.cap, .slice r88.base r88.len r88.cap, .slice none 0 0, .int .u64 0, .slice none 0 0, .int .u64 0, .slice none 0 0, .int .u64 0, .map (some b86), .map (some b76)] E.t_vmem_Mem) w89 fun b90 w91 =>
          K (some (Addr.mk b90 0 none)) w91
          ) w87
        )
        ) w77

      ) ∧ (
        AL (.map #[] 0) w77 fun b92 w93 =>
        w93.cell? ((Addr.mk b1 0 none).add 2) = some (.slice x5.base x5.len x5.cap) ∧
        w93.cell? ((Addr.mk b1 0 none).add 1) = some (.slice x4.base x4.len x4.cap) ∧
        F.slices_Clone___bool_bool_ E x4 (fun r94 w95 =>
        w95.cell? ((Addr.mk b1 0 none).add 2) = some (.slice x5.base x5.len x5.cap) ∧
        F.slices_Clone___uint64_uint64_ E x5 (fun r96 w97 =>
        AL (.cells #[.slice r6.base r6.len r6.cap, .slice r94.base r94.len r94.cap, .slice r96.base r96.len r96.cap, .slice none 0 0, .int .u64 0, .slice none 0 0, .int .u64 0, .slice none 0 0, .int .u64 0, .map (some b92), .map (some b76)] E.t_vmem_Mem) w97 fun b98 w99 =>
        K (some (Addr.mk b98 0 none)) w99
        ) w95
        ) w93
      )
    )
    ) w2.drew

  ) ∧ (
    AL (.map #[] 0) w2.drew fun b100 w101 =>
    w101.cell? ((Addr.mk b1 0 none).add 2) = some (.slice x5.base x5.len x5.cap) ∧
    w101.cell? ((Addr.mk b1 0 none).add 1) = some (.slice x4.base x4.len x4.cap) ∧
    w101.cell? (Addr.mk b1 0 none) = some (.slice x3.base x3.len x3.cap) ∧
    (
      F.slices_Clone___uint64_uint64_ E x3 (fun r102 w103 =>
      w103.cell? ((Addr.mk b1 0 none).add 2) = some (.slice x5.base x5.len x5.cap) ∧
      w103.cell? ((Addr.mk b1 0 none).add 1) = some (.slice x4.base x4.len x4.cap) ∧
      (
        F.slices_Clone___bool_bool_ E x4 (fun r104 w105 =>
        w105.cell? ((Addr.mk b1 0 none).add 2) = some (.slice x5.base x5.len x5.cap) ∧
        (
          F.slices_Clone___uint64_uint64_ E x5 (fun r106 w107 =>
          AL (.map #[] 0) w107 fun b108 w109 =>
          AL (.cells #[.slice r102.base r102.len r102.cap, .slice r104.base r104.len r104.cap, .slice r106.base r106.len r106.cap, .slice none 0 0, .int .u64 0, .slice none 0 0, .int .u64 0, .slice none 0 0, .int .u64 0, .map (some b100), .map (some b108)] E.t_vmem_Mem) w109 fun b110 w111 =>
          K (some (Addr.mk b110 0 none)) w111
          ) w105

        ) ∧ (
          AL (.map #[] 0) w105 fun b112 w113 =>
          w113.cell? ((Addr.mk b1 0 none).add 2) = some (.slice x5.base x5.len x5.cap) ∧
          F.slices_Clone___uint64_uint64_ E x5 (fun r114 w115 =>
          AL (.cells #[.slice r102.base r102.len r102.cap, .slice r104.base r104.len r104.cap, .slice r114.base r114.len r114.cap, .slice none 0 0, .int .u64 0, .slice none 0 0, .int .u64 0, .slice none 0 0, .int .u64 0, .map (some b100), .map (some b112)] E.t_vmem_Mem) w115 fun b116 w117 =>
          K (some (Addr.mk b116 0 none)) w117
          ) w113
        )
        ) w103

      ) ∧ (
        AL (.map #[] 0) w103 fun b118 w119 =>
        w119.cell? ((Addr.mk b1 0 none).add 2) = some (.slice x5.base x5.len x5.cap) ∧
        w119.cell? ((Addr.mk b1 0 none).add 1) = some (.slice x4.base x4.len x4.cap) ∧
        F.slices_Clone___bool_bool_ E x4 (fun r120 w121 =>
        w121.cell? ((Addr.mk b1 0 none).add 2) = some (.slice x5.base x5.len x5.cap) ∧
        F.slices_Clone___uint64_uint64_ E x5 (fun r122 w123 =>
        AL (.cells #[.slice r102.base r102.len r102.cap, .slice r120.base r120.len r120.cap, .slice r122.base r122.len r122.cap, .slice none 0 0, .int .u64 0, .slice none 0 0, .int .u64 0, .slice none 0 0, .int .u64 0, .map (some b100), .map (some b118)] E.t_vmem_Mem) w123 fun b124 w125 =>
        K (some (Addr.mk b124 0 none)) w125
        ) w121
        ) w119
      )
      ) w101

    ) ∧ (
      AL (.map #[] 0) w101 fun b126 w127 =>
      w127.cell? ((Addr.mk b1 0 none).add 2) = some (.slice x5.base x5.len x5.cap) ∧
      w127.cell? ((Addr.mk b1 0 none).add 1) = some (.slice x4.base x4.len x4.cap) ∧
      w127.cell? (Addr.mk b1 0 none) = some (.slice x3.base x3.len x3.cap) ∧
      F.slices_Clone___uint64_uint64_ E x3 (fun r128 w129 =>
      w129.cell? ((Addr.mk b1 0 none).add 2) = some (.slice x5.base x5.len x5.cap) ∧
      w129.cell? ((Addr.mk b1 0 none).add 1) = some (.slice x4.base x4.len x4.cap) ∧
      F.slices_Clone___bool_bool_ E x4 (fun r130 w131 =>
      w131.cell? ((Addr.mk b1 0 none).add 2) = some (.slice x5.base x5.len x5.cap) ∧
      F.slices_Clone___uint64_uint64_ E x5 (fun r132 w133 =>
      AL (.cells #[.slice r128.base r128.len r128.cap, .slice r130.base r130.len r130.cap, .slice r132.base r132.len r132.cap, .slice none 0 0, .int .u64 0, .slice none 0 0, .int .u64 0, .slice none 0 0, .int .u64 0, .map (some b100), .map (some b126)] E.t_vmem_Mem) w133 fun b134 w135 =>
      K (some (Addr.mk b134 0 none)) w135
      ) w131
      ) w129
      ) w127
    )

  ) ∧ (
    AL (.map #[] 0) w2.drew fun b136 w137 =>
    w137.cell? ((Addr.mk b1 0 none).add 2) = some (.slice x5.base x5.len x5.cap) ∧
    w137.cell? ((Addr.mk b1 0 none).add 1) = some (.slice x4.base x4.len x4.cap) ∧
    w137.cell? (Addr.mk b1 0 none) = some (.slice x3.base x3.len x3.cap) ∧
    (
      F.slices_Clone___uint64_uint64_ E x3 (fun r138 w139 =>
      w139.cell? ((Addr.mk b1 0 none).add 2) = some (.slice x5.base x5.len x5.cap) ∧
      w139.cell? ((Addr.mk b1 0 none).add 1) = some (.slice x4.base x4.len x4.cap) ∧
      (
        F.slices_Clone___bool_bool_ E x4 (fun r140 w141 =>
        w141.cell? ((Addr.mk b1 0 none).add 2) = some (.slice x5.base x5.len x5.cap) ∧
        (
          F.slices_Clone___uint64_uint64_ E x5 (fun r142 w143 =>
          AL (.map #[] 0) w143 fun b144 w145 =>
          AL (.cells #[.slice r138.base r138.len r138.cap, .slice r140.base r140.len r140.cap, .slice r142.base r142.len r142.cap, .slice none 0 0, .int .u64 0, .slice none 0 0, .int .u64 0, .slice none 0 0, .int .u64 0, .map (some b144), .map (some b136)] E.t_vmem_Mem) w145 fun b146 w147 =>
          K (some (Addr.mk b146 0 none)) w147
          ) w141

        ) ∧ (
          AL (.map #[] 0) w141 fun b148 w149 =>
          w149.cell? ((Addr.mk b1 0 none).add 2) = some (.slice x5.base x5.len x5.cap) ∧
          F.slices_Clone___uint64_uint64_ E x5 (fun r150 w151 =>
          AL (.cells #[.slice r138.base r138.len r138.cap, .slice r140.base r140.len r140.cap, .slice r150.base r150.len r150.cap, .slice none 0 0, .int .u64 0, .slice none 0 0, .int .u64 0, .slice none 0 0, .int .u64 0, .map (some b148), .map (some b136)] E.t_vmem_Mem) w151 fun b152 w153 =>
          K (some (Addr.mk b152 0 none)) w153
          ) w149
        )
        ) w139

      ) ∧ (
        AL (.map #[] 0) w139 fun b154 w155 =>
        w155.cell? ((Addr.mk b1 0 none).add 2) = some (.slice x5.base x5.len x5.cap) ∧
        w155.cell? ((Addr.mk b1 0 none).add 1) = some (.slice x4.base x4.len x4.cap) ∧
        F.slices_Clone___bool_bool_ E x4 (fun r156 w157 =>
        w157.cell? ((Addr.mk b1 0 none).add 2) = some (.slice x5.base x5.len x5.cap) ∧
        F.slices_Clone___uint64_uint64_ E x5 (fun r158 w159 =>
        AL (.cells #[.slice r138.base r138.len r138.cap, .slice r156.base r156.len r156.cap, .slice r158.base r158.len r158.cap, .slice none 0 0, .int .u64 0, .slice none 0 0, .int .u64 0, .slice none 0 0, .int .u64 0, .map (some b154), .map (some b136)] E.t_vmem_Mem) w159 fun b160 w161 =>
        K (some (Addr.mk b160 0 none)) w161
        ) w157
        ) w155
      )
      ) w137

    ) ∧ (
      AL (.map #[] 0) w137 fun b162 w163 =>
      w163.cell? ((Addr.mk b1 0 none).add 2) = some (.slice x5.base x5.len x5.cap) ∧
      w163.cell? ((Addr.mk b1 0 none).add 1) = some (.slice x4.base x4.len x4.cap) ∧
      w163.cell? (Addr.mk b1 0 none) = some (.slice x3.base x3.len x3.cap) ∧
      F.slices_Clone___uint64_uint64_ E x3 (fun r164 w165 =>
      w165.cell? ((Addr.mk b1 0 none).add 2) = some (.slice x5.base x5.len x5.cap) ∧
      w165.cell? ((Addr.mk b1 0 none).add 1) = some (.slice x4.base x4.len x4.cap) ∧
      F.slices_Clone___bool_bool_ E x4 (fun r166 w167 =>
      w167.cell? ((Addr.mk b1 0 none).add 2) = some (.slice x5.base x5.len x5.cap) ∧
      F.slices_Clone___uint64_uint64_ E x5 (fun r168 w169 =>
      AL (.cells #[.slice r164.base r164.len r164.cap, .slice r166.base r166.len r166.cap, .slice r168.base r168.len r168.cap, .slice none 0 0, .int .u64 0, .slice none 0 0, .int .u64 0, .slice none 0 0, .int .u64 0, .map (some b162), .map (some b136)] E.t_vmem_Mem) w169 fun b170 w171 =>
      K (some (Addr.mk b170 0 none)) w171
      ) w167
      ) w165
      ) w163
    )
  )

def F.vmem_used_bool_ (E : Env) (a0 : (Option Addr)) (K : Bool → Bool → World → Prop) (w : World) : Prop :=
  NC a0 fun p1 =>
  ∃ x2 : SlV, w.cell? p1 = some (.slice x2.base x2.len x2.cap) ∧
  CND (decide ((((x2.len : Nat) : Int) : Int) > 0)) (
    NC a0 fun p3 =>
    ∃ x4 : SlV, w.cell? p3 = some (.slice x4.base x4.len x4.cap) ∧
    NC x4.base fun p5 =>
    ((0 : Int) ≤ 0 ∧ (0 : Int) < (x4.len : Nat)) ∧
    ∃ x6 : Bool, w.cell? (p5.add (Int.toNat 0 * 1)) = some (.bool x6) ∧
    NC a0 fun p7 =>
    ∃ x8 : SlV, w.cell? p7 = some (.slice x8.base x8.len x8.cap) ∧
    ((0 : Int) ≤ 1 ∧ (1 : Int) ≤ (x8.len : Nat)) ∧
    NC a0 fun p9 =>
    stCells p9 0 [.slice (slB x8.base x8.cap (Int.toNat 1) 1) (x8.len - (Int.toNat 1)) (x8.cap - (Int.toNat 1))] w fun w10 =>
    K x6 true w10
  ) (
    K false false w
  )

def F.vmem_used_uint64_ (E : Env) (a0 : (Option Addr)) (K : Int → Bool → World → Prop) (w : World) : Prop :=
  NC a0 fun p1 =>
  ∃ x2 : SlV, w.cell? p1 = some (.slice x2.base x2.len x2.cap) ∧
  CND (decide ((((x2.len : Nat) : Int) : Int) > 0)) (
    NC a0 fun p3 =>
    ∃ x4 : SlV, w.cell? p3 = some (.slice x4.base x4.len x4.cap) ∧
    NC x4.base fun p5 =>
    ((0 : Int) ≤ 0 ∧ (0 : Int) < (x4.len : Nat)) ∧
    ∃ x6 : Int, w.cell? (p5.add (Int.toNat 0 * 1)) = some (.int .u64 x6) ∧
    NC a0 fun p7 =>
    ∃ x8 : SlV, w.cell? p7 = some (.slice x8.base x8.len x8.cap) ∧
    ((0 : Int) ≤ 1 ∧ (1 : Int) ≤ (x8.len : Nat)) ∧
    NC a0 fun p9 =>
    stCells p9 0 [.slice (slB x8.base x8.cap (Int.toNat 1) 1) (x8.len - (Int.toNat 1)) (x8.cap - (Int.toNat 1))] w fun w10 =>
    K x6 true w10
  ) (
    K 0 false w
  )

def F.sort_Search (E : Env) (a0 : Int) (a1 : Value) (K : Int → World → Prop) (w : World) : Prop :=
  LOOP (Int × Int × Unit) (0, a0, ()) w fun s1 _ w2 next3 =>
    CND (decide ((s1.1 : Int) < s1.2.1)) (
      (0 : Int) ≤ 1 ∧
      LET (i64 (Int.fdiv (u64 (i64 (s1.1 + s1.2.1))) (2 ^ (min (Int.toNat 1) (IntKind.bits .u64)))) : Int) fun h_4 =>
      DYN E.call a1 #[.int .i64 h_4] w2 fun r5 w6 =>
      ∃ x7 : Bool, r5 = .bool x7 ∧
      CND (!x7) (
        next3 (i64 (h_4 + 1), s1.2.1, ()) w6
      ) (
        next3 (s1.1, h_4, ()) w6
      )
    ) (
      K s1.1 w2
    )

def F.stretch_Set_at (E : Env) (a0 : (Option Addr)) (a1 : Int) (K : Int → World → Prop) (w : World) : Prop :=
  AL (.cells #[.pointer a0] E.t__stretch_Set) w fun b1 w2 =>
  AL (.cells #[.int .u64 a1] E.t_uint64) w2 fun b3 w4 =>
  ∃ x5 : (Option Addr), w4.cell? (Addr.mk b1 0 none) = some (.pointer x5) ∧
  NC x5 fun p6 =>
  ∃ x7 : SlV, w4.cell? p6 = some (.slice x7.base x7.len x7.cap) ∧
  F.sort_Search E ((x7.len : Nat) : Int) (.func (.func E.f_stretch_Set_at_1) #[] #[.pointer (some (Addr.mk b1 0 none)), .pointer (some (Addr.mk b3 0 none))]) (fun r8 w9 =>
  K r8 w9
  ) w4

def F.stretch_Set_Count (E : Env) (a0 : (Option Addr)) (a1 : Int) (a2 : Int) (K : Int → World → Prop) (w : World) : Prop :=
  F.stretch_Set_at E a0 a1 (fun r1 w2 =>
  LOOP (Int × Int × Unit) (0, r1, ()) w2 fun s3 _ w4 next5 =>
    NC a0 fun p6 =>
    ∃ x7 : SlV, w4.cell? p6 = some (.slice x7.base x7.len x7.cap) ∧
    CND (decide ((s3.2.1 : Int) < ((x7.len : Nat) : Int))) (
      NC a0 fun p8 =>
      ∃ x9 : SlV, w4.cell? p8 = some (.slice x9.base x9.len x9.cap) ∧
      NC x9.base fun p10 =>
      ((0 : Int) ≤ s3.2.1 ∧ (s3.2.1 : Int) < (x9.len : Nat)) ∧
      ∃ x11 : Int, w4.cell? (p10.add (Int.toNat s3.2.1 * 2)) = some (.int .u64 x11) ∧
      CND (decide ((x11 : Int) < a2)) (
        NC a0 fun p12 =>
        ∃ x13 : SlV, w4.drew.cell? p12 = some (.slice x13.base x13.len x13.cap) ∧
        NC x13.base fun p14 =>
        ((0 : Int) ≤ s3.2.1 ∧ (s3.2.1 : Int) < (x13.len : Nat)) ∧
        ∃ x15 : Int, w4.drew.cell? ((p14.add (Int.toNat s3.2.1 * 2)).add 1) = some (.int .u64 x15) ∧
        NC a0 fun p16 =>
        ∃ x17 : SlV, w4.drew.cell? p16 = some (.slice x17.base x17.len x17.cap) ∧
        NC x17.base fun p18 =>
        ((0 : Int) ≤ s3.2.1 ∧ (s3.2.1 : Int) < (x17.len : Nat)) ∧
        ∃ x19 : Int, w4.drew.cell? (p18.add (Int.toNat s3.2.1 * 2)) = some (.int .u64 x19) ∧
        LET (u64 (s3.1 + (u64 ((minI x15 a2) - (maxI x19 a1)))) : Int) fun n_20 =>
        next5 (n_20, i64 (s3.2.1 + 1), ()) w4.drew
      ) (
        K s3.1 w4
      )
    ) (
      K s3.1 w4
    )
  ) w

def F.vmem_Mem_fits (E : Env) (a0 : (Option Addr)) (a1 : Int) (a2 : Int) (K : Bool → World → Prop) (w : World) : Prop :=
  512 ≠ (0 : Int) ∧
  CND (((Int.tmod a1 512) : Int) == 0) (
    CND ((a1 : Int) != 0) (
      CND (decide ((a1 : Int) ≤ 34359738368)) (
        CND (decide ((a2 : Int) ≤ (u64 (34359738368 - a1)))) (
          NC a0 fun p1 =>
          F.stretch_Set_Count E (some (p1.add 3)) a1 (u64 (a1 + a2)) (fun r2 w3 =>
          K ((r2 : Int) == 0) w3
          ) w
        ) (
          K false w
        )
      ) (
        K false w
      )
    ) (
      K false w
    )
  ) (
    K false w
  )

def F.stretch_Set_All (E : Env) (a0 : (Option Addr)) (K : SlV → World → Prop) (w : World) : Prop :=
  NC a0 fun p1 =>
  ∃ x2 : SlV, w.cell? p1 = some (.slice x2.base x2.len x2.cap) ∧
  K x2 w

def F.vmem_Mem_place (E : Env) (a0 : (Option Addr)) (a1 : Int) (a2 : Int) (K : Int → Bool → World → Prop) (w : World) : Prop :=
  CND (decide ((a1 : Int) > 34359738368)) (
    K 0 false w
  ) (
    512 ≠ (0 : Int) ∧
    LET (maxI (u64 ((u64 (Int.tdiv (u64 ((u64 (a1 + 512)) - 1)) 512)) * 512)) 512 : Int) fun at_1 =>
    JOIN (Int × Unit) (fun J2 =>
      NC a0 fun p5 =>
      F.stretch_Set_All E (some (p5.add 3)) (fun r6 w7 =>
      LOOP (Int × Int × Unit) (at_1, 0, ()) w7 fun s8 _ w9 next10 =>
        CND (decide ((s8.2.1 : Int) < ((r6.len : Nat) : Int))) (
          NC r6.base fun p11 =>
          ((0 : Int) ≤ s8.2.1 ∧ (s8.2.1 : Int) < (r6.len : Nat)) ∧
          ∃ c12 : Int, w9.cell? ((p11.add (Int.toNat s8.2.1 * 2)).add 0) = some (.int .u64 c12) ∧
          ∃ c13 : Int, w9.cell? ((p11.add (Int.toNat s8.2.1 * 2)).add 1) = some (.int .u64 c13) ∧
          AL (.cells #[.int .u64 0, .int .u64 0] E.t_stretch_One) w9 fun b14 w15 =>
          stCells (Addr.mk b14 0 none) 0 [.int .u64 c12, .int .u64 c13] w15 fun w16 =>
          ∃ x17 : Int, w16.cell? ((Addr.mk b14 0 none).add 1) = some (.int .u64 x17) ∧
          CND (decide ((x17 : Int) ≤ s8.1)) (
            next10 (s8.1, i64 (s8.2.1 + 1), ()) w16
          ) (
            JOIN (Unit) (fun J18 =>
              ∃ x21 : Int, w16.cell? (Addr.mk b14 0 none) = some (.int .u64 x21) ∧
              CND (decide ((x21 : Int) ≥ s8.1)) (
                ∃ x22 : Int, w16.cell? (Addr.mk b14 0 none) = some (.int .u64 x22) ∧
                CND (decide (((u64 (x22 - s8.1)) : Int) ≥ a2)) (
                  J2 (s8.1, ()) w16
                ) (
                  J18 (()) w16
                )
              ) (
                J18 (()) w16
              )
            ) fun s19 _ w20 =>
              ∃ x23 : Int, w20.cell? ((Addr.mk b14 0 none).add 1) = some (.int .u64 x23) ∧
              512 ≠ (0 : Int) ∧
              LET (u64 ((u64 (Int.tdiv (u64 ((u64 (x23 + 512)) - 1)) 512)) * 512) : Int) fun at_24 =>
              next10 (at_24, i64 (s8.2.1 + 1), ()) w20
          )
        ) (
          J2 (s8.1, ()) w9
        )
      ) w
    ) fun s3 _ w4 =>
      F.vmem_Mem_fits E a0 s3.1 a2 (fun r25 w26 =>
      K s3.1 r25 w26
      ) w4
  )

def F.stretch_Set_Cut (E : Env) (a0 : (Option Addr)) (a1 : Int) (a2 : Int) (K : World → Prop) (w : World) : Prop :=
  CND (decide ((a1 : Int) ≥ a2)) (
    K  w
  ) (
    NC a0 fun p1 =>
    ∃ x2 : Int, w.drew.cell? (p1.add 1) = some (.int .u64 x2) ∧
    F.stretch_Set_Count E a0 a1 a2 (fun r3 w4 =>
    w4.cell? (p1.add 1) = some (.int .u64 x2) ∧
    NC a0 fun p5 =>
    stCells (p5.add 1) 0 [.int .u64 (u64 (x2 - r3))] w4 fun w6 =>
    F.stretch_Set_at E a0 a1 (fun r7 w8 =>
    JOIN (Int × SlV × Unit) (fun J9 =>
      LOOP (Int × SlV × Unit) (r7, ⟨none, 0, 0⟩, ()) w8 fun s12 _ w13 next14 =>
        NC a0 fun p15 =>
        ∃ x16 : SlV, w13.cell? p15 = some (.slice x16.base x16.len x16.cap) ∧
        CND (decide ((s12.1 : Int) < ((x16.len : Nat) : Int))) (
          NC a0 fun p17 =>
          ∃ x18 : SlV, w13.cell? p17 = some (.slice x18.base x18.len x18.cap) ∧
          NC x18.base fun p19 =>
          ((0 : Int) ≤ s12.1 ∧ (s12.1 : Int) < (x18.len : Nat)) ∧
          ∃ x20 : Int, w13.cell? (p19.add (Int.toNat s12.1 * 2)) = some (.int .u64 x20) ∧
          CND (decide ((x20 : Int) < a2)) (
            NC a0 fun p21 =>
            ∃ x22 : SlV, w13.cell? p21 = some (.slice x22.base x22.len x22.cap) ∧
            NC x22.base fun p23 =>
            ((0 : Int) ≤ s12.1 ∧ (s12.1 : Int) < (x22.len : Nat)) ∧
            ∃ c24 : Int, w13.cell? ((p23.add (Int.toNat s12.1 * 2)).add 0) = some (.int .u64 c24) ∧
            ∃ c25 : Int, w13.cell? ((p23.add (Int.toNat s12.1 * 2)).add 1) = some (.int .u64 c25) ∧
            AL (.cells #[.int .u64 0, .int .u64 0] E.t_stretch_One) w13 fun b26 w27 =>
            stCells (Addr.mk b26 0 none) 0 [.int .u64 c24, .int .u64 c25] w27 fun w28 =>
            JOIN (SlV × Unit) (fun J29 =>
              ∃ x32 : Int, w28.cell? (Addr.mk b26 0 none) = some (.int .u64 x32) ∧
              CND (decide ((x32 : Int) < a1)) (
                ∃ x33 : Int, w28.cell? (Addr.mk b26 0 none) = some (.int .u64 x33) ∧
                AL (.cells ⟨[.int .u64 x33, .int .u64 a1]⟩ E.t_stretch_One) w28 fun b34 w35 =>
                APP E.t_stretch_One 2 16 #[.int .u64 0, .int .u64 0] s12.2.1 ⟨(some (Addr.mk b34 0 none)), 1, 1⟩ w35 fun s36 w37 =>
                J29 (s36, ()) w37
              ) (
                J29 (s12.2.1, ()) w28
              )
            ) fun s30 _ w31 =>
              ∃ x38 : Int, w31.cell? ((Addr.mk b26 0 none).add 1) = some (.int .u64 x38) ∧
              CND (decide ((x38 : Int) > a2)) (
                ∃ x39 : Int, w31.cell? ((Addr.mk b26 0 none).add 1) = some (.int .u64 x39) ∧
                AL (.cells ⟨[.int .u64 a2, .int .u64 x39]⟩ E.t_stretch_One) w31 fun b40 w41 =>
                APP E.t_stretch_One 2 16 #[.int .u64 0, .int .u64 0] s30.1 ⟨(some (Addr.mk b40 0 none)), 1, 1⟩ w41 fun s42 w43 =>
                next14 (i64 (s12.1 + 1), s42, ()) w43
              ) (
                next14 (i64 (s12.1 + 1), s30.1, ()) w31
              )
          ) (
            J9 (s12.1, s12.2.1, ()) w13
          )
        ) (
          J9 (s12.1, s12.2.1, ()) w13
        )
    ) fun s10 _ w11 =>
      NC a0 fun p44 =>
      ∃ x45 : SlV, w11.drew.cell? p44 = some (.slice x45.base x45.len x45.cap) ∧
      ((0 : Int) ≤ r7 ∧ (r7 : Int) ≤ (x45.cap : Nat)) ∧
      NC a0 fun p46 =>
      ∃ x47 : SlV, w11.drew.cell? p46 = some (.slice x47.base x47.len x47.cap) ∧
      ((0 : Int) ≤ s10.1 ∧ (s10.1 : Int) ≤ (x47.len : Nat)) ∧
      AL (.cells ⟨[]⟩ E.t_stretch_One) w11.drew fun b48 w49 =>
      w49.cell? p46 = some (.slice x47.base x47.len x47.cap) ∧
      w49.cell? p44 = some (.slice x45.base x45.len x45.cap) ∧
      APP E.t_stretch_One 2 16 #[.int .u64 0, .int .u64 0] ⟨(some (Addr.mk b48 0 none)), 0, 0⟩ ⟨(slB x45.base x45.cap 0 2), (Int.toNat r7), x45.cap⟩ w49 fun s50 w51 =>
      w51.cell? p46 = some (.slice x47.base x47.len x47.cap) ∧
      w51.cell? p44 = some (.slice x45.base x45.len x45.cap) ∧
      APP E.t_stretch_One 2 16 #[.int .u64 0, .int .u64 0] s50 s10.2.1 w51 fun s52 w53 =>
      w53.cell? p46 = some (.slice x47.base x47.len x47.cap) ∧
      w53.cell? p44 = some (.slice x45.base x45.len x45.cap) ∧
      APP E.t_stretch_One 2 16 #[.int .u64 0, .int .u64 0] s52 ⟨(slB x47.base x47.cap (Int.toNat s10.1) 2), (x47.len - (Int.toNat s10.1)), (x47.cap - (Int.toNat s10.1))⟩ w53 fun s54 w55 =>
      w55.cell? p46 = some (.slice x47.base x47.len x47.cap) ∧
      w55.cell? p44 = some (.slice x45.base x45.len x45.cap) ∧
      NC a0 fun p56 =>
      stCells p56 0 [.slice s54.base s54.len s54.cap] w55 fun w57 =>
      K  w57
    ) w6
    ) w.drew
  )

def F.stretch_Set_Add (E : Env) (a0 : (Option Addr)) (a1 : Int) (a2 : Int) (K : World → Prop) (w : World) : Prop :=
  CND (decide ((a1 : Int) ≥ a2)) (
    K  w
  ) (
    F.stretch_Set_Cut E a0 a1 a2 (fun  w1 =>
    NC a0 fun p2 =>
    ∃ x3 : Int, w1.cell? (p2.add 1) = some (.int .u64 x3) ∧
    NC a0 fun p4 =>
    stCells (p4.add 1) 0 [.int .u64 (u64 (x3 + (u64 (a2 - a1))))] w1 fun w5 =>
    F.stretch_Set_at E a0 a1 (fun r6 w7 =>
    AL (.cells #[.int .u64 0, .int .u64 0] E.t_stretch_One) w7 fun b8 w9 =>
    stCells (Addr.mk b8 0 none) 0 [.int .u64 a1, .int .u64 a2] w9 fun w10 =>
    JOIN (Int × Unit) (fun J11 =>
      JOIN (Bool × Unit) (fun J14 =>
        NC a0 fun p17 =>
        ∃ x18 : SlV, w10.cell? p17 = some (.slice x18.base x18.len x18.cap) ∧
        CND (decide ((r6 : Int) < ((x18.len : Nat) : Int))) (
          NC a0 fun p19 =>
          ∃ x20 : SlV, w10.cell? p19 = some (.slice x20.base x20.len x20.cap) ∧
          NC x20.base fun p21 =>
          ((0 : Int) ≤ r6 ∧ (r6 : Int) < (x20.len : Nat)) ∧
          ∃ x22 : Int, w10.cell? (p21.add (Int.toNat r6 * 2)) = some (.int .u64 x22) ∧
          J14 ((x22 : Int) == a2, ()) w10
        ) (
          J14 (false, ()) w10
        )
      ) fun s15 _ w16 =>
        CND (s15.1) (
          NC a0 fun p23 =>
          ∃ x24 : SlV, w16.cell? p23 = some (.slice x24.base x24.len x24.cap) ∧
          NC x24.base fun p25 =>
          ((0 : Int) ≤ r6 ∧ (r6 : Int) < (x24.len : Nat)) ∧
          ∃ x26 : Int, w16.cell? ((p25.add (Int.toNat r6 * 2)).add 1) = some (.int .u64 x26) ∧
          stCells ((Addr.mk b8 0 none).add 1) 0 [.int .u64 x26] w16 fun w27 =>
          J11 (i64 (r6 + 1), ()) w27
        ) (
          J11 (r6, ()) w16
        )
    ) fun s12 _ w13 =>
      JOIN (Int × Unit) (fun J28 =>
        JOIN (Bool × Unit) (fun J31 =>
          CND (decide ((r6 : Int) > 0)) (
            NC a0 fun p34 =>
            ∃ x35 : SlV, w13.cell? p34 = some (.slice x35.base x35.len x35.cap) ∧
            NC x35.base fun p36 =>
            ((0 : Int) ≤ (i64 (r6 - 1)) ∧ ((i64 (r6 - 1)) : Int) < (x35.len : Nat)) ∧
            ∃ x37 : Int, w13.cell? ((p36.add (Int.toNat (i64 (r6 - 1)) * 2)).add 1) = some (.int .u64 x37) ∧
            J31 ((x37 : Int) == a1, ()) w13
          ) (
            J31 (false, ()) w13
          )
        ) fun s32 _ w33 =>
          CND (s32.1) (
            NC a0 fun p38 =>
            ∃ x39 : SlV, w33.cell? p38 = some (.slice x39.base x39.len x39.cap) ∧
            NC x39.base fun p40 =>
            ((0 : Int) ≤ (i64 (r6 - 1)) ∧ ((i64 (r6 - 1)) : Int) < (x39.len : Nat)) ∧
            ∃ x41 : Int, w33.cell? (p40.add (Int.toNat (i64 (r6 - 1)) * 2)) = some (.int .u64 x41) ∧
            stCells (Addr.mk b8 0 none) 0 [.int .u64 x41] w33 fun w42 =>
            J28 (i64 (r6 - 1), ()) w42
          ) (
            J28 (r6, ()) w33
          )
      ) fun s29 _ w30 =>
        NC a0 fun p43 =>
        ∃ x44 : SlV, w30.drew.cell? p43 = some (.slice x44.base x44.len x44.cap) ∧
        ((0 : Int) ≤ s29.1 ∧ (s29.1 : Int) ≤ (x44.cap : Nat)) ∧
        ∃ c45 : Int, w30.drew.cell? ((Addr.mk b8 0 none).add 0) = some (.int .u64 c45) ∧
        ∃ c46 : Int, w30.drew.cell? ((Addr.mk b8 0 none).add 1) = some (.int .u64 c46) ∧
        NC a0 fun p47 =>
        ∃ x48 : SlV, w30.drew.cell? p47 = some (.slice x48.base x48.len x48.cap) ∧
        ((0 : Int) ≤ s12.1 ∧ (s12.1 : Int) ≤ (x48.len : Nat)) ∧
        (
          AL (.cells ⟨[]⟩ E.t_stretch_One) w30.drew fun b49 w50 =>
          w50.cell? p47 = some (.slice x48.base x48.len x48.cap) ∧
          (w50.cell? ((Addr.mk b8 0 none).add 0) = some (.int .u64 c45) ∧ (w50.cell? ((Addr.mk b8 0 none).add 1) = some (.int .u64 c46) ∧ True)) ∧
          w50.cell? p43 = some (.slice x44.base x44.len x44.cap) ∧
          (
            APP E.t_stretch_One 2 16 #[.int .u64 0, .int .u64 0] ⟨(some (Addr.mk b49 0 none)), 0, 0⟩ ⟨(slB x44.base x44.cap 0 2), (Int.toNat s29.1), x44.cap⟩ w50 fun s51 w52 =>
            w52.cell? p47 = some (.slice x48.base x48.len x48.cap) ∧
            (w52.cell? ((Addr.mk b8 0 none).add 0) = some (.int .u64 c45) ∧ (w52.cell? ((Addr.mk b8 0 none).add 1) = some (.int .u64 c46) ∧ True)) ∧
            w52.cell? p43 = some (.slice x44.base x44.len x44.cap) ∧
            AL (.cells ⟨[.int .u64 c45, .int .u64 c46]⟩ E.t_stretch_One) w52 fun b53 w54 =>
            w54.cell? p47 = some (.slice x48.base x48.len x48.cap) ∧
            w54.cell? p43 = some (.slice x44.base x44.len x44.cap) ∧
            APP E.t_stretch_One 2 16 #[.int .u64 0, .int .u64 0] s51 ⟨(some (Addr.mk b53 0 none)), 1, 1⟩ w54 fun s55 w56 =>
            w56.cell? p47 = some (.slice x48.base x48.len x48.cap) ∧
            w56.cell? p43 = some (.slice x44.base x44.len x44.cap) ∧
            APP E.t_stretch_One 2 16 #[.int .u64 0, .int .u64 0] s55 ⟨(slB x48.base x48.cap (Int.toNat s12.1) 2), (x48.len - (Int.toNat s12.1)), (x48.cap - (Int.toNat s12.1))⟩ w56 fun s57 w58 =>
            w58.cell? p47 = some (.slice x48.base x48.len x48.cap) ∧
            w58.cell? p43 = some (.slice x44.base x44.len x44.cap) ∧
            NC a0 fun p59 =>
            stCells p59 0 [.slice s57.base s57.len s57.cap] w58 fun w60 =>
            K  w60

          ) ∧ (
            AL (.cells ⟨[.int .u64 c45, .int .u64 c46]⟩ E.t_stretch_One) w50 fun b61 w62 =>
            w62.cell? p47 = some (.slice x48.base x48.len x48.cap) ∧
            w62.cell? p43 = some (.slice x44.base x44.len x44.cap) ∧
            APP E.t_stretch_One 2 16 #[.int .u64 0, .int .u64 0] ⟨(some (Addr.mk b49 0 none)), 0, 0⟩ ⟨(slB x44.base x44.cap 0 2), (Int.toNat s29.1), x44.cap⟩ w62 fun s63 w64 =>
            w64.cell? p47 = some (.slice x48.base x48.len x48.cap) ∧
            w64.cell? p43 = some (.slice x44.base x44.len x44.cap) ∧
            APP E.t_stretch_One 2 16 #[.int .u64 0, .int .u64 0] s63 ⟨(some (Addr.mk b61 0 none)), 1, 1⟩ w64 fun s65 w66 =>
            w66.cell? p47 = some (.slice x48.base x48.len x48.cap) ∧
            w66.cell? p43 = some (.slice x44.base x44.len x44.cap) ∧
            APP E.t_stretch_One 2 16 #[.int .u64 0, .int .u64 0] s65 ⟨(slB x48.base x48.cap (Int.toNat s12.1) 2), (x48.len - (Int.toNat s12.1)), (x48.cap - (Int.toNat s12.1))⟩ w66 fun s67 w68 =>
            w68.cell? p47 = some (.slice x48.base x48.len x48.cap) ∧
            w68.cell? p43 = some (.slice x44.base x44.len x44.cap) ∧
            NC a0 fun p69 =>
            stCells p69 0 [.slice s67.base s67.len s67.cap] w68 fun w70 =>
            K  w70
          )

        ) ∧ (
          AL (.cells ⟨[.int .u64 c45, .int .u64 c46]⟩ E.t_stretch_One) w30.drew fun b71 w72 =>
          w72.cell? p47 = some (.slice x48.base x48.len x48.cap) ∧
          w72.cell? p43 = some (.slice x44.base x44.len x44.cap) ∧
          AL (.cells ⟨[]⟩ E.t_stretch_One) w72 fun b73 w74 =>
          w74.cell? p47 = some (.slice x48.base x48.len x48.cap) ∧
          w74.cell? p43 = some (.slice x44.base x44.len x44.cap) ∧
          APP E.t_stretch_One 2 16 #[.int .u64 0, .int .u64 0] ⟨(some (Addr.mk b73 0 none)), 0, 0⟩ ⟨(slB x44.base x44.cap 0 2), (Int.toNat s29.1), x44.cap⟩ w74 fun s75 w76 =>
          w76.cell? p47 = some (.slice x48.base x48.len x48.cap) ∧
          w76.cell? p43 = some (.slice x44.base x44.len x44.cap) ∧
          APP E.t_stretch_One 2 16 #[.int .u64 0, .int .u64 0] s75 ⟨(some (Addr.mk b71 0 none)), 1, 1⟩ w76 fun s77 w78 =>
          w78.cell? p47 = some (.slice x48.base x48.len x48.cap) ∧
          w78.cell? p43 = some (.slice x44.base x44.len x44.cap) ∧
          APP E.t_stretch_One 2 16 #[.int .u64 0, .int .u64 0] s77 ⟨(slB x48.base x48.cap (Int.toNat s12.1) 2), (x48.len - (Int.toNat s12.1)), (x48.cap - (Int.toNat s12.1))⟩ w78 fun s79 w80 =>
          w80.cell? p47 = some (.slice x48.base x48.len x48.cap) ∧
          w80.cell? p43 = some (.slice x44.base x44.len x44.cap) ∧
          NC a0 fun p81 =>
          stCells p81 0 [.slice s79.base s79.len s79.cap] w80 fun w82 =>
          K  w82
        )
    ) w5
    ) w
  )

def F.vmem_Mem_Reserve (E : Env) (a0 : (Option Addr)) (a1 : Int) (a2 : Int) (K : Int → Int → World → Prop) (w : World) : Prop :=
  JOIN (Bool × Unit) (fun J1 =>
    CND ((a2 : Int) == 0) (
      J1 (true, ()) w
    ) (
      512 ≠ (0 : Int) ∧
      CND (((Int.tmod a2 512) : Int) != 0) (
        J1 (true, ()) w
      ) (
        J1 (decide ((a2 : Int) > 134217728), ()) w
      )
    )
  ) fun s2 _ w3 =>
    CND (s2.1) (
      K 0 1 w3
    ) (
      NC a0 fun p4 =>
      F.vmem_used_bool_ E (some (p4.add 1)) (fun r5 r6 w7 =>
      CND (r5) (
        K 0 13 w7
      ) (
        NC a0 fun p8 =>
        F.vmem_used_uint64_ E (some p8) (fun r9 r10 w11 =>
        JOIN (Bool × Unit) (fun J12 =>
          CND (r10) (
            F.vmem_Mem_fits E a0 r9 a2 (fun r15 w16 =>
            J12 (r15, ()) w16
            ) w11
          ) (
            J12 (false, ()) w11
          )
        ) fun s13 _ w14 =>
          AL (.cells ⟨[.int .u64 a1, .int .u64 0]⟩ E.t_uint64) w14 fun b17 w18 =>
          LOOP (Int × Bool × Int × Unit) (r9, s13.1, 0, ()) w18 fun s19 _ w20 next21 =>
            CND (decide ((s19.2.2.1 : Int) < 2)) (
              ((0 : Int) ≤ s19.2.2.1 ∧ (s19.2.2.1 : Int) < (2 : Nat)) ∧
              ∃ x22 : Int, w20.cell? ((Addr.mk b17 0 none).add (Int.toNat s19.2.2.1 * 1)) = some (.int .u64 x22) ∧
              CND (!s19.2.1) (
                F.vmem_Mem_place E a0 x22 a2 (fun r23 r24 w25 =>
                next21 (r23, r24, i64 (s19.2.2.1 + 1), ()) w25
                ) w20
              ) (
                next21 (s19.1, s19.2.1, i64 (s19.2.2.1 + 1), ()) w20
              )
            ) (
              CND (!s19.2.1) (
                K 0 13 w20
              ) (
                NC a0 fun p26 =>
                F.stretch_Set_Add E (some (p26.add 3)) s19.1 (u64 (s19.1 + a2)) (fun  w27 =>
                K s19.1 0 w27
                ) w20
              )
            )
        ) w7
      )
      ) w3
    )

def F.vmem_right (E : Env) (a0 : Int) (a1 : Int) (K : Bool → World → Prop) (w : World) : Prop :=
  CND ((a1 : Int) != 0) (
    CND (decide ((a0 : Int) ≤ 34359738368)) (
      K (decide ((a1 : Int) ≤ (u64 (34359738368 - a0)))) w
    ) (
      K false w
    )
  ) (
    K false w
  )

def F.stretch_Set_Within (E : Env) (a0 : (Option Addr)) (a1 : Int) (a2 : Int) (K : SlV → World → Prop) (w : World) : Prop :=
  F.stretch_Set_at E a0 a1 (fun r1 w2 =>
  LOOP (SlV × Int × Unit) (⟨none, 0, 0⟩, r1, ()) w2 fun s3 _ w4 next5 =>
    NC a0 fun p6 =>
    ∃ x7 : SlV, w4.cell? p6 = some (.slice x7.base x7.len x7.cap) ∧
    CND (decide ((s3.2.1 : Int) < ((x7.len : Nat) : Int))) (
      NC a0 fun p8 =>
      ∃ x9 : SlV, w4.cell? p8 = some (.slice x9.base x9.len x9.cap) ∧
      NC x9.base fun p10 =>
      ((0 : Int) ≤ s3.2.1 ∧ (s3.2.1 : Int) < (x9.len : Nat)) ∧
      ∃ x11 : Int, w4.cell? (p10.add (Int.toNat s3.2.1 * 2)) = some (.int .u64 x11) ∧
      CND (decide ((x11 : Int) < a2)) (
        NC a0 fun p12 =>
        ∃ x13 : SlV, w4.drew.cell? p12 = some (.slice x13.base x13.len x13.cap) ∧
        NC x13.base fun p14 =>
        ((0 : Int) ≤ s3.2.1 ∧ (s3.2.1 : Int) < (x13.len : Nat)) ∧
        ∃ x15 : Int, w4.drew.cell? (p14.add (Int.toNat s3.2.1 * 2)) = some (.int .u64 x15) ∧
        NC a0 fun p16 =>
        ∃ x17 : SlV, w4.drew.cell? p16 = some (.slice x17.base x17.len x17.cap) ∧
        NC x17.base fun p18 =>
        ((0 : Int) ≤ s3.2.1 ∧ (s3.2.1 : Int) < (x17.len : Nat)) ∧
        ∃ x19 : Int, w4.drew.cell? ((p18.add (Int.toNat s3.2.1 * 2)).add 1) = some (.int .u64 x19) ∧
        AL (.cells ⟨[.int .u64 (maxI x15 a1), .int .u64 (minI x19 a2)]⟩ E.t_stretch_One) w4.drew fun b20 w21 =>
        w21.cell? ((p18.add (Int.toNat s3.2.1 * 2)).add 1) = some (.int .u64 x19) ∧
        w21.cell? p16 = some (.slice x17.base x17.len x17.cap) ∧
        w21.cell? (p14.add (Int.toNat s3.2.1 * 2)) = some (.int .u64 x15) ∧
        w21.cell? p12 = some (.slice x13.base x13.len x13.cap) ∧
        APP E.t_stretch_One 2 16 #[.int .u64 0, .int .u64 0] s3.1 ⟨(some (Addr.mk b20 0 none)), 1, 1⟩ w21 fun s22 w23 =>
        w23.cell? ((p18.add (Int.toNat s3.2.1 * 2)).add 1) = some (.int .u64 x19) ∧
        w23.cell? p16 = some (.slice x17.base x17.len x17.cap) ∧
        w23.cell? (p14.add (Int.toNat s3.2.1 * 2)) = some (.int .u64 x15) ∧
        w23.cell? p12 = some (.slice x13.base x13.len x13.cap) ∧
        next5 (s22, i64 (s3.2.1 + 1), ()) w23
      ) (
        K s3.1 w4
      )
    ) (
      K s3.1 w4
    )
  ) w

def F.vmem_Mem_Commit (E : Env) (a0 : (Option Addr)) (a1 : Int) (a2 : Int) (K : Int → World → Prop) (w : World) : Prop :=
  F.vmem_right E a1 a2 (fun r1 w2 =>
  CND (!r1) (
    K 1 w2
  ) (
    NC a0 fun p3 =>
    F.stretch_Set_Count E (some (p3.add 3)) a1 (u64 (a1 + a2)) (fun r4 w5 =>
    CND ((r4 : Int) != a2) (
      K 33 w5
    ) (
      NC a0 fun p6 =>
      F.stretch_Set_Count E (some (p6.add 5)) a1 (u64 (a1 + a2)) (fun r7 w8 =>
      CND ((r7 : Int) == a2) (
        K 0 w8
      ) (
        NC a0 fun p9 =>
        F.vmem_used_bool_ E (some (p9.add 1)) (fun r10 r11 w12 =>
        CND (r10) (
          K 13 w12
        ) (
          JOIN (Unit) (fun J13 =>
            NC a0 fun p16 =>
            F.stretch_Set_Within E (some (p16.add 7)) a1 (u64 (a1 + a2)) (fun r17 w18 =>
            LOOP (Int × Unit) (0, ()) w18 fun s19 _ w20 next21 =>
              CND (decide ((s19.1 : Int) < ((r17.len : Nat) : Int))) (
                NC r17.base fun p22 =>
                ((0 : Int) ≤ s19.1 ∧ (s19.1 : Int) < (r17.len : Nat)) ∧
                ∃ c23 : Int, w20.cell? ((p22.add (Int.toNat s19.1 * 2)).add 0) = some (.int .u64 c23) ∧
                ∃ c24 : Int, w20.cell? ((p22.add (Int.toNat s19.1 * 2)).add 1) = some (.int .u64 c24) ∧
                AL (.cells #[.int .u64 0, .int .u64 0] E.t_stretch_One) w20 fun b25 w26 =>
                stCells (Addr.mk b25 0 none) 0 [.int .u64 c23, .int .u64 c24] w26 fun w27 =>
                ∃ x28 : Int, w27.cell? (Addr.mk b25 0 none) = some (.int .u64 x28) ∧
                LOOP (Int × Unit) (x28, ()) w27 fun s29 _ w30 next31 =>
                  ∃ x32 : Int, w30.cell? ((Addr.mk b25 0 none).add 1) = some (.int .u64 x32) ∧
                  CND (decide ((s29.1 : Int) < x32)) (
                    NC a0 fun p33 =>
                    ∃ x34 : SlV, w30.cell? (p33.add 2) = some (.slice x34.base x34.len x34.cap) ∧
                    CND ((((x34.len : Nat) : Int) : Int) == 0) (
                      J13 (()) w30
                    ) (
                      NC a0 fun p35 =>
                      F.vmem_used_uint64_ E (some (p35.add 2)) (fun r36 r37 w38 =>
                      CND ((r36 : Int) != 0) (
                        NC a0 fun p39 =>
                        ∃ x40 : (Option Nat), w38.cell? (p39.add 9) = some (.map x40) ∧
                        MUPD .u64 s29.1 (.int .u64 r36) x40 w38 fun w41 =>
                        next31 (u64 (s29.1 + 1), ()) w41
                      ) (
                        next31 (u64 (s29.1 + 1), ()) w38
                      )
                      ) w30
                    )
                  ) (
                    next21 (i64 (s19.1 + 1), ()) w30
                  )
              ) (
                J13 (()) w20
              )
            ) w12
          ) fun s14 _ w15 =>
            NC a0 fun p42 =>
            F.stretch_Set_Cut E (some (p42.add 7)) a1 (u64 (a1 + a2)) (fun  w43 =>
            NC a0 fun p44 =>
            F.stretch_Set_Add E (some (p44.add 5)) a1 (u64 (a1 + a2)) (fun  w45 =>
            K 0 w45
            ) w43
            ) w15
        )
        ) w8
      )
      ) w5
    )
    ) w2
  )
  ) w

def F.stretch_Set_Has (E : Env) (a0 : (Option Addr)) (a1 : Int) (K : Bool → World → Prop) (w : World) : Prop :=
  F.stretch_Set_at E a0 a1 (fun r1 w2 =>
  NC a0 fun p3 =>
  ∃ x4 : SlV, w2.cell? p3 = some (.slice x4.base x4.len x4.cap) ∧
  CND (decide ((r1 : Int) < ((x4.len : Nat) : Int))) (
    NC a0 fun p5 =>
    ∃ x6 : SlV, w2.cell? p5 = some (.slice x6.base x6.len x6.cap) ∧
    NC x6.base fun p7 =>
    ((0 : Int) ≤ r1 ∧ (r1 : Int) < (x6.len : Nat)) ∧
    ∃ x8 : Int, w2.cell? (p7.add (Int.toNat r1 * 2)) = some (.int .u64 x8) ∧
    K (decide ((x8 : Int) ≤ a1)) w2
  ) (
    K false w2
  )
  ) w

def F.vmem_Mem_at (E : Env) (a0 : (Option Addr)) (a1 : Int) (K : Int → Int → World → Prop) (Kp : Value → World → Prop) (w : World) : Prop :=
  8192 ≠ (0 : Int) ∧
  8 ≠ (0 : Int) ∧
  CND (((Int.tmod a1 8) : Int) != 0) (
    Kp (.iface E.t_vmem_fault (.agg ⟨[.int .i64 11]⟩)) w
  ) (
    NC a0 fun p1 =>
    F.stretch_Set_Has E (some (p1.add 5)) (u64 (Int.tdiv a1 8192)) (fun r2 w3 =>
    CND (!r2) (
      Kp (.iface E.t_vmem_fault (.agg ⟨[.int .i64 12]⟩)) w3
    ) (
      8192 ≠ (0 : Int) ∧
      8 ≠ (0 : Int) ∧
      LET (u64 (Int.tdiv (Int.tmod a1 8192) 8) : Int) fun t4 =>
      K (u64 (Int.tdiv a1 8192)) t4 w3
    )
    ) w
  )

def F.vmem_caught (E : Env) (a0 : (Option Addr)) (x0 : Value) (K : World → Prop) (w : World) : Prop :=
  isIf x0 = true ∧
  CND (isNilI x0) (
    K  w
  ) (
    TAS x0 E.t_vmem_fault (.agg ⟨[.int .i64 0]⟩) fun v1 b2 =>
    unVT (.agg [.int .i64]) v1 fun x3 =>
    CND (b2) (
      AL (.cells #[.int .i64 0] E.t_vmem_fault) w fun b4 w5 =>
      stCells (Addr.mk b4 0 none) 0 [.int .i64 x3.1] w5 fun w6 =>
      ∃ x7 : Int, w6.cell? (Addr.mk b4 0 none) = some (.int .i64 x7) ∧
      NC a0 fun p8 =>
      stCells p8 0 [.int .i64 x7] w6 fun w9 =>
      K  w9
    ) (
      PAN x0 (
      False
      )
    )
  )

def F.vmem_Mem_Load (E : Env) (a0 : (Option Addr)) (a1 : Int) (K : Int → Int → World → Prop) (w : World) : Prop :=
  AL (.cells #[.int .i64 0] E.t_api_Errno) w fun b1 w2 =>
  F.vmem_Mem_at E a0 a1 (fun r3 r4 w5 =>
  NC a0 fun p6 =>
  ∃ x7 : (Option Nat), w5.cell? (p6.add 10) = some (.map x7) ∧
  LKP .u64 r3 x7 w5 (.pointer none) fun v8 ok9 es10 =>
  ∃ x11 : (Option Addr), v8 = .pointer x11 ∧
  CND (!x11.isNone) (
    NC x11 fun p12 =>
    ((0 : Int) ≤ r4 ∧ (r4 : Int) < (1024 : Nat)) ∧
    ∃ x13 : Int, w5.cell? (p12.add (Int.toNat r4 * 1)) = some (.int .u64 x13) ∧
    stCells (Addr.mk b1 0 none) 0 [.int .i64 0] w5 fun w14 =>
    F.vmem_caught E (some (Addr.mk b1 0 none)) .nilIface (fun w15 =>
      ∃ x16 : Int, w15.cell? (Addr.mk b1 0 none) = some (.int .i64 x16) ∧
      K x13 x16 w15
    ) w14
  ) (
    NC a0 fun p17 =>
    ∃ x18 : (Option Nat), w5.cell? (p17.add 9) = some (.map x18) ∧
    LKP .u64 r3 x18 w5 (.int .u64 0) fun v19 ok20 es21 =>
    ∃ x22 : Int, v19 = .int .u64 x22 ∧
    stCells (Addr.mk b1 0 none) 0 [.int .i64 0] w5 fun w23 =>
    F.vmem_caught E (some (Addr.mk b1 0 none)) .nilIface (fun w24 =>
      ∃ x25 : Int, w24.cell? (Addr.mk b1 0 none) = some (.int .i64 x25) ∧
      K x22 x25 w24
    ) w23
  )
  ) (fun v26 w27 =>
    F.vmem_caught E (some (Addr.mk b1 0 none)) v26 (fun w28 =>
      ∃ x29 : Int, w28.cell? (Addr.mk b1 0 none) = some (.int .i64 x29) ∧
      K 0 x29 w28
    ) w27
  ) w2

def F.vmem_forget_uint64_ (E : Env) (a0 : (Option Nat)) (a1 : Int) (a2 : Int) (K : World → Prop) (w : World) : Prop :=
  ∃ es1 : Array MapEntry, mapAt w a0 es1 ∧
  CND (decide (((u64 (((es1.size : Nat) : Int))) : Int) < (u64 (a2 - a1)))) (
    ∃ cl2, rngAt w a0 cl2 ∧
    AL (rngObj a0 cl2) w fun b3 w4 =>
    LOOP (Unit) (()) w4 fun s5 _ w6 next7 =>
      JOIN (Bool × Unit) (fun J8 =>
        NEXT b3 w6 (fun w11 =>
          J8 (false, ()) w11
        ) fun k13 v14 w12 =>
          J8 (true, ()) w12
      ) fun s9 _ w10 =>
        JOIN (Bool × Unit) (fun J15 =>
          CND (s9.1) (
            J15 (s9.1, ()) w10
          ) (
            K  w10
          )
        ) fun s16 _ w17 =>
          ENT b3 w17 fun k18 v19 S20 =>
          unInt .u64 k18 fun x21 =>
          JOIN (Bool × Unit) (fun J22 =>
            CND (decide ((x21 : Int) ≥ a1)) (
              J22 (decide ((x21 : Int) < a2), ()) w17
            ) (
              J22 (false, ()) w17
            )
          ) fun s23 _ w24 =>
            CND (s23.1) (
              MDEL .u64 x21 a0 w24 fun w25 =>
              next7 (()) w25
            ) (
              next7 (()) w24
            )
  ) (
    LOOP (Int × Unit) (a1, ()) w fun s26 _ w27 next28 =>
      CND (decide ((s26.1 : Int) < a2)) (
        MDEL .u64 s26.1 a0 w27 fun w29 =>
        next28 (u64 (s26.1 + 1), ()) w29
      ) (
        K  w27
      )
  )

def F.vmem_forget___1024_uint64_ (E : Env) (a0 : (Option Nat)) (a1 : Int) (a2 : Int) (K : World → Prop) (w : World) : Prop :=
  ∃ es1 : Array MapEntry, mapAt w a0 es1 ∧
  CND (decide (((u64 (((es1.size : Nat) : Int))) : Int) < (u64 (a2 - a1)))) (
    ∃ cl2, rngAt w a0 cl2 ∧
    AL (rngObj a0 cl2) w fun b3 w4 =>
    LOOP (Unit) (()) w4 fun s5 _ w6 next7 =>
      JOIN (Bool × Unit) (fun J8 =>
        NEXT b3 w6 (fun w11 =>
          J8 (false, ()) w11
        ) fun k13 v14 w12 =>
          J8 (true, ()) w12
      ) fun s9 _ w10 =>
        JOIN (Bool × Unit) (fun J15 =>
          CND (s9.1) (
            J15 (s9.1, ()) w10
          ) (
            K  w10
          )
        ) fun s16 _ w17 =>
          ENT b3 w17 fun k18 v19 S20 =>
          unInt .u64 k18 fun x21 =>
          JOIN (Bool × Unit) (fun J22 =>
            CND (decide ((x21 : Int) ≥ a1)) (
              J22 (decide ((x21 : Int) < a2), ()) w17
            ) (
              J22 (false, ()) w17
            )
          ) fun s23 _ w24 =>
            CND (s23.1) (
              MDEL .u64 x21 a0 w24 fun w25 =>
              next7 (()) w25
            ) (
              next7 (()) w24
            )
  ) (
    LOOP (Int × Unit) (a1, ()) w fun s26 _ w27 next28 =>
      CND (decide ((s26.1 : Int) < a2)) (
        MDEL .u64 s26.1 a0 w27 fun w29 =>
        next28 (u64 (s26.1 + 1), ()) w29
      ) (
        K  w27
      )
  )

def F.vmem_Mem_Release (E : Env) (a0 : (Option Addr)) (a1 : Int) (a2 : Int) (K : Int → World → Prop) (w : World) : Prop :=
  F.vmem_right E a1 a2 (fun r1 w2 =>
  CND (!r1) (
    K 1 w2
  ) (
    NC a0 fun p3 =>
    F.stretch_Set_Count E (some (p3.add 5)) a1 (u64 (a1 + a2)) (fun r4 w5 =>
    CND ((r4 : Int) != a2) (
      K 33 w5
    ) (
      NC a0 fun p6 =>
      F.stretch_Set_Cut E (some (p6.add 5)) a1 (u64 (a1 + a2)) (fun  w7 =>
      NC a0 fun p8 =>
      F.stretch_Set_Add E (some (p8.add 7)) a1 (u64 (a1 + a2)) (fun  w9 =>
      NC a0 fun p10 =>
      ∃ x11 : (Option Nat), w9.cell? (p10.add 9) = some (.map x11) ∧
      F.vmem_forget_uint64_ E x11 a1 (u64 (a1 + a2)) (fun  w12 =>
      NC a0 fun p13 =>
      ∃ x14 : (Option Nat), w12.cell? (p13.add 10) = some (.map x14) ∧
      F.vmem_forget___1024_uint64_ E x14 a1 (u64 (a1 + a2)) (fun  w15 =>
      K 0 w15
      ) w12
      ) w9
      ) w7
      ) w5
    )
    ) w2
  )
  ) w

def F.stretch_Set_Sum (E : Env) (a0 : (Option Addr)) (K : Int → World → Prop) (w : World) : Prop :=
  NC a0 fun p1 =>
  ∃ x2 : Int, w.cell? (p1.add 1) = some (.int .u64 x2) ∧
  K x2 w

def F.vmem_Mem_Count (E : Env) (a0 : (Option Addr)) (a1 : Int) (K : Int → World → Prop) (w : World) : Prop :=
  CND ((a1 : Int) == 2) (
    NC a0 fun p1 =>
    F.stretch_Set_Sum E (some (p1.add 5)) (fun r2 w3 =>
    K r2 w3
    ) w
  ) (
    CND ((a1 : Int) == 3) (
      NC a0 fun p4 =>
      F.stretch_Set_Sum E (some (p4.add 7)) (fun r5 w6 =>
      K r5 w6
      ) w
    ) (
      CND ((a1 : Int) == 1) (
        NC a0 fun p7 =>
        NC a0 fun p8 =>
        NC a0 fun p9 =>
        F.stretch_Set_Sum E (some (p7.add 3)) (fun r10 w11 =>
        F.stretch_Set_Sum E (some (p8.add 5)) (fun r12 w13 =>
        F.stretch_Set_Sum E (some (p9.add 7)) (fun r14 w15 =>
        LET (u64 ((u64 (r10 - r12)) - r14) : Int) fun t16 =>
        K t16 w15
        ) w13
        ) w11
        ) w.drew
      ) (
        K 0 w
      )
    )
  )

def F.vmem_Mem_stored (E : Env) (a0 : (Option Addr)) (a1 : Int) (K : (Option Addr) → World → Prop) (w : World) : Prop :=
  NC a0 fun p1 =>
  ∃ x2 : (Option Nat), w.cell? (p1.add 10) = some (.map x2) ∧
  LKP .u64 a1 x2 w (.pointer none) fun v3 ok4 es5 =>
  ∃ x6 : (Option Addr), v3 = .pointer x6 ∧
  CND (x6.isNone) (
    AL (.cells (Array.replicate 1024 (.int .u64 0)) E.t__1024_uint64) w fun b7 w8 =>
    LOOP (Int × Unit) (0, ()) w8 fun s9 _ w10 next11 =>
      CND (decide ((s9.1 : Int) < 1024)) (
        NC a0 fun p12 =>
        ∃ x13 : (Option Nat), w10.drew.cell? (p12.add 9) = some (.map x13) ∧
        LKP .u64 a1 x13 w10.drew (.int .u64 0) fun v14 ok15 es16 =>
        ∃ x17 : Int, v14 = .int .u64 x17 ∧
        ((0 : Int) ≤ s9.1 ∧ (s9.1 : Int) < (1024 : Nat)) ∧
        stCells ((Addr.mk b7 0 none).add (Int.toNat s9.1 * 1)) 0 [.int .u64 x17] w10.drew fun w18 =>
        next11 (i64 (s9.1 + 1), ()) w18
      ) (
        NC a0 fun p19 =>
        ∃ x20 : (Option Nat), w10.cell? (p19.add 10) = some (.map x20) ∧
        MUPD .u64 a1 (.pointer (some (Addr.mk b7 0 none))) x20 w10 fun w21 =>
        NC a0 fun p22 =>
        ∃ x23 : (Option Nat), w21.cell? (p22.add 9) = some (.map x23) ∧
        MDEL .u64 a1 x23 w21 fun w24 =>
        K (some (Addr.mk b7 0 none)) w24
      )
  ) (
    K x6 w
  )

def F.vmem_Mem_Store (E : Env) (a0 : (Option Addr)) (a1 : Int) (a2 : Int) (K : Int → World → Prop) (w : World) : Prop :=
  AL (.cells #[.int .i64 0] E.t_api_Errno) w fun b1 w2 =>
  F.vmem_Mem_at E a0 a1 (fun r3 r4 w5 =>
  F.vmem_Mem_stored E a0 r3 (fun r6 w7 =>
  NC r6 fun p8 =>
  ((0 : Int) ≤ r4 ∧ (r4 : Int) < (1024 : Nat)) ∧
  stCells (p8.add (Int.toNat r4 * 1)) 0 [.int .u64 a2] w7 fun w9 =>
  stCells (Addr.mk b1 0 none) 0 [.int .i64 0] w9 fun w10 =>
  F.vmem_caught E (some (Addr.mk b1 0 none)) .nilIface (fun w11 =>
    ∃ x12 : Int, w11.cell? (Addr.mk b1 0 none) = some (.int .i64 x12) ∧
    K x12 w11
  ) w10
  ) w5
  ) (fun v13 w14 =>
    F.vmem_caught E (some (Addr.mk b1 0 none)) v13 (fun w15 =>
      ∃ x16 : Int, w15.cell? (Addr.mk b1 0 none) = some (.int .i64 x16) ∧
      K x16 w15
    ) w14
  ) w2

def F.vmem_Mem_State (E : Env) (a0 : (Option Addr)) (a1 : Int) (K : Int → World → Prop) (w : World) : Prop :=
  NC a0 fun p1 =>
  F.stretch_Set_Has E (some (p1.add 3)) a1 (fun r2 w3 =>
  CND (!r2) (
    K 0 w3
  ) (
    NC a0 fun p4 =>
    F.stretch_Set_Has E (some (p4.add 5)) a1 (fun r5 w6 =>
    CND (r5) (
      K 2 w6
    ) (
      NC a0 fun p7 =>
      F.stretch_Set_Has E (some (p7.add 7)) a1 (fun r8 w9 =>
      CND (r8) (
        K 3 w9
      ) (
        K 1 w9
      )
      ) w6
    )
    ) w3
  )
  ) w

def F.mallowlaw3_awake (E : Env)  (K : Bool → World → Prop) (w : World) : Prop :=
  F.vmem_New E ⟨none, 0, 0⟩ ⟨none, 0, 0⟩ ⟨none, 0, 0⟩ (fun r1 w2 =>
  CND (r1.isNone) (
    K false w2
  ) (
    F.vmem_Mem_Reserve E r1 0 512 (fun r3 r4 w5 =>
    F.vmem_Mem_Commit E r1 512 1 (fun r6 w7 =>
    F.vmem_Mem_Store E r1 4194304 5 (fun r8 w9 =>
    F.vmem_Mem_Load E r1 4194304 (fun r10 r11 w12 =>
    F.vmem_Mem_Release E r1 512 1 (fun r13 w14 =>
    CND ((r3 : Int) == 512) (
      CND ((r4 : Int) == 0) (
        CND ((r6 : Int) == 0) (
          CND ((r8 : Int) == 0) (
            CND ((r10 : Int) == 5) (
              CND ((r11 : Int) == 0) (
                CND ((r13 : Int) == 0) (
                  F.vmem_Mem_State E r1 512 (fun r15 w16 =>
                  CND ((r15 : Int) == 3) (
                    F.vmem_Mem_Count E r1 1 (fun r17 w18 =>
                    K ((r17 : Int) == 511) w18
                    ) w16
                  ) (
                    K false w16
                  )
                  ) w14
                ) (
                  K false w14
                )
              ) (
                K false w14
              )
            ) (
              K false w14
            )
          ) (
            K false w14
          )
        ) (
          K false w14
        )
      ) (
        K false w14
      )
    ) (
      K false w14
    )
    ) w12
    ) w9
    ) w7
    ) w5
    ) w2
  )
  ) w

def F.mallowlaw3_VmemFills (E : Env) (a0 : SlV) (a1 : Int) (a2 : Int) (K : Bool → World → Prop) (w : World) : Prop :=
  JOIN (Bool × Unit) (fun J1 =>
    CND (decide ((((a0.len : Nat) : Int) : Int) > 50)) (
      J1 (true, ()) w
    ) (
      CND (decide ((a1 : Int) < 0)) (
        J1 (true, ()) w
      ) (
        CND (decide ((a1 : Int) > 10)) (
          J1 (true, ()) w
        ) (
          CND (decide ((a2 : Int) < 1)) (
            J1 (true, ()) w
          ) (
            J1 (decide ((a2 : Int) > 10), ()) w
          )
        )
      )
    )
  ) fun s2 _ w3 =>
    CND (s2.1) (
      K true w3
    ) (
      AL (.cells ⟨[]⟩ E.t_uint64) w3 fun b4 w5 =>
      APP E.t_uint64 1 8 #[.int .u64 0] ⟨(some (Addr.mk b4 0 none)), 0, 0⟩ a0 w5 fun s6 w7 =>
      F.vmem_New E ⟨none, 0, 0⟩ ⟨none, 0, 0⟩ s6 (fun r8 w9 =>
      CND (r8.isNone) (
        K false w9
      ) (
        F.vmem_Mem_Reserve E r8 0 512 (fun r10 r11 w12 =>
        JOIN (Bool × Unit) (fun J13 =>
          CND ((r11 : Int) != 0) (
            J13 (true, ()) w12
          ) (
            F.vmem_Mem_Commit E r8 r10 a2 (fun r16 w17 =>
            J13 ((r16 : Int) != 0, ()) w17
            ) w12
          )
        ) fun s14 _ w15 =>
          CND (s14.1) (
            K false w15
          ) (
            LOOP (Int × Int × Unit) (0, 0, ()) w15 fun s18 _ w19 next20 =>
              CND (decide ((s18.2.1 : Int) ≤ a1)) (
                LOOP (Int × Int × Unit) (s18.1, 0, ()) w19 fun s21 _ w22 next23 =>
                  CND (decide ((s21.2.1 : Int) < a2)) (
                    JOIN (Int × Int × Unit) (fun J24 =>
                      JOIN (Bool × Unit) (fun J27 =>
                        CND (decide ((s18.2.1 : Int) > 0)) (
                          J27 (decide ((s21.1 : Int) < ((a0.len : Nat) : Int)), ()) w22
                        ) (
                          J27 (false, ()) w22
                        )
                      ) fun s28 _ w29 =>
                        CND (s28.1) (
                          NC a0.base fun p30 =>
                          ((0 : Int) ≤ s21.1 ∧ (s21.1 : Int) < (a0.len : Nat)) ∧
                          ∃ x31 : Int, w29.cell? (p30.add (Int.toNat s21.1 * 1)) = some (.int .u64 x31) ∧
                          J24 (i64 (s21.1 + 1), x31, ()) w29
                        ) (
                          J24 (s21.1, 0, ()) w29
                        )
                    ) fun s25 _ w26 =>
                      F.vmem_Mem_Load E r8 (u64 ((u64 ((u64 (r10 + s21.2.1)) * 8192)) + (u64 (8 * s21.2.1)))) (fun r32 r33 w34 =>
                      JOIN (Bool × Unit) (fun J35 =>
                        CND ((r32 : Int) != s25.2.1) (
                          J35 (true, ()) w34
                        ) (
                          J35 ((r33 : Int) != 0, ()) w34
                        )
                      ) fun s36 _ w37 =>
                        CND (s36.1) (
                          K false w37
                        ) (
                          next23 (s25.1, u64 (s21.2.1 + 1), ()) w37
                        )
                      ) w26
                  ) (
                    JOIN (Bool × Unit) (fun J38 =>
                      F.vmem_Mem_Release E r8 r10 a2 (fun r41 w42 =>
                      CND ((r41 : Int) != 0) (
                        J38 (true, ()) w42
                      ) (
                        F.vmem_Mem_Commit E r8 r10 a2 (fun r43 w44 =>
                        J38 ((r43 : Int) != 0, ()) w44
                        ) w42
                      )
                      ) w22
                    ) fun s39 _ w40 =>
                      CND (s39.1) (
                        K false w40
                      ) (
                        next20 (s21.1, i64 (s18.2.1 + 1), ()) w40
                      )
                  )
              ) (
                F.vmem_Mem_Count E r8 2 (fun r45 w46 =>
                CND ((r45 : Int) == a2) (
                  F.mallowlaw3_awake E  (fun r47 w48 =>
                  K r47 w48
                  ) w46
                ) (
                  K false w46
                )
                ) w19
              )
          )
        ) w9
      )
      ) w7
    )

def F.mallowlaw3_VmemKeeps (E : Env) (a0 : SlV) (a1 : Int) (a2 : Int) (K : Bool → World → Prop) (w : World) : Prop :=
  JOIN (Bool × Unit) (fun J1 =>
    CND (decide ((((a0.len : Nat) : Int) : Int) > 100)) (
      J1 (true, ()) w
    ) (
      CND (decide ((a2 : Int) < 0)) (
        J1 (true, ()) w
      ) (
        J1 (decide ((a2 : Int) > 7), ()) w
      )
    )
  ) fun s2 _ w3 =>
    CND (s2.1) (
      K true w3
    ) (
      AL (.cells ⟨[.int .u64 a1]⟩ E.t_uint64) w3 fun b4 w5 =>
      F.vmem_New E ⟨none, 0, 0⟩ ⟨none, 0, 0⟩ ⟨(some (Addr.mk b4 0 none)), 1, 1⟩ (fun r6 w7 =>
      CND (r6.isNone) (
        K false w7
      ) (
        F.vmem_Mem_Reserve E r6 0 512 (fun r8 r9 w10 =>
        JOIN (Bool × Unit) (fun J11 =>
          CND ((r9 : Int) != 0) (
            J11 (true, ()) w10
          ) (
            F.vmem_Mem_Commit E r6 r8 8 (fun r14 w15 =>
            J11 ((r14 : Int) != 0, ()) w15
            ) w10
          )
        ) fun s12 _ w13 =>
          CND (s12.1) (
            K false w13
          ) (
            LOOP (Int × Unit) (0, ()) w13 fun s16 _ w17 next18 =>
              CND (decide ((s16.1 : Int) < ((a0.len : Nat) : Int))) (
                NC a0.base fun p19 =>
                ((0 : Int) ≤ s16.1 ∧ (s16.1 : Int) < (a0.len : Nat)) ∧
                ∃ x20 : Int, w17.cell? (p19.add (Int.toNat s16.1 * 1)) = some (.int .u64 x20) ∧
                F.vmem_Mem_Store E r6 (u64 ((u64 (r8 * 8192)) + (u64 ((u64 (s16.1)) * 640)))) x20 (fun r21 w22 =>
                CND ((r21 : Int) != 0) (
                  K false w22
                ) (
                  next18 (i64 (s16.1 + 1), ()) w22
                )
                ) w17
              ) (
                JOIN (Bool × Unit) (fun J23 =>
                  F.vmem_Mem_Release E r6 (u64 (r8 + (u64 (a2)))) 1 (fun r26 w27 =>
                  CND ((r26 : Int) != 0) (
                    J23 (true, ()) w27
                  ) (
                    F.vmem_Mem_Commit E r6 (u64 (r8 + (u64 (a2)))) 1 (fun r28 w29 =>
                    J23 ((r28 : Int) != 0, ()) w29
                    ) w27
                  )
                  ) w17
                ) fun s24 _ w25 =>
                  CND (s24.1) (
                    K false w25
                  ) (
                    LOOP (Int × Unit) (0, ()) w25 fun s30 _ w31 next32 =>
                      CND (decide ((s30.1 : Int) < ((a0.len : Nat) : Int))) (
                        LET (u64 ((u64 (r8 * 8192)) + (u64 ((u64 (s30.1)) * 640))) : Int) fun addr_33 =>
                        F.vmem_Mem_Load E r6 addr_33 (fun r34 r35 w36 =>
                        NC a0.base fun p37 =>
                        ((0 : Int) ≤ s30.1 ∧ (s30.1 : Int) < (a0.len : Nat)) ∧
                        ∃ x38 : Int, w36.cell? (p37.add (Int.toNat s30.1 * 1)) = some (.int .u64 x38) ∧
                        JOIN (Int × Unit) (fun J39 =>
                          8192 ≠ (0 : Int) ∧
                          CND (((u64 (Int.tdiv addr_33 8192)) : Int) == (u64 (r8 + (u64 (a2))))) (
                            J39 (a1, ()) w36
                          ) (
                            J39 (x38, ()) w36
                          )
                        ) fun s40 _ w41 =>
                          JOIN (Bool × Unit) (fun J42 =>
                            8192 ≠ (0 : Int) ∧
                            CND (decide (((u64 (Int.tdiv addr_33 8192)) : Int) < (u64 (r8 + 8)))) (
                              CND ((r34 : Int) != s40.1) (
                                J42 (true, ()) w41
                              ) (
                                J42 ((r35 : Int) != 0, ()) w41
                              )
                            ) (
                              J42 (false, ()) w41
                            )
                          ) fun s43 _ w44 =>
                            CND (s43.1) (
                              K false w44
                            ) (
                              next32 (i64 (s30.1 + 1), ()) w44
                            )
                        ) w31
                      ) (
                        F.vmem_Mem_Load E r6 (u64 ((u64 ((u64 (r8 + (u64 (a2)))) * 8192)) + 8184)) (fun r45 r46 w47 =>
                        CND ((r45 : Int) == a1) (
                          CND ((r46 : Int) == 0) (
                            F.mallowlaw3_awake E  (fun r48 w49 =>
                            K r48 w49
                            ) w47
                          ) (
                            K false w47
                          )
                        ) (
                          K false w47
                        )
                        ) w31
                      )
                  )
              )
          )
        ) w7
      )
      ) w5
    )

def F.mallowlaw3_VmemRefused (E : Env) (a0 : Int) (a1 : Int) (K : Bool → World → Prop) (w : World) : Prop :=
  JOIN (Bool × Unit) (fun J1 =>
    CND (decide ((a0 : Int) < 1)) (
      J1 (true, ()) w
    ) (
      CND (decide ((a0 : Int) > 500)) (
        J1 (true, ()) w
      ) (
        CND (decide ((a1 : Int) < 0)) (
          J1 (true, ()) w
        ) (
          J1 (decide ((a1 : Int) > 20), ()) w
        )
      )
    )
  ) fun s2 _ w3 =>
    CND (s2.1) (
      K true w3
    ) (
      AL (.cells ⟨[.bool false]⟩ E.t_bool) w3 fun b4 w5 =>
      LOOP (SlV × Int × Unit) (⟨(some (Addr.mk b4 0 none)), 1, 1⟩, 0, ()) w5 fun s6 _ w7 next8 =>
        CND (decide ((s6.2.1 : Int) < a1)) (
          AL (.cells ⟨[.bool true]⟩ E.t_bool) w7 fun b9 w10 =>
          APP E.t_bool 1 1 #[.bool false] s6.1 ⟨(some (Addr.mk b9 0 none)), 1, 1⟩ w10 fun s11 w12 =>
          next8 (s11, i64 (s6.2.1 + 1), ()) w12
        ) (
          F.vmem_New E ⟨none, 0, 0⟩ s6.1 ⟨none, 0, 0⟩ (fun r13 w14 =>
          CND (r13.isNone) (
            K false w14
          ) (
            F.vmem_Mem_Reserve E r13 0 512 (fun r15 r16 w17 =>
            CND ((r16 : Int) != 0) (
              K false w17
            ) (
              LOOP (Int × Unit) (0, ()) w17 fun s18 _ w19 next20 =>
                CND (decide ((s18.1 : Int) < a1)) (
                  JOIN (Unit) (fun J21 =>
                    2 ≠ (0 : Int) ∧
                    CND (((Int.tmod s18.1 2) : Int) == 0) (
                      F.vmem_Mem_Commit E r13 r15 a0 (fun r24 w25 =>
                      CND ((r24 : Int) != 13) (
                        K false w25
                      ) (
                        J21 (()) w25
                      )
                      ) w19
                    ) (
                      F.vmem_Mem_Reserve E r13 0 512 (fun r26 r27 w28 =>
                      CND ((r27 : Int) != 13) (
                        K false w28
                      ) (
                        J21 (()) w28
                      )
                      ) w19
                    )
                  ) fun s22 _ w23 =>
                    JOIN (Bool × Unit) (fun J29 =>
                      F.vmem_Mem_Count E r13 1 (fun r32 w33 =>
                      CND ((r32 : Int) != 512) (
                        J29 (true, ()) w33
                      ) (
                        F.vmem_Mem_Count E r13 2 (fun r34 w35 =>
                        J29 ((r34 : Int) != 0, ()) w35
                        ) w33
                      )
                      ) w23
                    ) fun s30 _ w31 =>
                      CND (s30.1) (
                        K false w31
                      ) (
                        next20 (i64 (s18.1 + 1), ()) w31
                      )
                ) (
                  F.vmem_Mem_Commit E r13 r15 a0 (fun r36 w37 =>
                  CND ((r36 : Int) == 0) (
                    F.vmem_Mem_Count E r13 2 (fun r38 w39 =>
                    CND ((r38 : Int) == a0) (
                      F.vmem_Mem_Commit E r13 r15 a0 (fun r40 w41 =>
                      CND ((r40 : Int) == 0) (
                        F.mallowlaw3_awake E  (fun r42 w43 =>
                        K r42 w43
                        ) w41
                      ) (
                        K false w41
                      )
                      ) w39
                    ) (
                      K false w39
                    )
                    ) w37
                  ) (
                    K false w37
                  )
                  ) w19
                )
            )
            ) w14
          )
          ) w7
        )
    )

def F.mallowlaw3_VmemPlaces (E : Env) (a0 : SlV) (a1 : SlV) (K : Bool → World → Prop) (w : World) : Prop :=
  JOIN (Bool × Unit) (fun J1 =>
    CND (decide ((((a0.len : Nat) : Int) : Int) > 20)) (
      J1 (true, ()) w
    ) (
      J1 (decide ((((a1.len : Nat) : Int) : Int) > 20), ()) w
    )
  ) fun s2 _ w3 =>
    CND (s2.1) (
      K true w3
    ) (
      AL (.cells ⟨[]⟩ E.t_uint64) w3 fun b4 w5 =>
      APP E.t_uint64 1 8 #[.int .u64 0] ⟨(some (Addr.mk b4 0 none)), 0, 0⟩ a0 w5 fun s6 w7 =>
      F.vmem_New E s6 ⟨none, 0, 0⟩ ⟨none, 0, 0⟩ (fun r8 w9 =>
      CND (r8.isNone) (
        K false w9
      ) (
        AL (.map #[] 0) w9 fun b10 w11 =>
        LOOP (Int × Unit) (0, ()) w11 fun s12 _ w13 next14 =>
          CND (decide ((s12.1 : Int) < ((a1.len : Nat) : Int))) (
            NC a1.base fun p15 =>
            ((0 : Int) ≤ s12.1 ∧ (s12.1 : Int) < (a1.len : Nat)) ∧
            ∃ x16 : Int, w13.cell? (p15.add (Int.toNat s12.1 * 1)) = some (.int .u64 x16) ∧
            F.vmem_Mem_Reserve E r8 x16 512 (fun r17 r18 w19 =>
            JOIN (Bool × Unit) (fun J20 =>
              CND ((r18 : Int) != 0) (
                J20 (true, ()) w19
              ) (
                CND ((r17 : Int) == 0) (
                  J20 (true, ()) w19
                ) (
                  512 ≠ (0 : Int) ∧
                  CND (((Int.tmod r17 512) : Int) != 0) (
                    J20 (true, ()) w19
                  ) (
                    CND (decide ((r17 : Int) ≥ 34359738368)) (
                      J20 (true, ()) w19
                    ) (
                      LKP .u64 r17 (some b10) w19 (.bool false) fun v23 ok24 es25 =>
                      ∃ x26 : Bool, v23 = .bool x26 ∧
                      J20 (x26, ()) w19
                    )
                  )
                )
              )
            ) fun s21 _ w22 =>
              CND (s21.1) (
                K false w22
              ) (
                MUPD .u64 r17 (.bool true) (some b10) w22 fun w27 =>
                JOIN (Bool × Unit) (fun J28 =>
                  CND (decide ((s12.1 : Int) < ((a0.len : Nat) : Int))) (
                    NC a0.base fun p31 =>
                    ((0 : Int) ≤ s12.1 ∧ (s12.1 : Int) < (a0.len : Nat)) ∧
                    ∃ x32 : Int, w27.cell? (p31.add (Int.toNat s12.1 * 1)) = some (.int .u64 x32) ∧
                    CND (decide ((x32 : Int) > 0)) (
                      NC a0.base fun p33 =>
                      ((0 : Int) ≤ s12.1 ∧ (s12.1 : Int) < (a0.len : Nat)) ∧
                      ∃ x34 : Int, w27.cell? (p33.add (Int.toNat s12.1 * 1)) = some (.int .u64 x34) ∧
                      512 ≠ (0 : Int) ∧
                      CND (((Int.tmod x34 512) : Int) == 0) (
                        NC a0.base fun p35 =>
                        ((0 : Int) ≤ s12.1 ∧ (s12.1 : Int) < (a0.len : Nat)) ∧
                        ∃ x36 : Int, w27.cell? (p35.add (Int.toNat s12.1 * 1)) = some (.int .u64 x36) ∧
                        CND (decide ((x36 : Int) < 34359738368)) (
                          NC a0.base fun p37 =>
                          ((0 : Int) ≤ s12.1 ∧ (s12.1 : Int) < (a0.len : Nat)) ∧
                          ∃ x38 : Int, w27.cell? (p37.add (Int.toNat s12.1 * 1)) = some (.int .u64 x38) ∧
                          CND ((r17 : Int) != x38) (
                            NC a0.base fun p39 =>
                            ((0 : Int) ≤ s12.1 ∧ (s12.1 : Int) < (a0.len : Nat)) ∧
                            ∃ x40 : Int, w27.cell? (p39.add (Int.toNat s12.1 * 1)) = some (.int .u64 x40) ∧
                            LKP .u64 x40 (some b10) w27 (.bool false) fun v41 ok42 es43 =>
                            ∃ x44 : Bool, v41 = .bool x44 ∧
                            J28 (!x44, ()) w27
                          ) (
                            J28 (false, ()) w27
                          )
                        ) (
                          J28 (false, ()) w27
                        )
                      ) (
                        J28 (false, ()) w27
                      )
                    ) (
                      J28 (false, ()) w27
                    )
                  ) (
                    J28 (false, ()) w27
                  )
                ) fun s29 _ w30 =>
                  CND (s29.1) (
                    K false w30
                  ) (
                    JOIN (Bool × Unit) (fun J45 =>
                      F.vmem_Mem_State E r8 r17 (fun r48 w49 =>
                      CND ((r48 : Int) != 1) (
                        J45 (true, ()) w49
                      ) (
                        F.vmem_Mem_State E r8 (u64 (r17 + 511)) (fun r50 w51 =>
                        J45 ((r50 : Int) != 1, ()) w51
                        ) w49
                      )
                      ) w30
                    ) fun s46 _ w47 =>
                      CND (s46.1) (
                        K false w47
                      ) (
                        next14 (i64 (s12.1 + 1), ()) w47
                      )
                  )
              )
            ) w13
          ) (
            F.vmem_Mem_Count E r8 1 (fun r52 w53 =>
            CND ((r52 : Int) == (u64 (i64 (512 * ((a1.len : Nat) : Int))))) (
              F.mallowlaw3_awake E  (fun r54 w55 =>
              K r54 w55
              ) w53
            ) (
              K false w53
            )
            ) w13
          )
      )
      ) w7
    )

def F.mallowlaw3_heavy (E : Env) (a0_0 : SlV) (a0_1 : SlV) (a0_2 : SlV) (a1 : SlV) (K : Bool → World → Prop) (w : World) : Prop :=
  AL (.cells #[.slice a0_0.base a0_0.len a0_0.cap, .slice a0_1.base a0_1.len a0_1.cap, .slice a0_2.base a0_2.len a0_2.cap] E.t_api_Answers) w fun b1 w2 =>
  JOIN (Bool × Unit) (fun J3 =>
    CND (decide ((((a1.len : Nat) : Int) : Int) > 120)) (
      J3 (true, ()) w2
    ) (
      ∃ x6 : SlV, w2.cell? (Addr.mk b1 0 none) = some (.slice x6.base x6.len x6.cap) ∧
      CND (decide ((((x6.len : Nat) : Int) : Int) > 120)) (
        J3 (true, ()) w2
      ) (
        ∃ x7 : SlV, w2.cell? ((Addr.mk b1 0 none).add 1) = some (.slice x7.base x7.len x7.cap) ∧
        CND (decide ((((x7.len : Nat) : Int) : Int) > 120)) (
          J3 (true, ()) w2
        ) (
          ∃ x8 : SlV, w2.cell? ((Addr.mk b1 0 none).add 2) = some (.slice x8.base x8.len x8.cap) ∧
          J3 (decide ((((x8.len : Nat) : Int) : Int) > 2000), ()) w2
        )
      )
    )
  ) fun s4 _ w5 =>
    CND (s4.1) (
      K true w5
    ) (
      LOOP (Int × Int × Unit) (0, 0, ()) w5 fun s9 _ w10 next11 =>
        CND (decide ((s9.2.1 : Int) < ((a1.len : Nat) : Int))) (
          JOIN (Int × Unit) (fun J12 =>
            JOIN (Bool × Unit) (fun J15 =>
              NC a1.base fun p18 =>
              ((0 : Int) ≤ s9.2.1 ∧ (s9.2.1 : Int) < (a1.len : Nat)) ∧
              ∃ x19 : Int, w10.cell? (p18.add (Int.toNat s9.2.1 * 4)) = some (.int .i64 x19) ∧
              CND ((x19 : Int) == 1) (
                NC a1.base fun p20 =>
                ((0 : Int) ≤ s9.2.1 ∧ (s9.2.1 : Int) < (a1.len : Nat)) ∧
                ∃ x21 : Int, w10.cell? ((p20.add (Int.toNat s9.2.1 * 4)).add 2) = some (.int .u64 x21) ∧
                J15 (decide ((x21 : Int) ≤ 134217728), ()) w10
              ) (
                J15 (false, ()) w10
              )
            ) fun s16 _ w17 =>
              CND (s16.1) (
                NC a1.base fun p22 =>
                ((0 : Int) ≤ s9.2.1 ∧ (s9.2.1 : Int) < (a1.len : Nat)) ∧
                ∃ x23 : Int, w17.cell? ((p22.add (Int.toNat s9.2.1 * 4)).add 2) = some (.int .u64 x23) ∧
                CND (decide ((x23 : Int) > 4096)) (
                  K true w17
                ) (
                  NC a1.base fun p24 =>
                  ((0 : Int) ≤ s9.2.1 ∧ (s9.2.1 : Int) < (a1.len : Nat)) ∧
                  ∃ x25 : Int, w17.cell? ((p24.add (Int.toNat s9.2.1 * 4)).add 2) = some (.int .u64 x25) ∧
                  CND (decide (((u64 (s9.1 + x25)) : Int) > 12000)) (
                    K true w17
                  ) (
                    J12 (u64 (s9.1 + x25), ()) w17
                  )
                )
              ) (
                J12 (s9.1, ()) w17
              )
          ) fun s13 _ w14 =>
            JOIN (Bool × Unit) (fun J26 =>
              NC a1.base fun p29 =>
              ((0 : Int) ≤ s9.2.1 ∧ (s9.2.1 : Int) < (a1.len : Nat)) ∧
              ∃ x30 : Int, w14.cell? (p29.add (Int.toNat s9.2.1 * 4)) = some (.int .i64 x30) ∧
              CND ((x30 : Int) == 6) (
                NC a1.base fun p31 =>
                ((0 : Int) ≤ s9.2.1 ∧ (s9.2.1 : Int) < (a1.len : Nat)) ∧
                ∃ x32 : Int, w14.cell? ((p31.add (Int.toNat s9.2.1 * 4)).add 2) = some (.int .u64 x32) ∧
                CND (decide ((x32 : Int) > 131072)) (
                  NC a1.base fun p33 =>
                  ((0 : Int) ≤ s9.2.1 ∧ (s9.2.1 : Int) < (a1.len : Nat)) ∧
                  ∃ x34 : Int, w14.cell? ((p33.add (Int.toNat s9.2.1 * 4)).add 2) = some (.int .u64 x34) ∧
                  J26 (decide ((x34 : Int) < 140737488355328), ()) w14
                ) (
                  J26 (false, ()) w14
                )
              ) (
                J26 (false, ()) w14
              )
            ) fun s27 _ w28 =>
              CND (s27.1) (
                K true w28
              ) (
                next11 (s13.1, i64 (s9.2.1 + 1), ()) w28
              )
        ) (
          K false w10
        )
    )

def F.mallowlaw3_given (E : Env) (a0_0 : SlV) (a0_1 : SlV) (a0_2 : SlV) (K : SlV → SlV → SlV → World → Prop) (w : World) : Prop :=
  AL (.cells #[.slice a0_0.base a0_0.len a0_0.cap, .slice a0_1.base a0_1.len a0_1.cap, .slice a0_2.base a0_2.len a0_2.cap] E.t_api_Answers) w fun b1 w2 =>
  AL (.cells #[.slice none 0 0, .slice none 0 0, .slice none 0 0] E.t_api_Answers) w2 fun b3 w4 =>
  ∃ x5 : SlV, w4.drew.cell? (Addr.mk b1 0 none) = some (.slice x5.base x5.len x5.cap) ∧
  ∃ x6 : SlV, w4.drew.cell? ((Addr.mk b1 0 none).add 1) = some (.slice x6.base x6.len x6.cap) ∧
  ∃ x7 : SlV, w4.drew.cell? ((Addr.mk b1 0 none).add 2) = some (.slice x7.base x7.len x7.cap) ∧
  (
    AL (.cells ⟨[]⟩ E.t_uint64) w4.drew fun b8 w9 =>
    w9.cell? ((Addr.mk b1 0 none).add 2) = some (.slice x7.base x7.len x7.cap) ∧
    w9.cell? ((Addr.mk b1 0 none).add 1) = some (.slice x6.base x6.len x6.cap) ∧
    w9.cell? (Addr.mk b1 0 none) = some (.slice x5.base x5.len x5.cap) ∧
    (
      APP E.t_uint64 1 8 #[.int .u64 0] ⟨(some (Addr.mk b8 0 none)), 0, 0⟩ x5 w9 fun s10 w11 =>
      w11.cell? ((Addr.mk b1 0 none).add 2) = some (.slice x7.base x7.len x7.cap) ∧
      w11.cell? ((Addr.mk b1 0 none).add 1) = some (.slice x6.base x6.len x6.cap) ∧
      (
        AL (.cells ⟨[]⟩ E.t_bool) w11 fun b12 w13 =>
        w13.cell? ((Addr.mk b1 0 none).add 2) = some (.slice x7.base x7.len x7.cap) ∧
        w13.cell? ((Addr.mk b1 0 none).add 1) = some (.slice x6.base x6.len x6.cap) ∧
        (
          APP E.t_bool 1 1 #[.bool false] ⟨(some (Addr.mk b12 0 none)), 0, 0⟩ x6 w13 fun s14 w15 =>
          w15.cell? ((Addr.mk b1 0 none).add 2) = some (.slice x7.base x7.len x7.cap) ∧
          AL (.cells ⟨[]⟩ E.t_uint64) w15 fun b16 w17 =>
          w17.cell? ((Addr.mk b1 0 none).add 2) = some (.slice x7.base x7.len x7.cap) ∧
          APP E.t_uint64 1 8 #[.int .u64 0] ⟨(some (Addr.mk b16 0 none)), 0, 0⟩ x7 w17 fun s18 w19 =>
          stCells (Addr.mk b3 0 none) 0 [.slice s10.base s10.len s10.cap, .slice s14.base s14.len s14.cap, .slice s18.base s18.len s18.cap] w19 fun w20 =>
          ∃ c21 : SlV, w20.cell? ((Addr.mk b3 0 none).add 0) = some (.slice c21.base c21.len c21.cap) ∧
          ∃ c22 : SlV, w20.cell? ((Addr.mk b3 0 none).add 1) = some (.slice c22.base c22.len c22.cap) ∧
          ∃ c23 : SlV, w20.cell? ((Addr.mk b3 0 none).add 2) = some (.slice c23.base c23.len c23.cap) ∧
          K c21 c22 c23 w20

        ) ∧ (
          AL (.cells ⟨[]⟩ E.t_uint64) w13 fun b24 w25 =>
          w25.cell? ((Addr.mk b1 0 none).add 2) = some (.slice x7.base x7.len x7.cap) ∧
          w25.cell? ((Addr.mk b1 0 none).add 1) = some (.slice x6.base x6.len x6.cap) ∧
          APP E.t_bool 1 1 #[.bool false] ⟨(some (Addr.mk b12 0 none)), 0, 0⟩ x6 w25 fun s26 w27 =>
          w27.cell? ((Addr.mk b1 0 none).add 2) = some (.slice x7.base x7.len x7.cap) ∧
          APP E.t_uint64 1 8 #[.int .u64 0] ⟨(some (Addr.mk b24 0 none)), 0, 0⟩ x7 w27 fun s28 w29 =>
          stCells (Addr.mk b3 0 none) 0 [.slice s10.base s10.len s10.cap, .slice s26.base s26.len s26.cap, .slice s28.base s28.len s28.cap] w29 fun w30 =>
          ∃ c31 : SlV, w30.cell? ((Addr.mk b3 0 none).add 0) = some (.slice c31.base c31.len c31.cap) ∧
          ∃ c32 : SlV, w30.cell? ((Addr.mk b3 0 none).add 1) = some (.slice c32.base c32.len c32.cap) ∧
          ∃ c33 : SlV, w30.cell? ((Addr.mk b3 0 none).add 2) = some (.slice c33.base c33.len c33.cap) ∧
          K c31 c32 c33 w30
        )

      ) ∧ (
        AL (.cells ⟨[]⟩ E.t_uint64) w11 fun b34 w35 =>
        w35.cell? ((Addr.mk b1 0 none).add 2) = some (.slice x7.base x7.len x7.cap) ∧
        w35.cell? ((Addr.mk b1 0 none).add 1) = some (.slice x6.base x6.len x6.cap) ∧
        AL (.cells ⟨[]⟩ E.t_bool) w35 fun b36 w37 =>
        w37.cell? ((Addr.mk b1 0 none).add 2) = some (.slice x7.base x7.len x7.cap) ∧
        w37.cell? ((Addr.mk b1 0 none).add 1) = some (.slice x6.base x6.len x6.cap) ∧
        APP E.t_bool 1 1 #[.bool false] ⟨(some (Addr.mk b36 0 none)), 0, 0⟩ x6 w37 fun s38 w39 =>
        w39.cell? ((Addr.mk b1 0 none).add 2) = some (.slice x7.base x7.len x7.cap) ∧
        APP E.t_uint64 1 8 #[.int .u64 0] ⟨(some (Addr.mk b34 0 none)), 0, 0⟩ x7 w39 fun s40 w41 =>
        stCells (Addr.mk b3 0 none) 0 [.slice s10.base s10.len s10.cap, .slice s38.base s38.len s38.cap, .slice s40.base s40.len s40.cap] w41 fun w42 =>
        ∃ c43 : SlV, w42.cell? ((Addr.mk b3 0 none).add 0) = some (.slice c43.base c43.len c43.cap) ∧
        ∃ c44 : SlV, w42.cell? ((Addr.mk b3 0 none).add 1) = some (.slice c44.base c44.len c44.cap) ∧
        ∃ c45 : SlV, w42.cell? ((Addr.mk b3 0 none).add 2) = some (.slice c45.base c45.len c45.cap) ∧
        K c43 c44 c45 w42
      )

    ) ∧ (
      AL (.cells ⟨[]⟩ E.t_bool) w9 fun b46 w47 =>
      w47.cell? ((Addr.mk b1 0 none).add 2) = some (.slice x7.base x7.len x7.cap) ∧
      w47.cell? ((Addr.mk b1 0 none).add 1) = some (.slice x6.base x6.len x6.cap) ∧
      w47.cell? (Addr.mk b1 0 none) = some (.slice x5.base x5.len x5.cap) ∧
      (
        APP E.t_uint64 1 8 #[.int .u64 0] ⟨(some (Addr.mk b8 0 none)), 0, 0⟩ x5 w47 fun s48 w49 =>
        w49.cell? ((Addr.mk b1 0 none).add 2) = some (.slice x7.base x7.len x7.cap) ∧
        w49.cell? ((Addr.mk b1 0 none).add 1) = some (.slice x6.base x6.len x6.cap) ∧
        (
          APP E.t_bool 1 1 #[.bool false] ⟨(some (Addr.mk b46 0 none)), 0, 0⟩ x6 w49 fun s50 w51 =>
          w51.cell? ((Addr.mk b1 0 none).add 2) = some (.slice x7.base x7.len x7.cap) ∧
          AL (.cells ⟨[]⟩ E.t_uint64) w51 fun b52 w53 =>
          w53.cell? ((Addr.mk b1 0 none).add 2) = some (.slice x7.base x7.len x7.cap) ∧
          APP E.t_uint64 1 8 #[.int .u64 0] ⟨(some (Addr.mk b52 0 none)), 0, 0⟩ x7 w53 fun s54 w55 =>
          stCells (Addr.mk b3 0 none) 0 [.slice s48.base s48.len s48.cap, .slice s50.base s50.len s50.cap, .slice s54.base s54.len s54.cap] w55 fun w56 =>
          ∃ c57 : SlV, w56.cell? ((Addr.mk b3 0 none).add 0) = some (.slice c57.base c57.len c57.cap) ∧
          ∃ c58 : SlV, w56.cell? ((Addr.mk b3 0 none).add 1) = some (.slice c58.base c58.len c58.cap) ∧
          ∃ c59 : SlV, w56.cell? ((Addr.mk b3 0 none).add 2) = some (.slice c59.base c59.len c59.cap) ∧
          K c57 c58 c59 w56

        ) ∧ (
          AL (.cells ⟨[]⟩ E.t_uint64) w49 fun b60 w61 =>
          w61.cell? ((Addr.mk b1 0 none).add 2) = some (.slice x7.base x7.len x7.cap) ∧
          w61.cell? ((Addr.mk b1 0 none).add 1) = some (.slice x6.base x6.len x6.cap) ∧
          APP E.t_bool 1 1 #[.bool false] ⟨(some (Addr.mk b46 0 none)), 0, 0⟩ x6 w61 fun s62 w63 =>
          w63.cell? ((Addr.mk b1 0 none).add 2) = some (.slice x7.base x7.len x7.cap) ∧
          APP E.t_uint64 1 8 #[.int .u64 0] ⟨(some (Addr.mk b60 0 none)), 0, 0⟩ x7 w63 fun s64 w65 =>
          stCells (Addr.mk b3 0 none) 0 [.slice s48.base s48.len s48.cap, .slice s62.base s62.len s62.cap, .slice s64.base s64.len s64.cap] w65 fun w66 =>
          ∃ c67 : SlV, w66.cell? ((Addr.mk b3 0 none).add 0) = some (.slice c67.base c67.len c67.cap) ∧
          ∃ c68 : SlV, w66.cell? ((Addr.mk b3 0 none).add 1) = some (.slice c68.base c68.len c68.cap) ∧
          ∃ c69 : SlV, w66.cell? ((Addr.mk b3 0 none).add 2) = some (.slice c69.base c69.len c69.cap) ∧
          K c67 c68 c69 w66
        )

      ) ∧ (
        AL (.cells ⟨[]⟩ E.t_uint64) w47 fun b70 w71 =>
        w71.cell? ((Addr.mk b1 0 none).add 2) = some (.slice x7.base x7.len x7.cap) ∧
        w71.cell? ((Addr.mk b1 0 none).add 1) = some (.slice x6.base x6.len x6.cap) ∧
        w71.cell? (Addr.mk b1 0 none) = some (.slice x5.base x5.len x5.cap) ∧
        APP E.t_uint64 1 8 #[.int .u64 0] ⟨(some (Addr.mk b8 0 none)), 0, 0⟩ x5 w71 fun s72 w73 =>
        w73.cell? ((Addr.mk b1 0 none).add 2) = some (.slice x7.base x7.len x7.cap) ∧
        w73.cell? ((Addr.mk b1 0 none).add 1) = some (.slice x6.base x6.len x6.cap) ∧
        APP E.t_bool 1 1 #[.bool false] ⟨(some (Addr.mk b46 0 none)), 0, 0⟩ x6 w73 fun s74 w75 =>
        w75.cell? ((Addr.mk b1 0 none).add 2) = some (.slice x7.base x7.len x7.cap) ∧
        APP E.t_uint64 1 8 #[.int .u64 0] ⟨(some (Addr.mk b70 0 none)), 0, 0⟩ x7 w75 fun s76 w77 =>
        stCells (Addr.mk b3 0 none) 0 [.slice s72.base s72.len s72.cap, .slice s74.base s74.len s74.cap, .slice s76.base s76.len s76.cap] w77 fun w78 =>
        ∃ c79 : SlV, w78.cell? ((Addr.mk b3 0 none).add 0) = some (.slice c79.base c79.len c79.cap) ∧
        ∃ c80 : SlV, w78.cell? ((Addr.mk b3 0 none).add 1) = some (.slice c80.base c80.len c80.cap) ∧
        ∃ c81 : SlV, w78.cell? ((Addr.mk b3 0 none).add 2) = some (.slice c81.base c81.len c81.cap) ∧
        K c79 c80 c81 w78
      )

    ) ∧ (
      AL (.cells ⟨[]⟩ E.t_uint64) w9 fun b82 w83 =>
      w83.cell? ((Addr.mk b1 0 none).add 2) = some (.slice x7.base x7.len x7.cap) ∧
      w83.cell? ((Addr.mk b1 0 none).add 1) = some (.slice x6.base x6.len x6.cap) ∧
      w83.cell? (Addr.mk b1 0 none) = some (.slice x5.base x5.len x5.cap) ∧
      (
        APP E.t_uint64 1 8 #[.int .u64 0] ⟨(some (Addr.mk b8 0 none)), 0, 0⟩ x5 w83 fun s84 w85 =>
        w85.cell? ((Addr.mk b1 0 none).add 2) = some (.slice x7.base x7.len x7.cap) ∧
        w85.cell? ((Addr.mk b1 0 none).add 1) = some (.slice x6.base x6.len x6.cap) ∧
        AL (.cells ⟨[]⟩ E.t_bool) w85 fun b86 w87 =>
        w87.cell? ((Addr.mk b1 0 none).add 2) = some (.slice x7.base x7.len x7.cap) ∧
        w87.cell? ((Addr.mk b1 0 none).add 1) = some (.slice x6.base x6.len x6.cap) ∧
        APP E.t_bool 1 1 #[.bool false] ⟨(some (Addr.mk b86 0 none)), 0, 0⟩ x6 w87 fun s88 w89 =>
        w89.cell? ((Addr.mk b1 0 none).add 2) = some (.slice x7.base x7.len x7.cap) ∧
        APP E.t_uint64 1 8 #[.int .u64 0] ⟨(some (Addr.mk b82 0 none)), 0, 0⟩ x7 w89 fun s90 w91 =>
        stCells (Addr.mk b3 0 none) 0 [.slice s84.base s84.len s84.cap, .slice s88.base s88.len s88.cap, .slice s90.base s90.len s90.cap] w91 fun w92 =>
        ∃ c93 : SlV, w92.cell? ((Addr.mk b3 0 none).add 0) = some (.slice c93.base c93.len c93.cap) ∧
        ∃ c94 : SlV, w92.cell? ((Addr.mk b3 0 none).add 1) = some (.slice c94.base c94.len c94.cap) ∧
        ∃ c95 : SlV, w92.cell? ((Addr.mk b3 0 none).add 2) = some (.slice c95.base c95.len c95.cap) ∧
        K c93 c94 c95 w92

      ) ∧ (
        AL (.cells ⟨[]⟩ E.t_bool) w83 fun b96 w97 =>
        w97.cell? ((Addr.mk b1 0 none).add 2) = some (.slice x7.base x7.len x7.cap) ∧
        w97.cell? ((Addr.mk b1 0 none).add 1) = some (.slice x6.base x6.len x6.cap) ∧
        w97.cell? (Addr.mk b1 0 none) = some (.slice x5.base x5.len x5.cap) ∧
        APP E.t_uint64 1 8 #[.int .u64 0] ⟨(some (Addr.mk b8 0 none)), 0, 0⟩ x5 w97 fun s98 w99 =>
        w99.cell? ((Addr.mk b1 0 none).add 2) = some (.slice x7.base x7.len x7.cap) ∧
        w99.cell? ((Addr.mk b1 0 none).add 1) = some (.slice x6.base x6.len x6.cap) ∧
        APP E.t_bool 1 1 #[.bool false] ⟨(some (Addr.mk b96 0 none)), 0, 0⟩ x6 w99 fun s100 w101 =>
        w101.cell? ((Addr.mk b1 0 none).add 2) = some (.slice x7.base x7.len x7.cap) ∧
        APP E.t_uint64 1 8 #[.int .u64 0] ⟨(some (Addr.mk b82 0 none)), 0, 0⟩ x7 w101 fun s102 w103 =>
        stCells (Addr.mk b3 0 none) 0 [.slice s98.base s98.len s98.cap, .slice s100.base s100.len s100.cap, .slice s102.base s102.len s102.cap] w103 fun w104 =>
        ∃ c105 : SlV, w104.cell? ((Addr.mk b3 0 none).add 0) = some (.slice c105.base c105.len c105.cap) ∧
        ∃ c106 : SlV, w104.cell? ((Addr.mk b3 0 none).add 1) = some (.slice c106.base c106.len c106.cap) ∧
        ∃ c107 : SlV, w104.cell? ((Addr.mk b3 0 none).add 2) = some (.slice c107.base c107.len c107.cap) ∧
        K c105 c106 c107 w104
      )
    )

  ) ∧ (
    AL (.cells ⟨[]⟩ E.t_bool) w4.drew fun b108 w109 =>
    w109.cell? ((Addr.mk b1 0 none).add 2) = some (.slice x7.base x7.len x7.cap) ∧
    w109.cell? ((Addr.mk b1 0 none).add 1) = some (.slice x6.base x6.len x6.cap) ∧
    w109.cell? (Addr.mk b1 0 none) = some (.slice x5.base x5.len x5.cap) ∧
    (
      AL (.cells ⟨[]⟩ E.t_uint64) w109 fun b110 w111 =>
      w111.cell? ((Addr.mk b1 0 none).add 2) = some (.slice x7.base x7.len x7.cap) ∧
      w111.cell? ((Addr.mk b1 0 none).add 1) = some (.slice x6.base x6.len x6.cap) ∧
      w111.cell? (Addr.mk b1 0 none) = some (.slice x5.base x5.len x5.cap) ∧
      (
        APP E.t_uint64 1 8 #[.int .u64 0] ⟨(some (Addr.mk b110 0 none)), 0, 0⟩ x5 w111 fun s112 w113 =>
        w113.cell? ((Addr.mk b1 0 none).add 2) = some (.slice x7.base x7.len x7.cap) ∧
        w113.cell? ((Addr.mk b1 0 none).add 1) = some (.slice x6.base x6.len x6.cap) ∧
        (
          APP E.t_bool 1 1 #[.bool false] ⟨(some (Addr.mk b108 0 none)), 0, 0⟩ x6 w113 fun s114 w115 =>
          w115.cell? ((Addr.mk b1 0 none).add 2) = some (.slice x7.base x7.len x7.cap) ∧
          AL (.cells ⟨[]⟩ E.t_uint64) w115 fun b116 w117 =>
          w117.cell? ((Addr.mk b1 0 none).add 2) = some (.slice x7.base x7.len x7.cap) ∧
          APP E.t_uint64 1 8 #[.int .u64 0] ⟨(some (Addr.mk b116 0 none)), 0, 0⟩ x7 w117 fun s118 w119 =>
          stCells (Addr.mk b3 0 none) 0 [.slice s112.base s112.len s112.cap, .slice s114.base s114.len s114.cap, .slice s118.base s118.len s118.cap] w119 fun w120 =>
          ∃ c121 : SlV, w120.cell? ((Addr.mk b3 0 none).add 0) = some (.slice c121.base c121.len c121.cap) ∧
          ∃ c122 : SlV, w120.cell? ((Addr.mk b3 0 none).add 1) = some (.slice c122.base c122.len c122.cap) ∧
          ∃ c123 : SlV, w120.cell? ((Addr.mk b3 0 none).add 2) = some (.slice c123.base c123.len c123.cap) ∧
          K c121 c122 c123 w120

        ) ∧ (
          AL (.cells ⟨[]⟩ E.t_uint64) w113 fun b124 w125 =>
          w125.cell? ((Addr.mk b1 0 none).add 2) = some (.slice x7.base x7.len x7.cap) ∧
          w125.cell? ((Addr.mk b1 0 none).add 1) = some (.slice x6.base x6.len x6.cap) ∧
          APP E.t_bool 1 1 #[.bool false] ⟨(some (Addr.mk b108 0 none)), 0, 0⟩ x6 w125 fun s126 w127 =>
          w127.cell? ((Addr.mk b1 0 none).add 2) = some (.slice x7.base x7.len x7.cap) ∧
          APP E.t_uint64 1 8 #[.int .u64 0] ⟨(some (Addr.mk b124 0 none)), 0, 0⟩ x7 w127 fun s128 w129 =>
          stCells (Addr.mk b3 0 none) 0 [.slice s112.base s112.len s112.cap, .slice s126.base s126.len s126.cap, .slice s128.base s128.len s128.cap] w129 fun w130 =>
          ∃ c131 : SlV, w130.cell? ((Addr.mk b3 0 none).add 0) = some (.slice c131.base c131.len c131.cap) ∧
          ∃ c132 : SlV, w130.cell? ((Addr.mk b3 0 none).add 1) = some (.slice c132.base c132.len c132.cap) ∧
          ∃ c133 : SlV, w130.cell? ((Addr.mk b3 0 none).add 2) = some (.slice c133.base c133.len c133.cap) ∧
          K c131 c132 c133 w130
        )

      ) ∧ (
        AL (.cells ⟨[]⟩ E.t_uint64) w111 fun b134 w135 =>
        w135.cell? ((Addr.mk b1 0 none).add 2) = some (.slice x7.base x7.len x7.cap) ∧
        w135.cell? ((Addr.mk b1 0 none).add 1) = some (.slice x6.base x6.len x6.cap) ∧
        w135.cell? (Addr.mk b1 0 none) = some (.slice x5.base x5.len x5.cap) ∧
        APP E.t_uint64 1 8 #[.int .u64 0] ⟨(some (Addr.mk b110 0 none)), 0, 0⟩ x5 w135 fun s136 w137 =>
        w137.cell? ((Addr.mk b1 0 none).add 2) = some (.slice x7.base x7.len x7.cap) ∧
        w137.cell? ((Addr.mk b1 0 none).add 1) = some (.slice x6.base x6.len x6.cap) ∧
        APP E.t_bool 1 1 #[.bool false] ⟨(some (Addr.mk b108 0 none)), 0, 0⟩ x6 w137 fun s138 w139 =>
        w139.cell? ((Addr.mk b1 0 none).add 2) = some (.slice x7.base x7.len x7.cap) ∧
        APP E.t_uint64 1 8 #[.int .u64 0] ⟨(some (Addr.mk b134 0 none)), 0, 0⟩ x7 w139 fun s140 w141 =>
        stCells (Addr.mk b3 0 none) 0 [.slice s136.base s136.len s136.cap, .slice s138.base s138.len s138.cap, .slice s140.base s140.len s140.cap] w141 fun w142 =>
        ∃ c143 : SlV, w142.cell? ((Addr.mk b3 0 none).add 0) = some (.slice c143.base c143.len c143.cap) ∧
        ∃ c144 : SlV, w142.cell? ((Addr.mk b3 0 none).add 1) = some (.slice c144.base c144.len c144.cap) ∧
        ∃ c145 : SlV, w142.cell? ((Addr.mk b3 0 none).add 2) = some (.slice c145.base c145.len c145.cap) ∧
        K c143 c144 c145 w142
      )

    ) ∧ (
      AL (.cells ⟨[]⟩ E.t_uint64) w109 fun b146 w147 =>
      w147.cell? ((Addr.mk b1 0 none).add 2) = some (.slice x7.base x7.len x7.cap) ∧
      w147.cell? ((Addr.mk b1 0 none).add 1) = some (.slice x6.base x6.len x6.cap) ∧
      w147.cell? (Addr.mk b1 0 none) = some (.slice x5.base x5.len x5.cap) ∧
      AL (.cells ⟨[]⟩ E.t_uint64) w147 fun b148 w149 =>
      w149.cell? ((Addr.mk b1 0 none).add 2) = some (.slice x7.base x7.len x7.cap) ∧
      w149.cell? ((Addr.mk b1 0 none).add 1) = some (.slice x6.base x6.len x6.cap) ∧
      w149.cell? (Addr.mk b1 0 none) = some (.slice x5.base x5.len x5.cap) ∧
      APP E.t_uint64 1 8 #[.int .u64 0] ⟨(some (Addr.mk b148 0 none)), 0, 0⟩ x5 w149 fun s150 w151 =>
      w151.cell? ((Addr.mk b1 0 none).add 2) = some (.slice x7.base x7.len x7.cap) ∧
      w151.cell? ((Addr.mk b1 0 none).add 1) = some (.slice x6.base x6.len x6.cap) ∧
      APP E.t_bool 1 1 #[.bool false] ⟨(some (Addr.mk b108 0 none)), 0, 0⟩ x6 w151 fun s152 w153 =>
      w153.cell? ((Addr.mk b1 0 none).add 2) = some (.slice x7.base x7.len x7.cap) ∧
      APP E.t_uint64 1 8 #[.int .u64 0] ⟨(some (Addr.mk b146 0 none)), 0, 0⟩ x7 w153 fun s154 w155 =>
      stCells (Addr.mk b3 0 none) 0 [.slice s150.base s150.len s150.cap, .slice s152.base s152.len s152.cap, .slice s154.base s154.len s154.cap] w155 fun w156 =>
      ∃ c157 : SlV, w156.cell? ((Addr.mk b3 0 none).add 0) = some (.slice c157.base c157.len c157.cap) ∧
      ∃ c158 : SlV, w156.cell? ((Addr.mk b3 0 none).add 1) = some (.slice c158.base c158.len c158.cap) ∧
      ∃ c159 : SlV, w156.cell? ((Addr.mk b3 0 none).add 2) = some (.slice c159.base c159.len c159.cap) ∧
      K c157 c158 c159 w156
    )

  ) ∧ (
    AL (.cells ⟨[]⟩ E.t_uint64) w4.drew fun b160 w161 =>
    w161.cell? ((Addr.mk b1 0 none).add 2) = some (.slice x7.base x7.len x7.cap) ∧
    w161.cell? ((Addr.mk b1 0 none).add 1) = some (.slice x6.base x6.len x6.cap) ∧
    w161.cell? (Addr.mk b1 0 none) = some (.slice x5.base x5.len x5.cap) ∧
    (
      AL (.cells ⟨[]⟩ E.t_uint64) w161 fun b162 w163 =>
      w163.cell? ((Addr.mk b1 0 none).add 2) = some (.slice x7.base x7.len x7.cap) ∧
      w163.cell? ((Addr.mk b1 0 none).add 1) = some (.slice x6.base x6.len x6.cap) ∧
      w163.cell? (Addr.mk b1 0 none) = some (.slice x5.base x5.len x5.cap) ∧
      (
        APP E.t_uint64 1 8 #[.int .u64 0] ⟨(some (Addr.mk b162 0 none)), 0, 0⟩ x5 w163 fun s164 w165 =>
        w165.cell? ((Addr.mk b1 0 none).add 2) = some (.slice x7.base x7.len x7.cap) ∧
        w165.cell? ((Addr.mk b1 0 none).add 1) = some (.slice x6.base x6.len x6.cap) ∧
        AL (.cells ⟨[]⟩ E.t_bool) w165 fun b166 w167 =>
        w167.cell? ((Addr.mk b1 0 none).add 2) = some (.slice x7.base x7.len x7.cap) ∧
        w167.cell? ((Addr.mk b1 0 none).add 1) = some (.slice x6.base x6.len x6.cap) ∧
        APP E.t_bool 1 1 #[.bool false] ⟨(some (Addr.mk b166 0 none)), 0, 0⟩ x6 w167 fun s168 w169 =>
        w169.cell? ((Addr.mk b1 0 none).add 2) = some (.slice x7.base x7.len x7.cap) ∧
        APP E.t_uint64 1 8 #[.int .u64 0] ⟨(some (Addr.mk b160 0 none)), 0, 0⟩ x7 w169 fun s170 w171 =>
        stCells (Addr.mk b3 0 none) 0 [.slice s164.base s164.len s164.cap, .slice s168.base s168.len s168.cap, .slice s170.base s170.len s170.cap] w171 fun w172 =>
        ∃ c173 : SlV, w172.cell? ((Addr.mk b3 0 none).add 0) = some (.slice c173.base c173.len c173.cap) ∧
        ∃ c174 : SlV, w172.cell? ((Addr.mk b3 0 none).add 1) = some (.slice c174.base c174.len c174.cap) ∧
        ∃ c175 : SlV, w172.cell? ((Addr.mk b3 0 none).add 2) = some (.slice c175.base c175.len c175.cap) ∧
        K c173 c174 c175 w172

      ) ∧ (
        AL (.cells ⟨[]⟩ E.t_bool) w163 fun b176 w177 =>
        w177.cell? ((Addr.mk b1 0 none).add 2) = some (.slice x7.base x7.len x7.cap) ∧
        w177.cell? ((Addr.mk b1 0 none).add 1) = some (.slice x6.base x6.len x6.cap) ∧
        w177.cell? (Addr.mk b1 0 none) = some (.slice x5.base x5.len x5.cap) ∧
        APP E.t_uint64 1 8 #[.int .u64 0] ⟨(some (Addr.mk b162 0 none)), 0, 0⟩ x5 w177 fun s178 w179 =>
        w179.cell? ((Addr.mk b1 0 none).add 2) = some (.slice x7.base x7.len x7.cap) ∧
        w179.cell? ((Addr.mk b1 0 none).add 1) = some (.slice x6.base x6.len x6.cap) ∧
        APP E.t_bool 1 1 #[.bool false] ⟨(some (Addr.mk b176 0 none)), 0, 0⟩ x6 w179 fun s180 w181 =>
        w181.cell? ((Addr.mk b1 0 none).add 2) = some (.slice x7.base x7.len x7.cap) ∧
        APP E.t_uint64 1 8 #[.int .u64 0] ⟨(some (Addr.mk b160 0 none)), 0, 0⟩ x7 w181 fun s182 w183 =>
        stCells (Addr.mk b3 0 none) 0 [.slice s178.base s178.len s178.cap, .slice s180.base s180.len s180.cap, .slice s182.base s182.len s182.cap] w183 fun w184 =>
        ∃ c185 : SlV, w184.cell? ((Addr.mk b3 0 none).add 0) = some (.slice c185.base c185.len c185.cap) ∧
        ∃ c186 : SlV, w184.cell? ((Addr.mk b3 0 none).add 1) = some (.slice c186.base c186.len c186.cap) ∧
        ∃ c187 : SlV, w184.cell? ((Addr.mk b3 0 none).add 2) = some (.slice c187.base c187.len c187.cap) ∧
        K c185 c186 c187 w184
      )

    ) ∧ (
      AL (.cells ⟨[]⟩ E.t_bool) w161 fun b188 w189 =>
      w189.cell? ((Addr.mk b1 0 none).add 2) = some (.slice x7.base x7.len x7.cap) ∧
      w189.cell? ((Addr.mk b1 0 none).add 1) = some (.slice x6.base x6.len x6.cap) ∧
      w189.cell? (Addr.mk b1 0 none) = some (.slice x5.base x5.len x5.cap) ∧
      AL (.cells ⟨[]⟩ E.t_uint64) w189 fun b190 w191 =>
      w191.cell? ((Addr.mk b1 0 none).add 2) = some (.slice x7.base x7.len x7.cap) ∧
      w191.cell? ((Addr.mk b1 0 none).add 1) = some (.slice x6.base x6.len x6.cap) ∧
      w191.cell? (Addr.mk b1 0 none) = some (.slice x5.base x5.len x5.cap) ∧
      APP E.t_uint64 1 8 #[.int .u64 0] ⟨(some (Addr.mk b190 0 none)), 0, 0⟩ x5 w191 fun s192 w193 =>
      w193.cell? ((Addr.mk b1 0 none).add 2) = some (.slice x7.base x7.len x7.cap) ∧
      w193.cell? ((Addr.mk b1 0 none).add 1) = some (.slice x6.base x6.len x6.cap) ∧
      APP E.t_bool 1 1 #[.bool false] ⟨(some (Addr.mk b188 0 none)), 0, 0⟩ x6 w193 fun s194 w195 =>
      w195.cell? ((Addr.mk b1 0 none).add 2) = some (.slice x7.base x7.len x7.cap) ∧
      APP E.t_uint64 1 8 #[.int .u64 0] ⟨(some (Addr.mk b160 0 none)), 0, 0⟩ x7 w195 fun s196 w197 =>
      stCells (Addr.mk b3 0 none) 0 [.slice s192.base s192.len s192.cap, .slice s194.base s194.len s194.cap, .slice s196.base s196.len s196.cap] w197 fun w198 =>
      ∃ c199 : SlV, w198.cell? ((Addr.mk b3 0 none).add 0) = some (.slice c199.base c199.len c199.cap) ∧
      ∃ c200 : SlV, w198.cell? ((Addr.mk b3 0 none).add 1) = some (.slice c200.base c200.len c200.cap) ∧
      ∃ c201 : SlV, w198.cell? ((Addr.mk b3 0 none).add 2) = some (.slice c201.base c201.len c201.cap) ∧
      K c199 c200 c201 w198
    )
  )

def F.mallowref3_New (E : Env) (a0_0 : SlV) (a0_1 : SlV) (a0_2 : SlV) (K : (Option Addr) → World → Prop) (w : World) : Prop :=
  AL (.cells #[.slice a0_0.base a0_0.len a0_0.cap, .slice a0_1.base a0_1.len a0_1.cap, .slice a0_2.base a0_2.len a0_2.cap] E.t_api_Answers) w fun b1 w2 =>
  ∃ x3 : SlV, w2.drew.cell? (Addr.mk b1 0 none) = some (.slice x3.base x3.len x3.cap) ∧
  ∃ x4 : SlV, w2.drew.cell? ((Addr.mk b1 0 none).add 1) = some (.slice x4.base x4.len x4.cap) ∧
  ∃ x5 : SlV, w2.drew.cell? ((Addr.mk b1 0 none).add 2) = some (.slice x5.base x5.len x5.cap) ∧
  (
    AL (.cells ⟨[]⟩ E.t_uint64) w2.drew fun b6 w7 =>
    w7.cell? ((Addr.mk b1 0 none).add 2) = some (.slice x5.base x5.len x5.cap) ∧
    w7.cell? ((Addr.mk b1 0 none).add 1) = some (.slice x4.base x4.len x4.cap) ∧
    w7.cell? (Addr.mk b1 0 none) = some (.slice x3.base x3.len x3.cap) ∧
    (
      APP E.t_uint64 1 8 #[.int .u64 0] ⟨(some (Addr.mk b6 0 none)), 0, 0⟩ x3 w7 fun s8 w9 =>
      w9.cell? ((Addr.mk b1 0 none).add 2) = some (.slice x5.base x5.len x5.cap) ∧
      w9.cell? ((Addr.mk b1 0 none).add 1) = some (.slice x4.base x4.len x4.cap) ∧
      (
        AL (.cells ⟨[]⟩ E.t_bool) w9 fun b10 w11 =>
        w11.cell? ((Addr.mk b1 0 none).add 2) = some (.slice x5.base x5.len x5.cap) ∧
        w11.cell? ((Addr.mk b1 0 none).add 1) = some (.slice x4.base x4.len x4.cap) ∧
        (
          APP E.t_bool 1 1 #[.bool false] ⟨(some (Addr.mk b10 0 none)), 0, 0⟩ x4 w11 fun s12 w13 =>
          w13.cell? ((Addr.mk b1 0 none).add 2) = some (.slice x5.base x5.len x5.cap) ∧
          AL (.cells ⟨[]⟩ E.t_uint64) w13 fun b14 w15 =>
          w15.cell? ((Addr.mk b1 0 none).add 2) = some (.slice x5.base x5.len x5.cap) ∧
          APP E.t_uint64 1 8 #[.int .u64 0] ⟨(some (Addr.mk b14 0 none)), 0, 0⟩ x5 w15 fun s16 w17 =>
          AL (.cells #[.slice s8.base s8.len s8.cap, .slice s12.base s12.len s12.cap, .slice s16.base s16.len s16.cap, .slice none 0 0, .slice none 0 0] E.t_mallowref3_Mem) w17 fun b18 w19 =>
          K (some (Addr.mk b18 0 none)) w19

        ) ∧ (
          AL (.cells ⟨[]⟩ E.t_uint64) w11 fun b20 w21 =>
          w21.cell? ((Addr.mk b1 0 none).add 2) = some (.slice x5.base x5.len x5.cap) ∧
          w21.cell? ((Addr.mk b1 0 none).add 1) = some (.slice x4.base x4.len x4.cap) ∧
          APP E.t_bool 1 1 #[.bool false] ⟨(some (Addr.mk b10 0 none)), 0, 0⟩ x4 w21 fun s22 w23 =>
          w23.cell? ((Addr.mk b1 0 none).add 2) = some (.slice x5.base x5.len x5.cap) ∧
          APP E.t_uint64 1 8 #[.int .u64 0] ⟨(some (Addr.mk b20 0 none)), 0, 0⟩ x5 w23 fun s24 w25 =>
          AL (.cells #[.slice s8.base s8.len s8.cap, .slice s22.base s22.len s22.cap, .slice s24.base s24.len s24.cap, .slice none 0 0, .slice none 0 0] E.t_mallowref3_Mem) w25 fun b26 w27 =>
          K (some (Addr.mk b26 0 none)) w27
        )

      ) ∧ (
        AL (.cells ⟨[]⟩ E.t_uint64) w9 fun b28 w29 =>
        w29.cell? ((Addr.mk b1 0 none).add 2) = some (.slice x5.base x5.len x5.cap) ∧
        w29.cell? ((Addr.mk b1 0 none).add 1) = some (.slice x4.base x4.len x4.cap) ∧
        AL (.cells ⟨[]⟩ E.t_bool) w29 fun b30 w31 =>
        w31.cell? ((Addr.mk b1 0 none).add 2) = some (.slice x5.base x5.len x5.cap) ∧
        w31.cell? ((Addr.mk b1 0 none).add 1) = some (.slice x4.base x4.len x4.cap) ∧
        APP E.t_bool 1 1 #[.bool false] ⟨(some (Addr.mk b30 0 none)), 0, 0⟩ x4 w31 fun s32 w33 =>
        w33.cell? ((Addr.mk b1 0 none).add 2) = some (.slice x5.base x5.len x5.cap) ∧
        APP E.t_uint64 1 8 #[.int .u64 0] ⟨(some (Addr.mk b28 0 none)), 0, 0⟩ x5 w33 fun s34 w35 =>
        AL (.cells #[.slice s8.base s8.len s8.cap, .slice s32.base s32.len s32.cap, .slice s34.base s34.len s34.cap, .slice none 0 0, .slice none 0 0] E.t_mallowref3_Mem) w35 fun b36 w37 =>
        K (some (Addr.mk b36 0 none)) w37
      )

    ) ∧ (
      AL (.cells ⟨[]⟩ E.t_bool) w7 fun b38 w39 =>
      w39.cell? ((Addr.mk b1 0 none).add 2) = some (.slice x5.base x5.len x5.cap) ∧
      w39.cell? ((Addr.mk b1 0 none).add 1) = some (.slice x4.base x4.len x4.cap) ∧
      w39.cell? (Addr.mk b1 0 none) = some (.slice x3.base x3.len x3.cap) ∧
      (
        APP E.t_uint64 1 8 #[.int .u64 0] ⟨(some (Addr.mk b6 0 none)), 0, 0⟩ x3 w39 fun s40 w41 =>
        w41.cell? ((Addr.mk b1 0 none).add 2) = some (.slice x5.base x5.len x5.cap) ∧
        w41.cell? ((Addr.mk b1 0 none).add 1) = some (.slice x4.base x4.len x4.cap) ∧
        (
          APP E.t_bool 1 1 #[.bool false] ⟨(some (Addr.mk b38 0 none)), 0, 0⟩ x4 w41 fun s42 w43 =>
          w43.cell? ((Addr.mk b1 0 none).add 2) = some (.slice x5.base x5.len x5.cap) ∧
          AL (.cells ⟨[]⟩ E.t_uint64) w43 fun b44 w45 =>
          w45.cell? ((Addr.mk b1 0 none).add 2) = some (.slice x5.base x5.len x5.cap) ∧
          APP E.t_uint64 1 8 #[.int .u64 0] ⟨(some (Addr.mk b44 0 none)), 0, 0⟩ x5 w45 fun s46 w47 =>
          AL (.cells #[.slice s40.base s40.len s40.cap, .slice s42.base s42.len s42.cap, .slice s46.base s46.len s46.cap, .slice none 0 0, .slice none 0 0] E.t_mallowref3_Mem) w47 fun b48 w49 =>
          K (some (Addr.mk b48 0 none)) w49

        ) ∧ (
          AL (.cells ⟨[]⟩ E.t_uint64) w41 fun b50 w51 =>
          w51.cell? ((Addr.mk b1 0 none).add 2) = some (.slice x5.base x5.len x5.cap) ∧
          w51.cell? ((Addr.mk b1 0 none).add 1) = some (.slice x4.base x4.len x4.cap) ∧
          APP E.t_bool 1 1 #[.bool false] ⟨(some (Addr.mk b38 0 none)), 0, 0⟩ x4 w51 fun s52 w53 =>
          w53.cell? ((Addr.mk b1 0 none).add 2) = some (.slice x5.base x5.len x5.cap) ∧
          APP E.t_uint64 1 8 #[.int .u64 0] ⟨(some (Addr.mk b50 0 none)), 0, 0⟩ x5 w53 fun s54 w55 =>
          AL (.cells #[.slice s40.base s40.len s40.cap, .slice s52.base s52.len s52.cap, .slice s54.base s54.len s54.cap, .slice none 0 0, .slice none 0 0] E.t_mallowref3_Mem) w55 fun b56 w57 =>
          K (some (Addr.mk b56 0 none)) w57
        )

      ) ∧ (
        AL (.cells ⟨[]⟩ E.t_uint64) w39 fun b58 w59 =>
        w59.cell? ((Addr.mk b1 0 none).add 2) = some (.slice x5.base x5.len x5.cap) ∧
        w59.cell? ((Addr.mk b1 0 none).add 1) = some (.slice x4.base x4.len x4.cap) ∧
        w59.cell? (Addr.mk b1 0 none) = some (.slice x3.base x3.len x3.cap) ∧
        APP E.t_uint64 1 8 #[.int .u64 0] ⟨(some (Addr.mk b6 0 none)), 0, 0⟩ x3 w59 fun s60 w61 =>
        w61.cell? ((Addr.mk b1 0 none).add 2) = some (.slice x5.base x5.len x5.cap) ∧
        w61.cell? ((Addr.mk b1 0 none).add 1) = some (.slice x4.base x4.len x4.cap) ∧
        APP E.t_bool 1 1 #[.bool false] ⟨(some (Addr.mk b38 0 none)), 0, 0⟩ x4 w61 fun s62 w63 =>
        w63.cell? ((Addr.mk b1 0 none).add 2) = some (.slice x5.base x5.len x5.cap) ∧
        APP E.t_uint64 1 8 #[.int .u64 0] ⟨(some (Addr.mk b58 0 none)), 0, 0⟩ x5 w63 fun s64 w65 =>
        AL (.cells #[.slice s60.base s60.len s60.cap, .slice s62.base s62.len s62.cap, .slice s64.base s64.len s64.cap, .slice none 0 0, .slice none 0 0] E.t_mallowref3_Mem) w65 fun b66 w67 =>
        K (some (Addr.mk b66 0 none)) w67
      )

    ) ∧ (
      AL (.cells ⟨[]⟩ E.t_uint64) w7 fun b68 w69 =>
      w69.cell? ((Addr.mk b1 0 none).add 2) = some (.slice x5.base x5.len x5.cap) ∧
      w69.cell? ((Addr.mk b1 0 none).add 1) = some (.slice x4.base x4.len x4.cap) ∧
      w69.cell? (Addr.mk b1 0 none) = some (.slice x3.base x3.len x3.cap) ∧
      (
        APP E.t_uint64 1 8 #[.int .u64 0] ⟨(some (Addr.mk b6 0 none)), 0, 0⟩ x3 w69 fun s70 w71 =>
        w71.cell? ((Addr.mk b1 0 none).add 2) = some (.slice x5.base x5.len x5.cap) ∧
        w71.cell? ((Addr.mk b1 0 none).add 1) = some (.slice x4.base x4.len x4.cap) ∧
        AL (.cells ⟨[]⟩ E.t_bool) w71 fun b72 w73 =>
        w73.cell? ((Addr.mk b1 0 none).add 2) = some (.slice x5.base x5.len x5.cap) ∧
        w73.cell? ((Addr.mk b1 0 none).add 1) = some (.slice x4.base x4.len x4.cap) ∧
        APP E.t_bool 1 1 #[.bool false] ⟨(some (Addr.mk b72 0 none)), 0, 0⟩ x4 w73 fun s74 w75 =>
        w75.cell? ((Addr.mk b1 0 none).add 2) = some (.slice x5.base x5.len x5.cap) ∧
        APP E.t_uint64 1 8 #[.int .u64 0] ⟨(some (Addr.mk b68 0 none)), 0, 0⟩ x5 w75 fun s76 w77 =>
        AL (.cells #[.slice s70.base s70.len s70.cap, .slice s74.base s74.len s74.cap, .slice s76.base s76.len s76.cap, .slice none 0 0, .slice none 0 0] E.t_mallowref3_Mem) w77 fun b78 w79 =>
        K (some (Addr.mk b78 0 none)) w79

      ) ∧ (
        AL (.cells ⟨[]⟩ E.t_bool) w69 fun b80 w81 =>
        w81.cell? ((Addr.mk b1 0 none).add 2) = some (.slice x5.base x5.len x5.cap) ∧
        w81.cell? ((Addr.mk b1 0 none).add 1) = some (.slice x4.base x4.len x4.cap) ∧
        w81.cell? (Addr.mk b1 0 none) = some (.slice x3.base x3.len x3.cap) ∧
        APP E.t_uint64 1 8 #[.int .u64 0] ⟨(some (Addr.mk b6 0 none)), 0, 0⟩ x3 w81 fun s82 w83 =>
        w83.cell? ((Addr.mk b1 0 none).add 2) = some (.slice x5.base x5.len x5.cap) ∧
        w83.cell? ((Addr.mk b1 0 none).add 1) = some (.slice x4.base x4.len x4.cap) ∧
        APP E.t_bool 1 1 #[.bool false] ⟨(some (Addr.mk b80 0 none)), 0, 0⟩ x4 w83 fun s84 w85 =>
        w85.cell? ((Addr.mk b1 0 none).add 2) = some (.slice x5.base x5.len x5.cap) ∧
        APP E.t_uint64 1 8 #[.int .u64 0] ⟨(some (Addr.mk b68 0 none)), 0, 0⟩ x5 w85 fun s86 w87 =>
        AL (.cells #[.slice s82.base s82.len s82.cap, .slice s84.base s84.len s84.cap, .slice s86.base s86.len s86.cap, .slice none 0 0, .slice none 0 0] E.t_mallowref3_Mem) w87 fun b88 w89 =>
        K (some (Addr.mk b88 0 none)) w89
      )
    )

  ) ∧ (
    AL (.cells ⟨[]⟩ E.t_bool) w2.drew fun b90 w91 =>
    w91.cell? ((Addr.mk b1 0 none).add 2) = some (.slice x5.base x5.len x5.cap) ∧
    w91.cell? ((Addr.mk b1 0 none).add 1) = some (.slice x4.base x4.len x4.cap) ∧
    w91.cell? (Addr.mk b1 0 none) = some (.slice x3.base x3.len x3.cap) ∧
    (
      AL (.cells ⟨[]⟩ E.t_uint64) w91 fun b92 w93 =>
      w93.cell? ((Addr.mk b1 0 none).add 2) = some (.slice x5.base x5.len x5.cap) ∧
      w93.cell? ((Addr.mk b1 0 none).add 1) = some (.slice x4.base x4.len x4.cap) ∧
      w93.cell? (Addr.mk b1 0 none) = some (.slice x3.base x3.len x3.cap) ∧
      (
        APP E.t_uint64 1 8 #[.int .u64 0] ⟨(some (Addr.mk b92 0 none)), 0, 0⟩ x3 w93 fun s94 w95 =>
        w95.cell? ((Addr.mk b1 0 none).add 2) = some (.slice x5.base x5.len x5.cap) ∧
        w95.cell? ((Addr.mk b1 0 none).add 1) = some (.slice x4.base x4.len x4.cap) ∧
        (
          APP E.t_bool 1 1 #[.bool false] ⟨(some (Addr.mk b90 0 none)), 0, 0⟩ x4 w95 fun s96 w97 =>
          w97.cell? ((Addr.mk b1 0 none).add 2) = some (.slice x5.base x5.len x5.cap) ∧
          AL (.cells ⟨[]⟩ E.t_uint64) w97 fun b98 w99 =>
          w99.cell? ((Addr.mk b1 0 none).add 2) = some (.slice x5.base x5.len x5.cap) ∧
          APP E.t_uint64 1 8 #[.int .u64 0] ⟨(some (Addr.mk b98 0 none)), 0, 0⟩ x5 w99 fun s100 w101 =>
          AL (.cells #[.slice s94.base s94.len s94.cap, .slice s96.base s96.len s96.cap, .slice s100.base s100.len s100.cap, .slice none 0 0, .slice none 0 0] E.t_mallowref3_Mem) w101 fun b102 w103 =>
          K (some (Addr.mk b102 0 none)) w103

        ) ∧ (
          AL (.cells ⟨[]⟩ E.t_uint64) w95 fun b104 w105 =>
          w105.cell? ((Addr.mk b1 0 none).add 2) = some (.slice x5.base x5.len x5.cap) ∧
          w105.cell? ((Addr.mk b1 0 none).add 1) = some (.slice x4.base x4.len x4.cap) ∧
          APP E.t_bool 1 1 #[.bool false] ⟨(some (Addr.mk b90 0 none)), 0, 0⟩ x4 w105 fun s106 w107 =>
          w107.cell? ((Addr.mk b1 0 none).add 2) = some (.slice x5.base x5.len x5.cap) ∧
          APP E.t_uint64 1 8 #[.int .u64 0] ⟨(some (Addr.mk b104 0 none)), 0, 0⟩ x5 w107 fun s108 w109 =>
          AL (.cells #[.slice s94.base s94.len s94.cap, .slice s106.base s106.len s106.cap, .slice s108.base s108.len s108.cap, .slice none 0 0, .slice none 0 0] E.t_mallowref3_Mem) w109 fun b110 w111 =>
          K (some (Addr.mk b110 0 none)) w111
        )

      ) ∧ (
        AL (.cells ⟨[]⟩ E.t_uint64) w93 fun b112 w113 =>
        w113.cell? ((Addr.mk b1 0 none).add 2) = some (.slice x5.base x5.len x5.cap) ∧
        w113.cell? ((Addr.mk b1 0 none).add 1) = some (.slice x4.base x4.len x4.cap) ∧
        w113.cell? (Addr.mk b1 0 none) = some (.slice x3.base x3.len x3.cap) ∧
        APP E.t_uint64 1 8 #[.int .u64 0] ⟨(some (Addr.mk b92 0 none)), 0, 0⟩ x3 w113 fun s114 w115 =>
        w115.cell? ((Addr.mk b1 0 none).add 2) = some (.slice x5.base x5.len x5.cap) ∧
        w115.cell? ((Addr.mk b1 0 none).add 1) = some (.slice x4.base x4.len x4.cap) ∧
        APP E.t_bool 1 1 #[.bool false] ⟨(some (Addr.mk b90 0 none)), 0, 0⟩ x4 w115 fun s116 w117 =>
        w117.cell? ((Addr.mk b1 0 none).add 2) = some (.slice x5.base x5.len x5.cap) ∧
        APP E.t_uint64 1 8 #[.int .u64 0] ⟨(some (Addr.mk b112 0 none)), 0, 0⟩ x5 w117 fun s118 w119 =>
        AL (.cells #[.slice s114.base s114.len s114.cap, .slice s116.base s116.len s116.cap, .slice s118.base s118.len s118.cap, .slice none 0 0, .slice none 0 0] E.t_mallowref3_Mem) w119 fun b120 w121 =>
        K (some (Addr.mk b120 0 none)) w121
      )

    ) ∧ (
      AL (.cells ⟨[]⟩ E.t_uint64) w91 fun b122 w123 =>
      w123.cell? ((Addr.mk b1 0 none).add 2) = some (.slice x5.base x5.len x5.cap) ∧
      w123.cell? ((Addr.mk b1 0 none).add 1) = some (.slice x4.base x4.len x4.cap) ∧
      w123.cell? (Addr.mk b1 0 none) = some (.slice x3.base x3.len x3.cap) ∧
      AL (.cells ⟨[]⟩ E.t_uint64) w123 fun b124 w125 =>
      w125.cell? ((Addr.mk b1 0 none).add 2) = some (.slice x5.base x5.len x5.cap) ∧
      w125.cell? ((Addr.mk b1 0 none).add 1) = some (.slice x4.base x4.len x4.cap) ∧
      w125.cell? (Addr.mk b1 0 none) = some (.slice x3.base x3.len x3.cap) ∧
      APP E.t_uint64 1 8 #[.int .u64 0] ⟨(some (Addr.mk b124 0 none)), 0, 0⟩ x3 w125 fun s126 w127 =>
      w127.cell? ((Addr.mk b1 0 none).add 2) = some (.slice x5.base x5.len x5.cap) ∧
      w127.cell? ((Addr.mk b1 0 none).add 1) = some (.slice x4.base x4.len x4.cap) ∧
      APP E.t_bool 1 1 #[.bool false] ⟨(some (Addr.mk b90 0 none)), 0, 0⟩ x4 w127 fun s128 w129 =>
      w129.cell? ((Addr.mk b1 0 none).add 2) = some (.slice x5.base x5.len x5.cap) ∧
      APP E.t_uint64 1 8 #[.int .u64 0] ⟨(some (Addr.mk b122 0 none)), 0, 0⟩ x5 w129 fun s130 w131 =>
      AL (.cells #[.slice s126.base s126.len s126.cap, .slice s128.base s128.len s128.cap, .slice s130.base s130.len s130.cap, .slice none 0 0, .slice none 0 0] E.t_mallowref3_Mem) w131 fun b132 w133 =>
      K (some (Addr.mk b132 0 none)) w133
    )

  ) ∧ (
    AL (.cells ⟨[]⟩ E.t_uint64) w2.drew fun b134 w135 =>
    w135.cell? ((Addr.mk b1 0 none).add 2) = some (.slice x5.base x5.len x5.cap) ∧
    w135.cell? ((Addr.mk b1 0 none).add 1) = some (.slice x4.base x4.len x4.cap) ∧
    w135.cell? (Addr.mk b1 0 none) = some (.slice x3.base x3.len x3.cap) ∧
    (
      AL (.cells ⟨[]⟩ E.t_uint64) w135 fun b136 w137 =>
      w137.cell? ((Addr.mk b1 0 none).add 2) = some (.slice x5.base x5.len x5.cap) ∧
      w137.cell? ((Addr.mk b1 0 none).add 1) = some (.slice x4.base x4.len x4.cap) ∧
      w137.cell? (Addr.mk b1 0 none) = some (.slice x3.base x3.len x3.cap) ∧
      (
        APP E.t_uint64 1 8 #[.int .u64 0] ⟨(some (Addr.mk b136 0 none)), 0, 0⟩ x3 w137 fun s138 w139 =>
        w139.cell? ((Addr.mk b1 0 none).add 2) = some (.slice x5.base x5.len x5.cap) ∧
        w139.cell? ((Addr.mk b1 0 none).add 1) = some (.slice x4.base x4.len x4.cap) ∧
        AL (.cells ⟨[]⟩ E.t_bool) w139 fun b140 w141 =>
        w141.cell? ((Addr.mk b1 0 none).add 2) = some (.slice x5.base x5.len x5.cap) ∧
        w141.cell? ((Addr.mk b1 0 none).add 1) = some (.slice x4.base x4.len x4.cap) ∧
        APP E.t_bool 1 1 #[.bool false] ⟨(some (Addr.mk b140 0 none)), 0, 0⟩ x4 w141 fun s142 w143 =>
        w143.cell? ((Addr.mk b1 0 none).add 2) = some (.slice x5.base x5.len x5.cap) ∧
        APP E.t_uint64 1 8 #[.int .u64 0] ⟨(some (Addr.mk b134 0 none)), 0, 0⟩ x5 w143 fun s144 w145 =>
        AL (.cells #[.slice s138.base s138.len s138.cap, .slice s142.base s142.len s142.cap, .slice s144.base s144.len s144.cap, .slice none 0 0, .slice none 0 0] E.t_mallowref3_Mem) w145 fun b146 w147 =>
        K (some (Addr.mk b146 0 none)) w147

      ) ∧ (
        AL (.cells ⟨[]⟩ E.t_bool) w137 fun b148 w149 =>
        w149.cell? ((Addr.mk b1 0 none).add 2) = some (.slice x5.base x5.len x5.cap) ∧
        w149.cell? ((Addr.mk b1 0 none).add 1) = some (.slice x4.base x4.len x4.cap) ∧
        w149.cell? (Addr.mk b1 0 none) = some (.slice x3.base x3.len x3.cap) ∧
        APP E.t_uint64 1 8 #[.int .u64 0] ⟨(some (Addr.mk b136 0 none)), 0, 0⟩ x3 w149 fun s150 w151 =>
        w151.cell? ((Addr.mk b1 0 none).add 2) = some (.slice x5.base x5.len x5.cap) ∧
        w151.cell? ((Addr.mk b1 0 none).add 1) = some (.slice x4.base x4.len x4.cap) ∧
        APP E.t_bool 1 1 #[.bool false] ⟨(some (Addr.mk b148 0 none)), 0, 0⟩ x4 w151 fun s152 w153 =>
        w153.cell? ((Addr.mk b1 0 none).add 2) = some (.slice x5.base x5.len x5.cap) ∧
        APP E.t_uint64 1 8 #[.int .u64 0] ⟨(some (Addr.mk b134 0 none)), 0, 0⟩ x5 w153 fun s154 w155 =>
        AL (.cells #[.slice s150.base s150.len s150.cap, .slice s152.base s152.len s152.cap, .slice s154.base s154.len s154.cap, .slice none 0 0, .slice none 0 0] E.t_mallowref3_Mem) w155 fun b156 w157 =>
        K (some (Addr.mk b156 0 none)) w157
      )

    ) ∧ (
      AL (.cells ⟨[]⟩ E.t_bool) w135 fun b158 w159 =>
      w159.cell? ((Addr.mk b1 0 none).add 2) = some (.slice x5.base x5.len x5.cap) ∧
      w159.cell? ((Addr.mk b1 0 none).add 1) = some (.slice x4.base x4.len x4.cap) ∧
      w159.cell? (Addr.mk b1 0 none) = some (.slice x3.base x3.len x3.cap) ∧
      AL (.cells ⟨[]⟩ E.t_uint64) w159 fun b160 w161 =>
      w161.cell? ((Addr.mk b1 0 none).add 2) = some (.slice x5.base x5.len x5.cap) ∧
      w161.cell? ((Addr.mk b1 0 none).add 1) = some (.slice x4.base x4.len x4.cap) ∧
      w161.cell? (Addr.mk b1 0 none) = some (.slice x3.base x3.len x3.cap) ∧
      APP E.t_uint64 1 8 #[.int .u64 0] ⟨(some (Addr.mk b160 0 none)), 0, 0⟩ x3 w161 fun s162 w163 =>
      w163.cell? ((Addr.mk b1 0 none).add 2) = some (.slice x5.base x5.len x5.cap) ∧
      w163.cell? ((Addr.mk b1 0 none).add 1) = some (.slice x4.base x4.len x4.cap) ∧
      APP E.t_bool 1 1 #[.bool false] ⟨(some (Addr.mk b158 0 none)), 0, 0⟩ x4 w163 fun s164 w165 =>
      w165.cell? ((Addr.mk b1 0 none).add 2) = some (.slice x5.base x5.len x5.cap) ∧
      APP E.t_uint64 1 8 #[.int .u64 0] ⟨(some (Addr.mk b134 0 none)), 0, 0⟩ x5 w165 fun s166 w167 =>
      AL (.cells #[.slice s162.base s162.len s162.cap, .slice s164.base s164.len s164.cap, .slice s166.base s166.len s166.cap, .slice none 0 0, .slice none 0 0] E.t_mallowref3_Mem) w167 fun b168 w169 =>
      K (some (Addr.mk b168 0 none)) w169
    )
  )

def F.mallowref3_Mem_refuses (E : Env) (a0 : (Option Addr)) (K : Bool → World → Prop) (w : World) : Prop :=
  NC a0 fun p1 =>
  ∃ x2 : SlV, w.cell? (p1.add 1) = some (.slice x2.base x2.len x2.cap) ∧
  CND ((((x2.len : Nat) : Int) : Int) == 0) (
    K false w
  ) (
    NC a0 fun p3 =>
    ∃ x4 : SlV, w.cell? (p3.add 1) = some (.slice x4.base x4.len x4.cap) ∧
    NC x4.base fun p5 =>
    ((0 : Int) ≤ 0 ∧ (0 : Int) < (x4.len : Nat)) ∧
    ∃ x6 : Bool, w.cell? (p5.add (Int.toNat 0 * 1)) = some (.bool x6) ∧
    NC a0 fun p7 =>
    ∃ x8 : SlV, w.cell? (p7.add 1) = some (.slice x8.base x8.len x8.cap) ∧
    ((0 : Int) ≤ 1 ∧ (1 : Int) ≤ (x8.len : Nat)) ∧
    NC a0 fun p9 =>
    stCells (p9.add 1) 0 [.slice (slB x8.base x8.cap (Int.toNat 1) 1) (x8.len - (Int.toNat 1)) (x8.cap - (Int.toNat 1))] w fun w10 =>
    K x6 w10
  )

def F.mallowref3_right (E : Env) (a0 : Int) (a1 : Int) (K : Bool → World → Prop) (w : World) : Prop :=
  CND (decide ((a1 : Int) > 0)) (
    CND (decide ((a0 : Int) < 34359738368)) (
      K (decide ((a1 : Int) ≤ (u64 (34359738368 - a0)))) w
    ) (
      K false w
    )
  ) (
    K false w
  )

def F.mallowref3_Mem_find (E : Env) (a0 : (Option Addr)) (a1 : Int) (K : Int → Bool → World → Prop) (w : World) : Prop :=
  NC a0 fun p1 =>
  ∃ x2 : SlV, w.drew.cell? (p1.add 3) = some (.slice x2.base x2.len x2.cap) ∧
  LOOP (Int × Int × Unit) (0, ((x2.len : Nat) : Int), ()) w.drew fun s3 _ w4 next5 =>
    CND (decide ((s3.1 : Int) < s3.2.1)) (
      2 ≠ (0 : Int) ∧
      LET (i64 (Int.tdiv (i64 (s3.1 + s3.2.1)) 2) : Int) fun mid_6 =>
      NC a0 fun p7 =>
      ∃ x8 : SlV, w4.cell? (p7.add 3) = some (.slice x8.base x8.len x8.cap) ∧
      NC x8.base fun p9 =>
      ((0 : Int) ≤ mid_6 ∧ (mid_6 : Int) < (x8.len : Nat)) ∧
      ∃ x10 : Int, w4.cell? (p9.add (Int.toNat mid_6 * 3)) = some (.int .u64 x10) ∧
      CND (decide ((x10 : Int) < a1)) (
        next5 (i64 (mid_6 + 1), s3.2.1, ()) w4
      ) (
        next5 (s3.1, mid_6, ()) w4
      )
    ) (
      NC a0 fun p11 =>
      ∃ x12 : SlV, w4.drew.cell? (p11.add 3) = some (.slice x12.base x12.len x12.cap) ∧
      CND (decide ((s3.1 : Int) < ((x12.len : Nat) : Int))) (
        NC a0 fun p13 =>
        ∃ x14 : SlV, w4.drew.cell? (p13.add 3) = some (.slice x14.base x14.len x14.cap) ∧
        NC x14.base fun p15 =>
        ((0 : Int) ≤ s3.1 ∧ (s3.1 : Int) < (x14.len : Nat)) ∧
        ∃ x16 : Int, w4.drew.cell? (p15.add (Int.toNat s3.1 * 3)) = some (.int .u64 x16) ∧
        K s3.1 ((x16 : Int) == a1) w4.drew
      ) (
        K s3.1 false w4.drew
      )
    )

def F.mallowref3_Mem_clear (E : Env) (a0 : (Option Addr)) (a1 : Int) (a2 : Int) (K : Int → Bool → World → Prop) (w : World) : Prop :=
  F.mallowref3_Mem_find E a0 a1 (fun r1 r2 w3 =>
  JOIN (Bool × Unit) (fun J4 =>
    NC a0 fun p7 =>
    ∃ x8 : SlV, w3.cell? (p7.add 3) = some (.slice x8.base x8.len x8.cap) ∧
    CND (decide ((r1 : Int) < ((x8.len : Nat) : Int))) (
      NC a0 fun p9 =>
      ∃ x10 : SlV, w3.cell? (p9.add 3) = some (.slice x10.base x10.len x10.cap) ∧
      NC x10.base fun p11 =>
      ((0 : Int) ≤ r1 ∧ (r1 : Int) < (x10.len : Nat)) ∧
      ∃ x12 : Int, w3.cell? (p11.add (Int.toNat r1 * 3)) = some (.int .u64 x12) ∧
      J4 (decide ((x12 : Int) < (u64 (a1 + a2))), ()) w3
    ) (
      J4 (false, ()) w3
    )
  ) fun s5 _ w6 =>
    CND (s5.1) (
      NC a0 fun p13 =>
      ∃ x14 : SlV, w6.cell? (p13.add 3) = some (.slice x14.base x14.len x14.cap) ∧
      NC x14.base fun p15 =>
      ((0 : Int) ≤ r1 ∧ (r1 : Int) < (x14.len : Nat)) ∧
      ∃ x16 : Int, w6.cell? (p15.add (Int.toNat r1 * 3)) = some (.int .u64 x16) ∧
      K (u64 (x16 + 1)) false w6
    ) (
      K 0 true w6
    )
  ) w

def F.mallowref3_Mem_first (E : Env) (a0 : (Option Addr)) (a1 : Int) (a2 : Int) (K : Int → Bool → World → Prop) (w : World) : Prop :=
  JOIN (Int × Unit) (fun J1 =>
    CND ((a1 : Int) == 0) (
      J1 (512, ()) w
    ) (
      J1 (a1, ()) w
    )
  ) fun s2 _ w3 =>
    LOOP (Int × Unit) (s2.1, ()) w3 fun s4 _ w5 next6 =>
      CND (decide ((s4.1 : Int) ≥ 34359738368)) (
        K 0 false w5
      ) (
        JOIN (Int × Unit) (fun J7 =>
          512 ≠ (0 : Int) ∧
          CND (((Int.tmod s4.1 512) : Int) != 0) (
            512 ≠ (0 : Int) ∧
            LET (u64 ((u64 (s4.1 + 512)) - (Int.tmod s4.1 512)) : Int) fun page_10 =>
            J7 (page_10, ()) w5
          ) (
            J7 (s4.1, ()) w5
          )
        ) fun s8 _ w9 =>
          JOIN (Bool × Unit) (fun J11 =>
            CND (decide ((s8.1 : Int) ≥ 34359738368)) (
              J11 (true, ()) w9
            ) (
              J11 (decide ((a2 : Int) > (u64 (34359738368 - s8.1))), ()) w9
            )
          ) fun s12 _ w13 =>
            CND (s12.1) (
              K 0 false w13
            ) (
              F.mallowref3_Mem_clear E a0 s8.1 a2 (fun r14 r15 w16 =>
              CND (r15) (
                K s8.1 true w16
              ) (
                next6 (r14, ()) w16
              )
              ) w13
            )
      )

def F.mallowref3_Mem_Reserve (E : Env) (a0 : (Option Addr)) (a1 : Int) (a2 : Int) (K : Int → Int → World → Prop) (w : World) : Prop :=
  JOIN (Bool × Unit) (fun J1 =>
    CND ((a2 : Int) == 0) (
      J1 (true, ()) w
    ) (
      512 ≠ (0 : Int) ∧
      CND (((Int.tmod a2 512) : Int) != 0) (
        J1 (true, ()) w
      ) (
        J1 (decide ((a2 : Int) > 134217728), ()) w
      )
    )
  ) fun s2 _ w3 =>
    CND (s2.1) (
      K 0 1 w3
    ) (
      F.mallowref3_Mem_refuses E a0 (fun r4 w5 =>
      CND (r4) (
        K 0 13 w5
      ) (
        JOIN (Int × Bool × Unit) (fun J6 =>
          NC a0 fun p9 =>
          ∃ x10 : SlV, w5.cell? p9 = some (.slice x10.base x10.len x10.cap) ∧
          CND (decide ((((x10.len : Nat) : Int) : Int) > 0)) (
            NC a0 fun p11 =>
            ∃ x12 : SlV, w5.cell? p11 = some (.slice x12.base x12.len x12.cap) ∧
            NC x12.base fun p13 =>
            ((0 : Int) ≤ 0 ∧ (0 : Int) < (x12.len : Nat)) ∧
            ∃ x14 : Int, w5.cell? (p13.add (Int.toNat 0 * 1)) = some (.int .u64 x14) ∧
            NC a0 fun p15 =>
            ∃ x16 : SlV, w5.cell? p15 = some (.slice x16.base x16.len x16.cap) ∧
            ((0 : Int) ≤ 1 ∧ (1 : Int) ≤ (x16.len : Nat)) ∧
            NC a0 fun p17 =>
            stCells p17 0 [.slice (slB x16.base x16.cap (Int.toNat 1) 1) (x16.len - (Int.toNat 1)) (x16.cap - (Int.toNat 1))] w5 fun w18 =>
            JOIN (Bool × Unit) (fun J19 =>
              CND (decide ((x14 : Int) > 0)) (
                512 ≠ (0 : Int) ∧
                CND (((Int.tmod x14 512) : Int) == 0) (
                  F.mallowref3_right E x14 a2 (fun r22 w23 =>
                  J19 (r22, ()) w23
                  ) w18
                ) (
                  J19 (false, ()) w18
                )
              ) (
                J19 (false, ()) w18
              )
            ) fun s20 _ w21 =>
              CND (s20.1) (
                F.mallowref3_Mem_clear E a0 x14 a2 (fun r24 r25 w26 =>
                J6 (x14, r25, ()) w26
                ) w21
              ) (
                J6 (x14, s20.1, ()) w21
              )
          ) (
            J6 (0, false, ()) w5
          )
        ) fun s7 _ w8 =>
          JOIN (Int × Bool × Unit) (fun J27 =>
            CND (!s7.2.1) (
              F.mallowref3_Mem_first E a0 a1 a2 (fun r30 r31 w32 =>
              J27 (r30, r31, ()) w32
              ) w8
            ) (
              J27 (s7.1, s7.2.1, ()) w8
            )
          ) fun s28 _ w29 =>
            JOIN (Int × Bool × Unit) (fun J33 =>
              CND (!s28.2.1) (
                F.mallowref3_Mem_first E a0 0 a2 (fun r36 r37 w38 =>
                J33 (r36, r37, ()) w38
                ) w29
              ) (
                J33 (s28.1, s28.2.1, ()) w29
              )
            ) fun s34 _ w35 =>
              CND (!s34.2.1) (
                K 0 13 w35
              ) (
                F.mallowref3_Mem_find E a0 s34.1 (fun r39 r40 w41 =>
                AL (.cells ⟨[]⟩ E.t_mallowref3_Page) w41 fun b42 w43 =>
                NC a0 fun p44 =>
                ∃ x45 : SlV, w43.cell? (p44.add 3) = some (.slice x45.base x45.len x45.cap) ∧
                ((0 : Int) ≤ r39 ∧ (r39 : Int) ≤ (x45.cap : Nat)) ∧
                APP E.t_mallowref3_Page 3 24 #[.int .u64 0, .int .i64 0, .int .u64 0] ⟨(some (Addr.mk b42 0 none)), 0, 0⟩ ⟨(slB x45.base x45.cap 0 3), (Int.toNat r39), x45.cap⟩ w43 fun s46 w47 =>
                LOOP (SlV × Int × Unit) (s46, 0, ()) w47 fun s48 _ w49 next50 =>
                  CND (decide ((s48.2.1 : Int) < a2)) (
                    AL (.cells ⟨[.int .u64 (u64 (s34.1 + s48.2.1)), .int .i64 1, .int .u64 0]⟩ E.t_mallowref3_Page) w49 fun b51 w52 =>
                    APP E.t_mallowref3_Page 3 24 #[.int .u64 0, .int .i64 0, .int .u64 0] s48.1 ⟨(some (Addr.mk b51 0 none)), 1, 1⟩ w52 fun s53 w54 =>
                    next50 (s53, u64 (s48.2.1 + 1), ()) w54
                  ) (
                    NC a0 fun p55 =>
                    ∃ x56 : SlV, w49.cell? (p55.add 3) = some (.slice x56.base x56.len x56.cap) ∧
                    ((0 : Int) ≤ r39 ∧ (r39 : Int) ≤ (x56.len : Nat)) ∧
                    APP E.t_mallowref3_Page 3 24 #[.int .u64 0, .int .i64 0, .int .u64 0] s48.1 ⟨(slB x56.base x56.cap (Int.toNat r39) 3), (x56.len - (Int.toNat r39)), (x56.cap - (Int.toNat r39))⟩ w49 fun s57 w58 =>
                    NC a0 fun p59 =>
                    stCells (p59.add 3) 0 [.slice s57.base s57.len s57.cap] w58 fun w60 =>
                    K s34.1 0 w60
                  )
                ) w35
              )
      )
      ) w3
    )

def F.mallowref3_Mem_Commit (E : Env) (a0 : (Option Addr)) (a1 : Int) (a2 : Int) (K : Int → World → Prop) (w : World) : Prop :=
  F.mallowref3_right E a1 a2 (fun r1 w2 =>
  CND (!r1) (
    K 1 w2
  ) (
    F.mallowref3_Mem_find E a0 a1 (fun r3 r4 w5 =>
    NC a0 fun p6 =>
    ∃ x7 : SlV, w5.cell? (p6.add 3) = some (.slice x7.base x7.len x7.cap) ∧
    CND (decide ((a2 : Int) > (u64 (i64 (((x7.len : Nat) : Int) - r3))))) (
      K 33 w5
    ) (
      LOOP (Bool × Int × Unit) (true, 0, ()) w5 fun s8 _ w9 next10 =>
        CND (decide ((s8.2.1 : Int) < a2)) (
          NC a0 fun p11 =>
          ∃ x12 : SlV, w9.cell? (p11.add 3) = some (.slice x12.base x12.len x12.cap) ∧
          NC x12.base fun p13 =>
          ((0 : Int) ≤ (i64 (r3 + (i64 (s8.2.1)))) ∧ ((i64 (r3 + (i64 (s8.2.1)))) : Int) < (x12.len : Nat)) ∧
          ∃ c14 : Int, w9.cell? ((p13.add (Int.toNat (i64 (r3 + (i64 (s8.2.1)))) * 3)).add 0) = some (.int .u64 c14) ∧
          ∃ c15 : Int, w9.cell? ((p13.add (Int.toNat (i64 (r3 + (i64 (s8.2.1)))) * 3)).add 1) = some (.int .i64 c15) ∧
          ∃ c16 : Int, w9.cell? ((p13.add (Int.toNat (i64 (r3 + (i64 (s8.2.1)))) * 3)).add 2) = some (.int .u64 c16) ∧
          AL (.cells #[.int .u64 0, .int .i64 0, .int .u64 0] E.t_mallowref3_Page) w9 fun b17 w18 =>
          stCells (Addr.mk b17 0 none) 0 [.int .u64 c14, .int .i64 c15, .int .u64 c16] w18 fun w19 =>
          ∃ x20 : Int, w19.cell? (Addr.mk b17 0 none) = some (.int .u64 x20) ∧
          CND ((x20 : Int) != (u64 (a1 + s8.2.1))) (
            K 33 w19
          ) (
            CND (s8.1) (
              ∃ x21 : Int, w19.cell? ((Addr.mk b17 0 none).add 1) = some (.int .i64 x21) ∧
              next10 ((x21 : Int) == 2, u64 (s8.2.1 + 1), ()) w19
            ) (
              next10 (false, u64 (s8.2.1 + 1), ()) w19
            )
          )
        ) (
          CND (s8.1) (
            K 0 w9
          ) (
            F.mallowref3_Mem_refuses E a0 (fun r22 w23 =>
            CND (r22) (
              K 13 w23
            ) (
              LOOP (Int × Unit) (0, ()) w23 fun s24 _ w25 next26 =>
                CND (decide ((s24.1 : Int) < (i64 (a2)))) (
                  NC a0 fun p27 =>
                  ∃ x28 : SlV, w25.cell? (p27.add 3) = some (.slice x28.base x28.len x28.cap) ∧
                  NC x28.base fun p29 =>
                  ((0 : Int) ≤ (i64 (r3 + s24.1)) ∧ ((i64 (r3 + s24.1)) : Int) < (x28.len : Nat)) ∧
                  ∃ c30 : Int, w25.cell? ((p29.add (Int.toNat (i64 (r3 + s24.1)) * 3)).add 0) = some (.int .u64 c30) ∧
                  ∃ c31 : Int, w25.cell? ((p29.add (Int.toNat (i64 (r3 + s24.1)) * 3)).add 1) = some (.int .i64 c31) ∧
                  ∃ c32 : Int, w25.cell? ((p29.add (Int.toNat (i64 (r3 + s24.1)) * 3)).add 2) = some (.int .u64 c32) ∧
                  AL (.cells #[.int .u64 0, .int .i64 0, .int .u64 0] E.t_mallowref3_Page) w25 fun b33 w34 =>
                  stCells (Addr.mk b33 0 none) 0 [.int .u64 c30, .int .i64 c31, .int .u64 c32] w34 fun w35 =>
                  ∃ x36 : Int, w35.cell? ((Addr.mk b33 0 none).add 1) = some (.int .i64 x36) ∧
                  CND ((x36 : Int) == 2) (
                    next26 (i64 (s24.1 + 1), ()) w35
                  ) (
                    JOIN (Int × Unit) (fun J37 =>
                      JOIN (Bool × Unit) (fun J40 =>
                        ∃ x43 : Int, w35.cell? ((Addr.mk b33 0 none).add 1) = some (.int .i64 x43) ∧
                        CND ((x43 : Int) == 3) (
                          NC a0 fun p44 =>
                          ∃ x45 : SlV, w35.cell? (p44.add 2) = some (.slice x45.base x45.len x45.cap) ∧
                          J40 (decide ((((x45.len : Nat) : Int) : Int) > 0), ()) w35
                        ) (
                          J40 (false, ()) w35
                        )
                      ) fun s41 _ w42 =>
                        CND (s41.1) (
                          NC a0 fun p46 =>
                          ∃ x47 : SlV, w42.cell? (p46.add 2) = some (.slice x47.base x47.len x47.cap) ∧
                          NC x47.base fun p48 =>
                          ((0 : Int) ≤ 0 ∧ (0 : Int) < (x47.len : Nat)) ∧
                          ∃ x49 : Int, w42.cell? (p48.add (Int.toNat 0 * 1)) = some (.int .u64 x49) ∧
                          NC a0 fun p50 =>
                          ∃ x51 : SlV, w42.cell? (p50.add 2) = some (.slice x51.base x51.len x51.cap) ∧
                          ((0 : Int) ≤ 1 ∧ (1 : Int) ≤ (x51.len : Nat)) ∧
                          NC a0 fun p52 =>
                          stCells (p52.add 2) 0 [.slice (slB x51.base x51.cap (Int.toNat 1) 1) (x51.len - (Int.toNat 1)) (x51.cap - (Int.toNat 1))] w42 fun w53 =>
                          J37 (x49, ()) w53
                        ) (
                          J37 (0, ()) w42
                        )
                    ) fun s38 _ w39 =>
                      NC a0 fun p54 =>
                      ∃ x55 : SlV, w39.drew.cell? (p54.add 3) = some (.slice x55.base x55.len x55.cap) ∧
                      ∃ x56 : Int, w39.drew.cell? (Addr.mk b33 0 none) = some (.int .u64 x56) ∧
                      NC x55.base fun p57 =>
                      ((0 : Int) ≤ (i64 (r3 + s24.1)) ∧ ((i64 (r3 + s24.1)) : Int) < (x55.len : Nat)) ∧
                      stCells (p57.add (Int.toNat (i64 (r3 + s24.1)) * 3)) 0 [.int .u64 x56, .int .i64 2, .int .u64 s38.1] w39.drew fun w58 =>
                      next26 (i64 (s24.1 + 1), ()) w58
                  )
                ) (
                  K 0 w25
                )
            )
            ) w9
          )
        )
    )
    ) w2
  )
  ) w

def F.mallowref3_Mem_word (E : Env) (a0 : (Option Addr)) (a1 : Int) (K : Int → Bool → World → Prop) (w : World) : Prop :=
  NC a0 fun p1 =>
  ∃ x2 : SlV, w.drew.cell? (p1.add 4) = some (.slice x2.base x2.len x2.cap) ∧
  LOOP (Int × Int × Unit) (0, ((x2.len : Nat) : Int), ()) w.drew fun s3 _ w4 next5 =>
    CND (decide ((s3.1 : Int) < s3.2.1)) (
      2 ≠ (0 : Int) ∧
      LET (i64 (Int.tdiv (i64 (s3.1 + s3.2.1)) 2) : Int) fun mid_6 =>
      NC a0 fun p7 =>
      ∃ x8 : SlV, w4.cell? (p7.add 4) = some (.slice x8.base x8.len x8.cap) ∧
      NC x8.base fun p9 =>
      ((0 : Int) ≤ mid_6 ∧ (mid_6 : Int) < (x8.len : Nat)) ∧
      ∃ x10 : Int, w4.cell? (p9.add (Int.toNat mid_6 * 2)) = some (.int .u64 x10) ∧
      CND (decide ((x10 : Int) < a1)) (
        next5 (i64 (mid_6 + 1), s3.2.1, ()) w4
      ) (
        next5 (s3.1, mid_6, ()) w4
      )
    ) (
      NC a0 fun p11 =>
      ∃ x12 : SlV, w4.drew.cell? (p11.add 4) = some (.slice x12.base x12.len x12.cap) ∧
      CND (decide ((s3.1 : Int) < ((x12.len : Nat) : Int))) (
        NC a0 fun p13 =>
        ∃ x14 : SlV, w4.drew.cell? (p13.add 4) = some (.slice x14.base x14.len x14.cap) ∧
        NC x14.base fun p15 =>
        ((0 : Int) ≤ s3.1 ∧ (s3.1 : Int) < (x14.len : Nat)) ∧
        ∃ x16 : Int, w4.drew.cell? (p15.add (Int.toNat s3.1 * 2)) = some (.int .u64 x16) ∧
        K s3.1 ((x16 : Int) == a1) w4.drew
      ) (
        K s3.1 false w4.drew
      )
    )

def F.mallowref3_Mem_forget (E : Env) (a0 : (Option Addr)) (a1 : Int) (a2 : Int) (K : World → Prop) (w : World) : Prop :=
  F.mallowref3_Mem_word E a0 a1 (fun r1 r2 w3 =>
  F.mallowref3_Mem_word E a0 (u64 (a1 + a2)) (fun r4 r5 w6 =>
  AL (.cells ⟨[]⟩ E.t_mallowref3_Word) w6 fun b7 w8 =>
  NC a0 fun p9 =>
  ∃ x10 : SlV, w8.cell? (p9.add 4) = some (.slice x10.base x10.len x10.cap) ∧
  ((0 : Int) ≤ r1 ∧ (r1 : Int) ≤ (x10.cap : Nat)) ∧
  APP E.t_mallowref3_Word 2 16 #[.int .u64 0, .int .u64 0] ⟨(some (Addr.mk b7 0 none)), 0, 0⟩ ⟨(slB x10.base x10.cap 0 2), (Int.toNat r1), x10.cap⟩ w8 fun s11 w12 =>
  NC a0 fun p13 =>
  ∃ x14 : SlV, w12.cell? (p13.add 4) = some (.slice x14.base x14.len x14.cap) ∧
  ((0 : Int) ≤ r4 ∧ (r4 : Int) ≤ (x14.len : Nat)) ∧
  APP E.t_mallowref3_Word 2 16 #[.int .u64 0, .int .u64 0] s11 ⟨(slB x14.base x14.cap (Int.toNat r4) 2), (x14.len - (Int.toNat r4)), (x14.cap - (Int.toNat r4))⟩ w12 fun s15 w16 =>
  NC a0 fun p17 =>
  stCells (p17.add 4) 0 [.slice s15.base s15.len s15.cap] w16 fun w18 =>
  K  w18
  ) w3
  ) w

def F.mallowref3_Mem_Release (E : Env) (a0 : (Option Addr)) (a1 : Int) (a2 : Int) (K : Int → World → Prop) (w : World) : Prop :=
  F.mallowref3_right E a1 a2 (fun r1 w2 =>
  CND (!r1) (
    K 1 w2
  ) (
    F.mallowref3_Mem_find E a0 a1 (fun r3 r4 w5 =>
    NC a0 fun p6 =>
    ∃ x7 : SlV, w5.cell? (p6.add 3) = some (.slice x7.base x7.len x7.cap) ∧
    CND (decide ((a2 : Int) > (u64 (i64 (((x7.len : Nat) : Int) - r3))))) (
      K 33 w5
    ) (
      LOOP (Int × Unit) (0, ()) w5 fun s8 _ w9 next10 =>
        CND (decide ((s8.1 : Int) < a2)) (
          NC a0 fun p11 =>
          ∃ x12 : SlV, w9.cell? (p11.add 3) = some (.slice x12.base x12.len x12.cap) ∧
          NC x12.base fun p13 =>
          ((0 : Int) ≤ (i64 (r3 + (i64 (s8.1)))) ∧ ((i64 (r3 + (i64 (s8.1)))) : Int) < (x12.len : Nat)) ∧
          ∃ c14 : Int, w9.cell? ((p13.add (Int.toNat (i64 (r3 + (i64 (s8.1)))) * 3)).add 0) = some (.int .u64 c14) ∧
          ∃ c15 : Int, w9.cell? ((p13.add (Int.toNat (i64 (r3 + (i64 (s8.1)))) * 3)).add 1) = some (.int .i64 c15) ∧
          ∃ c16 : Int, w9.cell? ((p13.add (Int.toNat (i64 (r3 + (i64 (s8.1)))) * 3)).add 2) = some (.int .u64 c16) ∧
          AL (.cells #[.int .u64 0, .int .i64 0, .int .u64 0] E.t_mallowref3_Page) w9 fun b17 w18 =>
          stCells (Addr.mk b17 0 none) 0 [.int .u64 c14, .int .i64 c15, .int .u64 c16] w18 fun w19 =>
          JOIN (Bool × Unit) (fun J20 =>
            ∃ x23 : Int, w19.cell? (Addr.mk b17 0 none) = some (.int .u64 x23) ∧
            CND ((x23 : Int) != (u64 (a1 + s8.1))) (
              J20 (true, ()) w19
            ) (
              ∃ x24 : Int, w19.cell? ((Addr.mk b17 0 none).add 1) = some (.int .i64 x24) ∧
              J20 ((x24 : Int) != 2, ()) w19
            )
          ) fun s21 _ w22 =>
            CND (s21.1) (
              K 33 w22
            ) (
              next10 (u64 (s8.1 + 1), ()) w22
            )
        ) (
          LOOP (Int × Unit) (0, ()) w9 fun s25 _ w26 next27 =>
            CND (decide ((s25.1 : Int) < (i64 (a2)))) (
              NC a0 fun p28 =>
              ∃ x29 : SlV, w26.cell? (p28.add 3) = some (.slice x29.base x29.len x29.cap) ∧
              NC x29.base fun p30 =>
              ((0 : Int) ≤ (i64 (r3 + s25.1)) ∧ ((i64 (r3 + s25.1)) : Int) < (x29.len : Nat)) ∧
              stCells (p30.add (Int.toNat (i64 (r3 + s25.1)) * 3)) 0 [.int .u64 (u64 (a1 + (u64 (s25.1)))), .int .i64 3, .int .u64 0] w26 fun w31 =>
              next27 (i64 (s25.1 + 1), ()) w31
            ) (
              F.mallowref3_Mem_forget E a0 (u64 (a1 * 8192)) (u64 (a2 * 8192)) (fun  w32 =>
              K 0 w32
              ) w26
            )
        )
    )
    ) w2
  )
  ) w

def F.mallowref3_Mem_Load (E : Env) (a0 : (Option Addr)) (a1 : Int) (K : Int → Int → World → Prop) (w : World) : Prop :=
  8 ≠ (0 : Int) ∧
  CND (((Int.tmod a1 8) : Int) != 0) (
    K 0 11 w
  ) (
    8192 ≠ (0 : Int) ∧
    F.mallowref3_Mem_find E a0 (u64 (Int.tdiv a1 8192)) (fun r1 r2 w3 =>
    JOIN (Bool × Unit) (fun J4 =>
      CND (!r2) (
        J4 (true, ()) w3
      ) (
        NC a0 fun p7 =>
        ∃ x8 : SlV, w3.cell? (p7.add 3) = some (.slice x8.base x8.len x8.cap) ∧
        NC x8.base fun p9 =>
        ((0 : Int) ≤ r1 ∧ (r1 : Int) < (x8.len : Nat)) ∧
        ∃ x10 : Int, w3.cell? ((p9.add (Int.toNat r1 * 3)).add 1) = some (.int .i64 x10) ∧
        J4 ((x10 : Int) != 2, ()) w3
      )
    ) fun s5 _ w6 =>
      CND (s5.1) (
        K 0 12 w6
      ) (
        F.mallowref3_Mem_word E a0 a1 (fun r11 r12 w13 =>
        CND (r12) (
          NC a0 fun p14 =>
          ∃ x15 : SlV, w13.cell? (p14.add 4) = some (.slice x15.base x15.len x15.cap) ∧
          NC x15.base fun p16 =>
          ((0 : Int) ≤ r11 ∧ (r11 : Int) < (x15.len : Nat)) ∧
          ∃ x17 : Int, w13.cell? ((p16.add (Int.toNat r11 * 2)).add 1) = some (.int .u64 x17) ∧
          K x17 0 w13
        ) (
          NC a0 fun p18 =>
          ∃ x19 : SlV, w13.cell? (p18.add 3) = some (.slice x19.base x19.len x19.cap) ∧
          NC x19.base fun p20 =>
          ((0 : Int) ≤ r1 ∧ (r1 : Int) < (x19.len : Nat)) ∧
          ∃ x21 : Int, w13.cell? ((p20.add (Int.toNat r1 * 3)).add 2) = some (.int .u64 x21) ∧
          K x21 0 w13
        )
        ) w6
      )
    ) w
  )

def F.mallowref3_Mem_Store (E : Env) (a0 : (Option Addr)) (a1 : Int) (a2 : Int) (K : Int → World → Prop) (w : World) : Prop :=
  F.mallowref3_Mem_Load E a0 a1 (fun r1 r2 w3 =>
  CND ((r2 : Int) != 0) (
    K r2 w3
  ) (
    F.mallowref3_Mem_word E a0 a1 (fun r4 r5 w6 =>
    CND (r5) (
      NC a0 fun p7 =>
      ∃ x8 : SlV, w6.cell? (p7.add 4) = some (.slice x8.base x8.len x8.cap) ∧
      NC x8.base fun p9 =>
      ((0 : Int) ≤ r4 ∧ (r4 : Int) < (x8.len : Nat)) ∧
      stCells ((p9.add (Int.toNat r4 * 2)).add 1) 0 [.int .u64 a2] w6 fun w10 =>
      K 0 w10
    ) (
      AL (.cells ⟨[]⟩ E.t_mallowref3_Word) w6 fun b11 w12 =>
      NC a0 fun p13 =>
      ∃ x14 : SlV, w12.cell? (p13.add 4) = some (.slice x14.base x14.len x14.cap) ∧
      ((0 : Int) ≤ r4 ∧ (r4 : Int) ≤ (x14.cap : Nat)) ∧
      APP E.t_mallowref3_Word 2 16 #[.int .u64 0, .int .u64 0] ⟨(some (Addr.mk b11 0 none)), 0, 0⟩ ⟨(slB x14.base x14.cap 0 2), (Int.toNat r4), x14.cap⟩ w12 fun s15 w16 =>
      AL (.cells ⟨[.int .u64 a1, .int .u64 a2]⟩ E.t_mallowref3_Word) w16 fun b17 w18 =>
      APP E.t_mallowref3_Word 2 16 #[.int .u64 0, .int .u64 0] s15 ⟨(some (Addr.mk b17 0 none)), 1, 1⟩ w18 fun s19 w20 =>
      NC a0 fun p21 =>
      ∃ x22 : SlV, w20.cell? (p21.add 4) = some (.slice x22.base x22.len x22.cap) ∧
      ((0 : Int) ≤ r4 ∧ (r4 : Int) ≤ (x22.len : Nat)) ∧
      APP E.t_mallowref3_Word 2 16 #[.int .u64 0, .int .u64 0] s19 ⟨(slB x22.base x22.cap (Int.toNat r4) 2), (x22.len - (Int.toNat r4)), (x22.cap - (Int.toNat r4))⟩ w20 fun s23 w24 =>
      NC a0 fun p25 =>
      stCells (p25.add 4) 0 [.slice s23.base s23.len s23.cap] w24 fun w26 =>
      K 0 w26
    )
    ) w3
  )
  ) w

def F.vmem_Mem_part (E : Env) (a0 : (Option Addr)) (a1 : Int) (a2 : Int) (a3 : Int) (K : World → Prop) (w : World) : Prop :=
  JOIN (Unit) (fun J1 =>
    NC a0 fun p4 =>
    ∃ x5 : (Option Nat), w.cell? (p4.add 10) = some (.map x5) ∧
    LKP .u64 a1 x5 w (.pointer none) fun v6 ok7 es8 =>
    ∃ x9 : (Option Addr), v6 = .pointer x9 ∧
    CND (x9.isNone) (
      NC a0 fun p10 =>
      ∃ x11 : (Option Nat), w.cell? (p10.add 9) = some (.map x11) ∧
      LKP .u64 a1 x11 w (.int .u64 0) fun v12 ok13 es14 =>
      ∃ x15 : Int, v12 = .int .u64 x15 ∧
      CND ((x15 : Int) == 0) (
        K  w
      ) (
        J1 (()) w
      )
    ) (
      J1 (()) w
    )
  ) fun s2 _ w3 =>
    F.vmem_Mem_stored E a0 a1 (fun r16 w17 =>
    NC r16 fun p18 =>
    ((0 : Int) ≤ a3 ∧ (a3 : Int) ≤ (1024 : Nat)) ∧
    ((0 : Int) ≤ a2 ∧ (a2 : Int) ≤ ((Int.toNat a3) : Nat)) ∧
    CLR #[.int .u64 0] (some (slA p18 1024 (Int.toNat a2) 1)) ((Int.toNat a3) - (Int.toNat a2)) w17 fun w19 =>
    K  w19
    ) w3

def F.vmem_Mem_Zero (E : Env) (a0 : (Option Addr)) (a1 : Int) (a2 : Int) (K : Int → World → Prop) (w : World) : Prop :=
  JOIN (Bool × Unit) (fun J1 =>
    8 ≠ (0 : Int) ∧
    CND (((Int.tmod a1 8) : Int) != 0) (
      J1 (true, ()) w
    ) (
      8 ≠ (0 : Int) ∧
      J1 (((Int.tmod a2 8) : Int) != 0, ()) w
    )
  ) fun s2 _ w3 =>
    CND (s2.1) (
      K 11 w3
    ) (
      CND ((a2 : Int) == 0) (
        K 0 w3
      ) (
        JOIN (Bool × Unit) (fun J4 =>
          CND (decide ((a1 : Int) ≥ 281474976710656)) (
            J4 (true, ()) w3
          ) (
            J4 (decide ((a2 : Int) > (u64 (281474976710656 - a1))), ()) w3
          )
        ) fun s5 _ w6 =>
          CND (s5.1) (
            K 12 w6
          ) (
            8192 ≠ (0 : Int) ∧
            8192 ≠ (0 : Int) ∧
            LET (u64 (Int.tdiv (u64 ((u64 (a1 + a2)) - 1)) 8192) : Int) fun last_7 =>
            NC a0 fun p8 =>
            F.stretch_Set_Count E (some (p8.add 5)) (u64 (Int.tdiv a1 8192)) (u64 (last_7 + 1)) (fun r9 w10 =>
            CND ((r9 : Int) != (u64 ((u64 (last_7 - (u64 (Int.tdiv a1 8192)))) + 1))) (
              K 12 w10
            ) (
              8192 ≠ (0 : Int) ∧
              8 ≠ (0 : Int) ∧
              8192 ≠ (0 : Int) ∧
              8 ≠ (0 : Int) ∧
              LET (u64 (Int.tdiv (Int.tmod a1 8192) 8) : Int) fun from_11 =>
              LET (u64 ((u64 (Int.tdiv (Int.tmod (u64 ((u64 (a1 + a2)) - 1)) 8192) 8)) + 1) : Int) fun to_12 =>
              CND (((u64 (Int.tdiv a1 8192)) : Int) == last_7) (
                F.vmem_Mem_part E a0 (u64 (Int.tdiv a1 8192)) from_11 to_12 (fun  w13 =>
                K 0 w13
                ) w10
              ) (
                F.vmem_Mem_part E a0 (u64 (Int.tdiv a1 8192)) from_11 1024 (fun  w14 =>
                F.vmem_Mem_part E a0 last_7 0 to_12 (fun  w15 =>
                NC a0 fun p16 =>
                ∃ x17 : (Option Nat), w15.cell? (p16.add 9) = some (.map x17) ∧
                F.vmem_forget_uint64_ E x17 (u64 ((u64 (Int.tdiv a1 8192)) + 1)) last_7 (fun  w18 =>
                NC a0 fun p19 =>
                ∃ x20 : (Option Nat), w18.cell? (p19.add 10) = some (.map x20) ∧
                F.vmem_forget___1024_uint64_ E x20 (u64 ((u64 (Int.tdiv a1 8192)) + 1)) last_7 (fun  w21 =>
                K 0 w21
                ) w18
                ) w15
                ) w14
                ) w10
              )
            )
            ) w6
          )
      )
    )

def F.mallowref3_Mem_Zero (E : Env) (a0 : (Option Addr)) (a1 : Int) (a2 : Int) (K : Int → World → Prop) (w : World) : Prop :=
  JOIN (Bool × Unit) (fun J1 =>
    8 ≠ (0 : Int) ∧
    CND (((Int.tmod a1 8) : Int) != 0) (
      J1 (true, ()) w
    ) (
      8 ≠ (0 : Int) ∧
      J1 (((Int.tmod a2 8) : Int) != 0, ()) w
    )
  ) fun s2 _ w3 =>
    CND (s2.1) (
      K 11 w3
    ) (
      CND ((a2 : Int) == 0) (
        K 0 w3
      ) (
        JOIN (Bool × Unit) (fun J4 =>
          CND (decide ((a1 : Int) ≥ 281474976710656)) (
            J4 (true, ()) w3
          ) (
            J4 (decide ((a2 : Int) > (u64 (281474976710656 - a1))), ()) w3
          )
        ) fun s5 _ w6 =>
          CND (s5.1) (
            K 12 w6
          ) (
            8192 ≠ (0 : Int) ∧
            8192 ≠ (0 : Int) ∧
            LET (u64 (Int.tdiv (u64 ((u64 (a1 + a2)) - 1)) 8192) : Int) fun to_7 =>
            F.mallowref3_Mem_find E a0 (u64 (Int.tdiv a1 8192)) (fun r8 r9 w10 =>
            NC a0 fun p11 =>
            ∃ x12 : SlV, w10.cell? (p11.add 3) = some (.slice x12.base x12.len x12.cap) ∧
            CND (decide (((u64 (to_7 - (u64 (Int.tdiv a1 8192)))) : Int) ≥ (u64 (i64 (((x12.len : Nat) : Int) - r8))))) (
              K 12 w10
            ) (
              LOOP (Int × Unit) (0, ()) w10 fun s13 _ w14 next15 =>
                CND (decide ((s13.1 : Int) ≤ (u64 (to_7 - (u64 (Int.tdiv a1 8192)))))) (
                  NC a0 fun p16 =>
                  ∃ x17 : SlV, w14.cell? (p16.add 3) = some (.slice x17.base x17.len x17.cap) ∧
                  NC x17.base fun p18 =>
                  ((0 : Int) ≤ (i64 (r8 + (i64 (s13.1)))) ∧ ((i64 (r8 + (i64 (s13.1)))) : Int) < (x17.len : Nat)) ∧
                  ∃ c19 : Int, w14.cell? ((p18.add (Int.toNat (i64 (r8 + (i64 (s13.1)))) * 3)).add 0) = some (.int .u64 c19) ∧
                  ∃ c20 : Int, w14.cell? ((p18.add (Int.toNat (i64 (r8 + (i64 (s13.1)))) * 3)).add 1) = some (.int .i64 c20) ∧
                  ∃ c21 : Int, w14.cell? ((p18.add (Int.toNat (i64 (r8 + (i64 (s13.1)))) * 3)).add 2) = some (.int .u64 c21) ∧
                  AL (.cells #[.int .u64 0, .int .i64 0, .int .u64 0] E.t_mallowref3_Page) w14 fun b22 w23 =>
                  stCells (Addr.mk b22 0 none) 0 [.int .u64 c19, .int .i64 c20, .int .u64 c21] w23 fun w24 =>
                  JOIN (Bool × Unit) (fun J25 =>
                    ∃ x28 : Int, w24.cell? (Addr.mk b22 0 none) = some (.int .u64 x28) ∧
                    CND ((x28 : Int) != (u64 ((u64 (Int.tdiv a1 8192)) + s13.1))) (
                      J25 (true, ()) w24
                    ) (
                      ∃ x29 : Int, w24.cell? ((Addr.mk b22 0 none).add 1) = some (.int .i64 x29) ∧
                      J25 ((x29 : Int) != 2, ()) w24
                    )
                  ) fun s26 _ w27 =>
                    CND (s26.1) (
                      K 12 w27
                    ) (
                      next15 (u64 (s13.1 + 1), ()) w27
                    )
                ) (
                  F.mallowref3_Mem_forget E a0 a1 a2 (fun  w30 =>
                  LOOP (Int × Unit) (0, ()) w30 fun s31 _ w32 next33 =>
                    CND (decide ((s31.1 : Int) ≤ (u64 (to_7 - (u64 (Int.tdiv a1 8192)))))) (
                      NC a0 fun p34 =>
                      ∃ x35 : SlV, w32.cell? (p34.add 3) = some (.slice x35.base x35.len x35.cap) ∧
                      NC x35.base fun p36 =>
                      ((0 : Int) ≤ (i64 (r8 + (i64 (s31.1)))) ∧ ((i64 (r8 + (i64 (s31.1)))) : Int) < (x35.len : Nat)) ∧
                      ∃ c37 : Int, w32.cell? ((p36.add (Int.toNat (i64 (r8 + (i64 (s31.1)))) * 3)).add 0) = some (.int .u64 c37) ∧
                      ∃ c38 : Int, w32.cell? ((p36.add (Int.toNat (i64 (r8 + (i64 (s31.1)))) * 3)).add 1) = some (.int .i64 c38) ∧
                      ∃ c39 : Int, w32.cell? ((p36.add (Int.toNat (i64 (r8 + (i64 (s31.1)))) * 3)).add 2) = some (.int .u64 c39) ∧
                      AL (.cells #[.int .u64 0, .int .i64 0, .int .u64 0] E.t_mallowref3_Page) w32 fun b40 w41 =>
                      stCells (Addr.mk b40 0 none) 0 [.int .u64 c37, .int .i64 c38, .int .u64 c39] w41 fun w42 =>
                      ∃ x43 : Int, w42.cell? ((Addr.mk b40 0 none).add 2) = some (.int .u64 x43) ∧
                      CND ((x43 : Int) == 0) (
                        next33 (u64 (s31.1 + 1), ()) w42
                      ) (
                        ∃ x44 : Int, w42.cell? (Addr.mk b40 0 none) = some (.int .u64 x44) ∧
                        LOOP (Int × Unit) (u64 (x44 * 8192), ()) w42 fun s45 _ w46 next47 =>
                          ∃ x48 : Int, w46.cell? (Addr.mk b40 0 none) = some (.int .u64 x48) ∧
                          CND (decide ((s45.1 : Int) < (u64 ((u64 (x48 * 8192)) + 8192)))) (
                            JOIN (Bool × Unit) (fun J49 =>
                              CND (decide ((s45.1 : Int) ≥ a1)) (
                                J49 (decide ((s45.1 : Int) < (u64 (a1 + a2))), ()) w46
                              ) (
                                J49 (false, ()) w46
                              )
                            ) fun s50 _ w51 =>
                              CND (s50.1) (
                                F.mallowref3_Mem_Store E a0 s45.1 0 (fun r52 w53 =>
                                next47 (u64 (s45.1 + 8), ()) w53
                                ) w51
                              ) (
                                next47 (u64 (s45.1 + 8), ()) w51
                              )
                          ) (
                            next33 (u64 (s31.1 + 1), ()) w46
                          )
                      )
                    ) (
                      K 0 w32
                    )
                  ) w14
                )
            )
            ) w6
          )
      )
    )

def F.mallowref3_Mem_Count (E : Env) (a0 : (Option Addr)) (a1 : Int) (K : Int → World → Prop) (w : World) : Prop :=
  LOOP (Int × Int × Unit) (0, 0, ()) w fun s1 _ w2 next3 =>
    NC a0 fun p4 =>
    ∃ x5 : SlV, w2.cell? (p4.add 3) = some (.slice x5.base x5.len x5.cap) ∧
    CND (decide ((s1.2.1 : Int) < ((x5.len : Nat) : Int))) (
      JOIN (Bool × Unit) (fun J6 =>
        NC a0 fun p9 =>
        ∃ x10 : SlV, w2.cell? (p9.add 3) = some (.slice x10.base x10.len x10.cap) ∧
        NC x10.base fun p11 =>
        ((0 : Int) ≤ s1.2.1 ∧ (s1.2.1 : Int) < (x10.len : Nat)) ∧
        ∃ x12 : Int, w2.cell? ((p11.add (Int.toNat s1.2.1 * 3)).add 1) = some (.int .i64 x12) ∧
        CND ((x12 : Int) == a1) (
          J6 ((a1 : Int) != 0, ()) w2
        ) (
          J6 (false, ()) w2
        )
      ) fun s7 _ w8 =>
        CND (s7.1) (
          next3 (u64 (s1.1 + 1), i64 (s1.2.1 + 1), ()) w8
        ) (
          next3 (s1.1, i64 (s1.2.1 + 1), ()) w8
        )
    ) (
      K s1.1 w2
    )

def F.mallowref3_Mem_State (E : Env) (a0 : (Option Addr)) (a1 : Int) (K : Int → World → Prop) (w : World) : Prop :=
  F.mallowref3_Mem_find E a0 a1 (fun r1 r2 w3 =>
  CND (!r2) (
    K 0 w3
  ) (
    NC a0 fun p4 =>
    ∃ x5 : SlV, w3.cell? (p4.add 3) = some (.slice x5.base x5.len x5.cap) ∧
    NC x5.base fun p6 =>
    ((0 : Int) ≤ r1 ∧ (r1 : Int) < (x5.len : Nat)) ∧
    ∃ x7 : Int, w3.cell? ((p6.add (Int.toNat r1 * 3)).add 1) = some (.int .i64 x7) ∧
    K x7 w3
  )
  ) w

def F.mallowlaw3_act (E : Env) (a0 : (Option Addr)) (a1 : (Option Addr)) (a2_0 : Int) (a2_1 : Int) (a2_2 : Int) (a2_3 : Int) (K : Bool → World → Prop) (w : World) : Prop :=
  AL (.cells #[.int .i64 a2_0, .int .u64 a2_1, .int .u64 a2_2, .int .u64 a2_3] E.t_mallowlaw3_Act) w fun b1 w2 =>
  ∃ x3 : Int, w2.cell? (Addr.mk b1 0 none) = some (.int .i64 x3) ∧
  CND ((x3 : Int) == 1) (
    ∃ x4 : Int, w2.cell? ((Addr.mk b1 0 none).add 1) = some (.int .u64 x4) ∧
    ∃ x5 : Int, w2.cell? ((Addr.mk b1 0 none).add 2) = some (.int .u64 x5) ∧
    F.vmem_Mem_Reserve E a0 x4 x5 (fun r6 r7 w8 =>
    ∃ x9 : Int, w8.cell? ((Addr.mk b1 0 none).add 1) = some (.int .u64 x9) ∧
    ∃ x10 : Int, w8.cell? ((Addr.mk b1 0 none).add 2) = some (.int .u64 x10) ∧
    F.mallowref3_Mem_Reserve E a1 x9 x10 (fun r11 r12 w13 =>
    CND ((r6 : Int) == r11) (
      K ((r7 : Int) == r12) w13
    ) (
      K false w13
    )
    ) w8
    ) w2
  ) (
    CND ((x3 : Int) == 2) (
      ∃ x14 : Int, w2.drew.cell? ((Addr.mk b1 0 none).add 1) = some (.int .u64 x14) ∧
      ∃ x15 : Int, w2.drew.cell? ((Addr.mk b1 0 none).add 2) = some (.int .u64 x15) ∧
      ∃ x16 : Int, w2.drew.cell? ((Addr.mk b1 0 none).add 1) = some (.int .u64 x16) ∧
      ∃ x17 : Int, w2.drew.cell? ((Addr.mk b1 0 none).add 2) = some (.int .u64 x17) ∧
      F.vmem_Mem_Commit E a0 x14 x15 (fun r18 w19 =>
      w19.cell? ((Addr.mk b1 0 none).add 2) = some (.int .u64 x17) ∧
      w19.cell? ((Addr.mk b1 0 none).add 1) = some (.int .u64 x16) ∧
      F.mallowref3_Mem_Commit E a1 x16 x17 (fun r20 w21 =>
      K ((r18 : Int) == r20) w21
      ) w19
      ) w2.drew
    ) (
      CND ((x3 : Int) == 3) (
        ∃ x22 : Int, w2.drew.cell? ((Addr.mk b1 0 none).add 1) = some (.int .u64 x22) ∧
        ∃ x23 : Int, w2.drew.cell? ((Addr.mk b1 0 none).add 2) = some (.int .u64 x23) ∧
        ∃ x24 : Int, w2.drew.cell? ((Addr.mk b1 0 none).add 1) = some (.int .u64 x24) ∧
        ∃ x25 : Int, w2.drew.cell? ((Addr.mk b1 0 none).add 2) = some (.int .u64 x25) ∧
        F.vmem_Mem_Release E a0 x22 x23 (fun r26 w27 =>
        w27.cell? ((Addr.mk b1 0 none).add 2) = some (.int .u64 x25) ∧
        w27.cell? ((Addr.mk b1 0 none).add 1) = some (.int .u64 x24) ∧
        F.mallowref3_Mem_Release E a1 x24 x25 (fun r28 w29 =>
        K ((r26 : Int) == r28) w29
        ) w27
        ) w2.drew
      ) (
        CND ((x3 : Int) == 4) (
          ∃ x30 : Int, w2.cell? ((Addr.mk b1 0 none).add 3) = some (.int .u64 x30) ∧
          F.vmem_Mem_Load E a0 x30 (fun r31 r32 w33 =>
          ∃ x34 : Int, w33.cell? ((Addr.mk b1 0 none).add 3) = some (.int .u64 x34) ∧
          F.mallowref3_Mem_Load E a1 x34 (fun r35 r36 w37 =>
          CND ((r31 : Int) == r35) (
            K ((r32 : Int) == r36) w37
          ) (
            K false w37
          )
          ) w33
          ) w2
        ) (
          CND ((x3 : Int) == 5) (
            ∃ x38 : Int, w2.drew.cell? ((Addr.mk b1 0 none).add 3) = some (.int .u64 x38) ∧
            ∃ x39 : Int, w2.drew.cell? ((Addr.mk b1 0 none).add 2) = some (.int .u64 x39) ∧
            ∃ x40 : Int, w2.drew.cell? ((Addr.mk b1 0 none).add 3) = some (.int .u64 x40) ∧
            ∃ x41 : Int, w2.drew.cell? ((Addr.mk b1 0 none).add 2) = some (.int .u64 x41) ∧
            F.vmem_Mem_Store E a0 x38 x39 (fun r42 w43 =>
            w43.cell? ((Addr.mk b1 0 none).add 2) = some (.int .u64 x41) ∧
            w43.cell? ((Addr.mk b1 0 none).add 3) = some (.int .u64 x40) ∧
            F.mallowref3_Mem_Store E a1 x40 x41 (fun r44 w45 =>
            K ((r42 : Int) == r44) w45
            ) w43
            ) w2.drew
          ) (
            CND ((x3 : Int) == 6) (
              ∃ x46 : Int, w2.drew.cell? ((Addr.mk b1 0 none).add 3) = some (.int .u64 x46) ∧
              ∃ x47 : Int, w2.drew.cell? ((Addr.mk b1 0 none).add 2) = some (.int .u64 x47) ∧
              ∃ x48 : Int, w2.drew.cell? ((Addr.mk b1 0 none).add 3) = some (.int .u64 x48) ∧
              ∃ x49 : Int, w2.drew.cell? ((Addr.mk b1 0 none).add 2) = some (.int .u64 x49) ∧
              F.vmem_Mem_Zero E a0 x46 x47 (fun r50 w51 =>
              w51.cell? ((Addr.mk b1 0 none).add 2) = some (.int .u64 x49) ∧
              w51.cell? ((Addr.mk b1 0 none).add 3) = some (.int .u64 x48) ∧
              F.mallowref3_Mem_Zero E a1 x48 x49 (fun r52 w53 =>
              K ((r50 : Int) == r52) w53
              ) w51
              ) w2.drew
            ) (
              CND ((x3 : Int) == 7) (
                LOOP (Int × Unit) ((-1), ()) w2 fun s54 _ w55 next56 =>
                  CND (decide ((s54.1 : Int) < 6)) (
                    F.vmem_Mem_Count E a0 s54.1 (fun r57 w58 =>
                    F.mallowref3_Mem_Count E a1 s54.1 (fun r59 w60 =>
                    CND ((r57 : Int) != r59) (
                      K false w60
                    ) (
                      next56 (i64 (s54.1 + 1), ()) w60
                    )
                    ) w58
                    ) w55
                  ) (
                    ∃ x61 : Int, w55.drew.cell? ((Addr.mk b1 0 none).add 1) = some (.int .u64 x61) ∧
                    ∃ x62 : Int, w55.drew.cell? ((Addr.mk b1 0 none).add 1) = some (.int .u64 x62) ∧
                    F.vmem_Mem_State E a0 x61 (fun r63 w64 =>
                    w64.cell? ((Addr.mk b1 0 none).add 1) = some (.int .u64 x62) ∧
                    F.mallowref3_Mem_State E a1 x62 (fun r65 w66 =>
                    K ((r63 : Int) == r65) w66
                    ) w64
                    ) w55.drew
                  )
              ) (
                K true w2
              )
            )
          )
        )
      )
    )
  )

def F.mallowlaw3_same (E : Env) (a0 : (Option Addr)) (a1 : (Option Addr)) (K : Bool → World → Prop) (w : World) : Prop :=
  LOOP (Int × Unit) (0, ()) w fun s1 _ w2 next3 =>
    NC a1 fun p4 =>
    ∃ x5 : SlV, w2.cell? (p4.add 3) = some (.slice x5.base x5.len x5.cap) ∧
    CND (decide ((s1.1 : Int) < ((x5.len : Nat) : Int))) (
      NC a1 fun p6 =>
      ∃ x7 : SlV, w2.cell? (p6.add 3) = some (.slice x7.base x7.len x7.cap) ∧
      NC x7.base fun p8 =>
      ((0 : Int) ≤ s1.1 ∧ (s1.1 : Int) < (x7.len : Nat)) ∧
      ∃ x9 : Int, w2.cell? (p8.add (Int.toNat s1.1 * 3)) = some (.int .u64 x9) ∧
      NC a1 fun p10 =>
      ∃ x11 : SlV, w2.drew.cell? (p10.add 3) = some (.slice x11.base x11.len x11.cap) ∧
      NC x11.base fun p12 =>
      ((0 : Int) ≤ s1.1 ∧ (s1.1 : Int) < (x11.len : Nat)) ∧
      ∃ x13 : Int, w2.drew.cell? ((p12.add (Int.toNat s1.1 * 3)).add 1) = some (.int .i64 x13) ∧
      F.vmem_Mem_State E a0 x9 (fun r14 w15 =>
      w15.cell? ((p12.add (Int.toNat s1.1 * 3)).add 1) = some (.int .i64 x13) ∧
      w15.cell? (p10.add 3) = some (.slice x11.base x11.len x11.cap) ∧
      CND ((r14 : Int) != x13) (
        K false w15
      ) (
        F.vmem_Mem_Load E a0 (u64 ((u64 (x9 * 8192)) + 8)) (fun r16 r17 w18 =>
        F.mallowref3_Mem_Load E a1 (u64 ((u64 (x9 * 8192)) + 8)) (fun r19 r20 w21 =>
        JOIN (Bool × Unit) (fun J22 =>
          CND ((r16 : Int) != r19) (
            J22 (true, ()) w21
          ) (
            J22 ((r17 : Int) != r20, ()) w21
          )
        ) fun s23 _ w24 =>
          CND (s23.1) (
            K false w24
          ) (
            40 ≠ (0 : Int) ∧
            LET (i64 (s1.1 + (i64 (1 + (i64 (Int.tdiv s1.1 40))))) : Int) fun i_25 =>
            next3 (i_25, ()) w24
          )
        ) w18
        ) w15
      )
      ) w2.drew
    ) (
      LOOP (Int × Unit) (0, ()) w2 fun s26 _ w27 next28 =>
        NC a1 fun p29 =>
        ∃ x30 : SlV, w27.cell? (p29.add 4) = some (.slice x30.base x30.len x30.cap) ∧
        CND (decide ((s26.1 : Int) < ((x30.len : Nat) : Int))) (
          NC a1 fun p31 =>
          ∃ x32 : SlV, w27.cell? (p31.add 4) = some (.slice x32.base x32.len x32.cap) ∧
          NC x32.base fun p33 =>
          ((0 : Int) ≤ s26.1 ∧ (s26.1 : Int) < (x32.len : Nat)) ∧
          ∃ x34 : Int, w27.cell? (p33.add (Int.toNat s26.1 * 2)) = some (.int .u64 x34) ∧
          F.vmem_Mem_Load E a0 x34 (fun r35 r36 w37 =>
          JOIN (Bool × Unit) (fun J38 =>
            NC a1 fun p41 =>
            ∃ x42 : SlV, w37.cell? (p41.add 4) = some (.slice x42.base x42.len x42.cap) ∧
            NC x42.base fun p43 =>
            ((0 : Int) ≤ s26.1 ∧ (s26.1 : Int) < (x42.len : Nat)) ∧
            ∃ x44 : Int, w37.cell? ((p43.add (Int.toNat s26.1 * 2)).add 1) = some (.int .u64 x44) ∧
            CND ((r35 : Int) != x44) (
              J38 (true, ()) w37
            ) (
              J38 ((r36 : Int) != 0, ()) w37
            )
          ) fun s39 _ w40 =>
            CND (s39.1) (
              K false w40
            ) (
              next28 (i64 (s26.1 + 1), ()) w40
            )
          ) w27
        ) (
          LOOP (Int × Unit) (1, ()) w27 fun s45 _ w46 next47 =>
            CND (decide ((s45.1 : Int) < 4)) (
              F.vmem_Mem_Count E a0 s45.1 (fun r48 w49 =>
              F.mallowref3_Mem_Count E a1 s45.1 (fun r50 w51 =>
              CND ((r48 : Int) != r50) (
                K false w51
              ) (
                next47 (i64 (s45.1 + 1), ()) w51
              )
              ) w49
              ) w46
            ) (
              K true w46
            )
        )
    )

def F.mallowlaw3_VmemPlays (E : Env) (a0_0 : SlV) (a0_1 : SlV) (a0_2 : SlV) (a1 : SlV) (K : Bool → World → Prop) (w : World) : Prop :=
  AL (.cells #[.slice a0_0.base a0_0.len a0_0.cap, .slice a0_1.base a0_1.len a0_1.cap, .slice a0_2.base a0_2.len a0_2.cap] E.t_api_Answers) w fun b1 w2 =>
  ∃ c3 : SlV, w2.cell? ((Addr.mk b1 0 none).add 0) = some (.slice c3.base c3.len c3.cap) ∧
  ∃ c4 : SlV, w2.cell? ((Addr.mk b1 0 none).add 1) = some (.slice c4.base c4.len c4.cap) ∧
  ∃ c5 : SlV, w2.cell? ((Addr.mk b1 0 none).add 2) = some (.slice c5.base c5.len c5.cap) ∧
  F.mallowlaw3_heavy E c3 c4 c5 a1 (fun r6 w7 =>
  CND (r6) (
    K true w7
  ) (
    ∃ c8 : SlV, w7.cell? ((Addr.mk b1 0 none).add 0) = some (.slice c8.base c8.len c8.cap) ∧
    ∃ c9 : SlV, w7.cell? ((Addr.mk b1 0 none).add 1) = some (.slice c9.base c9.len c9.cap) ∧
    ∃ c10 : SlV, w7.cell? ((Addr.mk b1 0 none).add 2) = some (.slice c10.base c10.len c10.cap) ∧
    F.mallowlaw3_given E c8 c9 c10 (fun r11 r12 r13 w14 =>
    AL (.cells #[.slice none 0 0, .slice none 0 0, .slice none 0 0] E.t_api_Answers) w14 fun b15 w16 =>
    stCells (Addr.mk b15 0 none) 0 [.slice r11.base r11.len r11.cap, .slice r12.base r12.len r12.cap, .slice r13.base r13.len r13.cap] w16 fun w17 =>
    ∃ c18 : SlV, w17.cell? ((Addr.mk b15 0 none).add 0) = some (.slice c18.base c18.len c18.cap) ∧
    ∃ c19 : SlV, w17.cell? ((Addr.mk b15 0 none).add 1) = some (.slice c19.base c19.len c19.cap) ∧
    ∃ c20 : SlV, w17.cell? ((Addr.mk b15 0 none).add 2) = some (.slice c20.base c20.len c20.cap) ∧
    F.vmem_New E c18 c19 c20 (fun r21 w22 =>
    ∃ c23 : SlV, w22.cell? ((Addr.mk b1 0 none).add 0) = some (.slice c23.base c23.len c23.cap) ∧
    ∃ c24 : SlV, w22.cell? ((Addr.mk b1 0 none).add 1) = some (.slice c24.base c24.len c24.cap) ∧
    ∃ c25 : SlV, w22.cell? ((Addr.mk b1 0 none).add 2) = some (.slice c25.base c25.len c25.cap) ∧
    F.mallowref3_New E c23 c24 c25 (fun r26 w27 =>
    CND (r21.isNone) (
      K false w27
    ) (
      LOOP (Int × Unit) (0, ()) w27 fun s28 _ w29 next30 =>
        ∃ x31 : SlV, w29.cell? (Addr.mk b15 0 none) = some (.slice x31.base x31.len x31.cap) ∧
        CND (decide ((s28.1 : Int) < ((x31.len : Nat) : Int))) (
          ∃ x32 : SlV, w29.cell? (Addr.mk b15 0 none) = some (.slice x32.base x32.len x32.cap) ∧
          NC x32.base fun p33 =>
          ((0 : Int) ≤ s28.1 ∧ (s28.1 : Int) < (x32.len : Nat)) ∧
          stCells (p33.add (Int.toNat s28.1 * 1)) 0 [.int .u64 0] w29 fun w34 =>
          next30 (i64 (s28.1 + 1), ()) w34
        ) (
          LOOP (Int × Unit) (0, ()) w29 fun s35 _ w36 next37 =>
            ∃ x38 : SlV, w36.cell? ((Addr.mk b15 0 none).add 1) = some (.slice x38.base x38.len x38.cap) ∧
            CND (decide ((s35.1 : Int) < ((x38.len : Nat) : Int))) (
              ∃ x39 : SlV, w36.drew.cell? ((Addr.mk b15 0 none).add 1) = some (.slice x39.base x39.len x39.cap) ∧
              ∃ x40 : SlV, w36.drew.cell? ((Addr.mk b15 0 none).add 1) = some (.slice x40.base x40.len x40.cap) ∧
              NC x40.base fun p41 =>
              ((0 : Int) ≤ s35.1 ∧ (s35.1 : Int) < (x40.len : Nat)) ∧
              ∃ x42 : Bool, w36.drew.cell? (p41.add (Int.toNat s35.1 * 1)) = some (.bool x42) ∧
              NC x39.base fun p43 =>
              ((0 : Int) ≤ s35.1 ∧ (s35.1 : Int) < (x39.len : Nat)) ∧
              stCells (p43.add (Int.toNat s35.1 * 1)) 0 [.bool (!x42)] w36.drew fun w44 =>
              next37 (i64 (s35.1 + 1), ()) w44
            ) (
              LOOP (Int × Unit) (0, ()) w36 fun s45 _ w46 next47 =>
                ∃ x48 : SlV, w46.cell? ((Addr.mk b15 0 none).add 2) = some (.slice x48.base x48.len x48.cap) ∧
                CND (decide ((s45.1 : Int) < ((x48.len : Nat) : Int))) (
                  ∃ x49 : SlV, w46.drew.cell? ((Addr.mk b15 0 none).add 2) = some (.slice x49.base x49.len x49.cap) ∧
                  ∃ x50 : SlV, w46.drew.cell? ((Addr.mk b15 0 none).add 2) = some (.slice x50.base x50.len x50.cap) ∧
                  NC x50.base fun p51 =>
                  ((0 : Int) ≤ s45.1 ∧ (s45.1 : Int) < (x50.len : Nat)) ∧
                  ∃ x52 : Int, w46.drew.cell? (p51.add (Int.toNat s45.1 * 1)) = some (.int .u64 x52) ∧
                  NC x49.base fun p53 =>
                  ((0 : Int) ≤ s45.1 ∧ (s45.1 : Int) < (x49.len : Nat)) ∧
                  stCells (p53.add (Int.toNat s45.1 * 1)) 0 [.int .u64 (u64 (x52 + 1))] w46.drew fun w54 =>
                  next47 (i64 (s45.1 + 1), ()) w54
                ) (
                  LOOP (Int × Unit) (0, ()) w46 fun s55 _ w56 next57 =>
                    CND (decide ((s55.1 : Int) < ((a1.len : Nat) : Int))) (
                      NC a1.base fun p58 =>
                      ((0 : Int) ≤ s55.1 ∧ (s55.1 : Int) < (a1.len : Nat)) ∧
                      ∃ c59 : Int, w56.cell? ((p58.add (Int.toNat s55.1 * 4)).add 0) = some (.int .i64 c59) ∧
                      ∃ c60 : Int, w56.cell? ((p58.add (Int.toNat s55.1 * 4)).add 1) = some (.int .u64 c60) ∧
                      ∃ c61 : Int, w56.cell? ((p58.add (Int.toNat s55.1 * 4)).add 2) = some (.int .u64 c61) ∧
                      ∃ c62 : Int, w56.cell? ((p58.add (Int.toNat s55.1 * 4)).add 3) = some (.int .u64 c62) ∧
                      F.mallowlaw3_act E r21 r26 c59 c60 c61 c62 (fun r63 w64 =>
                      CND (!r63) (
                        K false w64
                      ) (
                        next57 (i64 (s55.1 + 1), ()) w64
                      )
                      ) w56
                    ) (
                      F.mallowlaw3_same E r21 r26 (fun r65 w66 =>
                      CND (r65) (
                        F.mallowlaw3_awake E  (fun r67 w68 =>
                        K r67 w68
                        ) w66
                      ) (
                        K false w66
                      )
                      ) w56
                    )
                )
            )
        )
    )
    ) w22
    ) w17
    ) w7
  )
  ) w2

def F.mallowlaw3_VmemApart (E : Env) (a0_0 : SlV) (a0_1 : SlV) (a0_2 : SlV) (a1 : SlV) (a2 : SlV) (K : Bool → World → Prop) (w : World) : Prop :=
  AL (.cells #[.slice a0_0.base a0_0.len a0_0.cap, .slice a0_1.base a0_1.len a0_1.cap, .slice a0_2.base a0_2.len a0_2.cap] E.t_api_Answers) w fun b1 w2 =>
  ∃ c3 : SlV, w2.cell? ((Addr.mk b1 0 none).add 0) = some (.slice c3.base c3.len c3.cap) ∧
  ∃ c4 : SlV, w2.cell? ((Addr.mk b1 0 none).add 1) = some (.slice c4.base c4.len c4.cap) ∧
  ∃ c5 : SlV, w2.cell? ((Addr.mk b1 0 none).add 2) = some (.slice c5.base c5.len c5.cap) ∧
  F.mallowlaw3_heavy E c3 c4 c5 a1 (fun r6 w7 =>
  CND (r6) (
    K true w7
  ) (
    ∃ c8 : SlV, w7.drew.cell? ((Addr.mk b1 0 none).add 0) = some (.slice c8.base c8.len c8.cap) ∧
    ∃ c9 : SlV, w7.drew.cell? ((Addr.mk b1 0 none).add 1) = some (.slice c9.base c9.len c9.cap) ∧
    ∃ c10 : SlV, w7.drew.cell? ((Addr.mk b1 0 none).add 2) = some (.slice c10.base c10.len c10.cap) ∧
    ∃ c11 : SlV, w7.drew.cell? ((Addr.mk b1 0 none).add 0) = some (.slice c11.base c11.len c11.cap) ∧
    ∃ c12 : SlV, w7.drew.cell? ((Addr.mk b1 0 none).add 1) = some (.slice c12.base c12.len c12.cap) ∧
    ∃ c13 : SlV, w7.drew.cell? ((Addr.mk b1 0 none).add 2) = some (.slice c13.base c13.len c13.cap) ∧
    F.mallowlaw3_given E c8 c9 c10 (fun r14 r15 r16 w17 =>
    (w17.cell? ((Addr.mk b1 0 none).add 0) = some (.slice c11.base c11.len c11.cap) ∧ (w17.cell? ((Addr.mk b1 0 none).add 1) = some (.slice c12.base c12.len c12.cap) ∧ (w17.cell? ((Addr.mk b1 0 none).add 2) = some (.slice c13.base c13.len c13.cap) ∧ True))) ∧
    F.vmem_New E r14 r15 r16 (fun r18 w19 =>
    (w19.cell? ((Addr.mk b1 0 none).add 0) = some (.slice c11.base c11.len c11.cap) ∧ (w19.cell? ((Addr.mk b1 0 none).add 1) = some (.slice c12.base c12.len c12.cap) ∧ (w19.cell? ((Addr.mk b1 0 none).add 2) = some (.slice c13.base c13.len c13.cap) ∧ True))) ∧
    F.mallowlaw3_given E c11 c12 c13 (fun r20 r21 r22 w23 =>
    F.vmem_New E r20 r21 r22 (fun r24 w25 =>
    ∃ c26 : SlV, w25.drew.cell? ((Addr.mk b1 0 none).add 0) = some (.slice c26.base c26.len c26.cap) ∧
    ∃ c27 : SlV, w25.drew.cell? ((Addr.mk b1 0 none).add 1) = some (.slice c27.base c27.len c27.cap) ∧
    ∃ c28 : SlV, w25.drew.cell? ((Addr.mk b1 0 none).add 2) = some (.slice c28.base c28.len c28.cap) ∧
    ∃ c29 : SlV, w25.drew.cell? ((Addr.mk b1 0 none).add 0) = some (.slice c29.base c29.len c29.cap) ∧
    ∃ c30 : SlV, w25.drew.cell? ((Addr.mk b1 0 none).add 1) = some (.slice c30.base c30.len c30.cap) ∧
    ∃ c31 : SlV, w25.drew.cell? ((Addr.mk b1 0 none).add 2) = some (.slice c31.base c31.len c31.cap) ∧
    F.mallowref3_New E c26 c27 c28 (fun r32 w33 =>
    (w33.cell? ((Addr.mk b1 0 none).add 0) = some (.slice c29.base c29.len c29.cap) ∧ (w33.cell? ((Addr.mk b1 0 none).add 1) = some (.slice c30.base c30.len c30.cap) ∧ (w33.cell? ((Addr.mk b1 0 none).add 2) = some (.slice c31.base c31.len c31.cap) ∧ True))) ∧
    F.mallowref3_New E c29 c30 c31 (fun r34 w35 =>
    JOIN (Bool × Unit) (fun J36 =>
      CND (r18.isNone) (
        J36 (true, ()) w35
      ) (
        J36 (r24.isNone, ()) w35
      )
    ) fun s37 _ w38 =>
      CND (s37.1) (
        K false w38
      ) (
        LOOP (Int × Unit) (0, ()) w38 fun s39 _ w40 next41 =>
          CND (decide ((s39.1 : Int) < ((a1.len : Nat) : Int))) (
            JOIN (Bool × Unit) (fun J42 =>
              CND (decide ((s39.1 : Int) < ((a2.len : Nat) : Int))) (
                NC a2.base fun p45 =>
                ((0 : Int) ≤ s39.1 ∧ (s39.1 : Int) < (a2.len : Nat)) ∧
                ∃ x46 : Bool, w40.cell? (p45.add (Int.toNat s39.1 * 1)) = some (.bool x46) ∧
                J42 (x46, ()) w40
              ) (
                J42 (false, ()) w40
              )
            ) fun s43 _ w44 =>
              CND (s43.1) (
                NC a1.base fun p47 =>
                ((0 : Int) ≤ s39.1 ∧ (s39.1 : Int) < (a1.len : Nat)) ∧
                ∃ c48 : Int, w44.cell? ((p47.add (Int.toNat s39.1 * 4)).add 0) = some (.int .i64 c48) ∧
                ∃ c49 : Int, w44.cell? ((p47.add (Int.toNat s39.1 * 4)).add 1) = some (.int .u64 c49) ∧
                ∃ c50 : Int, w44.cell? ((p47.add (Int.toNat s39.1 * 4)).add 2) = some (.int .u64 c50) ∧
                ∃ c51 : Int, w44.cell? ((p47.add (Int.toNat s39.1 * 4)).add 3) = some (.int .u64 c51) ∧
                F.mallowlaw3_act E r24 r34 c48 c49 c50 c51 (fun r52 w53 =>
                CND (!r52) (
                  K false w53
                ) (
                  next41 (i64 (s39.1 + 1), ()) w53
                )
                ) w44
              ) (
                NC a1.base fun p54 =>
                ((0 : Int) ≤ s39.1 ∧ (s39.1 : Int) < (a1.len : Nat)) ∧
                ∃ c55 : Int, w44.cell? ((p54.add (Int.toNat s39.1 * 4)).add 0) = some (.int .i64 c55) ∧
                ∃ c56 : Int, w44.cell? ((p54.add (Int.toNat s39.1 * 4)).add 1) = some (.int .u64 c56) ∧
                ∃ c57 : Int, w44.cell? ((p54.add (Int.toNat s39.1 * 4)).add 2) = some (.int .u64 c57) ∧
                ∃ c58 : Int, w44.cell? ((p54.add (Int.toNat s39.1 * 4)).add 3) = some (.int .u64 c58) ∧
                F.mallowlaw3_act E r18 r32 c55 c56 c57 c58 (fun r59 w60 =>
                CND (!r59) (
                  K false w60
                ) (
                  next41 (i64 (s39.1 + 1), ()) w60
                )
                ) w44
              )
          ) (
            F.mallowlaw3_same E r18 r32 (fun r61 w62 =>
            CND (r61) (
              F.mallowlaw3_same E r24 r34 (fun r63 w64 =>
              CND (r63) (
                F.mallowlaw3_awake E  (fun r65 w66 =>
                K r65 w66
                ) w64
              ) (
                K false w64
              )
              ) w62
            ) (
              K false w62
            )
            ) w40
          )
      )
    ) w33
    ) w25.drew
    ) w23
    ) w19
    ) w17
    ) w7.drew
  )
  ) w2

def F.mallowlaw3_VmemStates (E : Env) (a0 : SlV) (K : Bool → World → Prop) (w : World) : Prop :=
  F.mallowlaw3_heavy E ⟨none, 0, 0⟩ ⟨none, 0, 0⟩ ⟨none, 0, 0⟩ a0 (fun r1 w2 =>
  CND (r1) (
    K true w2
  ) (
    F.vmem_New E ⟨none, 0, 0⟩ ⟨none, 0, 0⟩ ⟨none, 0, 0⟩ (fun r3 w4 =>
    CND (r3.isNone) (
      K false w4
    ) (
      ((0 : Int) ≤ 60 ∧ (60 : Int) ≤ 60 ∧ (60 : Int) < 9223372036854775808 ∧ ((8 : Nat) : Int) * 60 ≤ 140737488355328) ∧
      AL (.cells (mkZero #[.int .i64 0] (Int.toNat 60 * 1)) E.t_int) w4 fun b5 w6 =>
      LOOP (Int × Unit) (0, ()) w6 fun s7 _ w8 next9 =>
        CND (decide ((s7.1 : Int) < ((a0.len : Nat) : Int))) (
          NC a0.base fun p10 =>
          ((0 : Int) ≤ s7.1 ∧ (s7.1 : Int) < (a0.len : Nat)) ∧
          ∃ x11 : Int, w8.cell? (p10.add (Int.toNat s7.1 * 4)) = some (.int .i64 x11) ∧
          JOIN (Unit) (fun J12 =>
            CND ((x11 : Int) == 1) (
              NC a0.base fun p15 =>
              ((0 : Int) ≤ s7.1 ∧ (s7.1 : Int) < (a0.len : Nat)) ∧
              ∃ x16 : Int, w8.drew.cell? ((p15.add (Int.toNat s7.1 * 4)).add 1) = some (.int .u64 x16) ∧
              NC a0.base fun p17 =>
              ((0 : Int) ≤ s7.1 ∧ (s7.1 : Int) < (a0.len : Nat)) ∧
              ∃ x18 : Int, w8.drew.cell? ((p17.add (Int.toNat s7.1 * 4)).add 2) = some (.int .u64 x18) ∧
              F.vmem_Mem_Reserve E r3 x16 x18 (fun r19 r20 w21 =>
              J12 (()) w21
              ) w8.drew
            ) (
              CND ((x11 : Int) == 2) (
                NC a0.base fun p22 =>
                ((0 : Int) ≤ s7.1 ∧ (s7.1 : Int) < (a0.len : Nat)) ∧
                ∃ x23 : Int, w8.drew.cell? ((p22.add (Int.toNat s7.1 * 4)).add 1) = some (.int .u64 x23) ∧
                NC a0.base fun p24 =>
                ((0 : Int) ≤ s7.1 ∧ (s7.1 : Int) < (a0.len : Nat)) ∧
                ∃ x25 : Int, w8.drew.cell? ((p24.add (Int.toNat s7.1 * 4)).add 2) = some (.int .u64 x25) ∧
                F.vmem_Mem_Commit E r3 x23 x25 (fun r26 w27 =>
                J12 (()) w27
                ) w8.drew
              ) (
                CND ((x11 : Int) == 3) (
                  NC a0.base fun p28 =>
                  ((0 : Int) ≤ s7.1 ∧ (s7.1 : Int) < (a0.len : Nat)) ∧
                  ∃ x29 : Int, w8.drew.cell? ((p28.add (Int.toNat s7.1 * 4)).add 1) = some (.int .u64 x29) ∧
                  NC a0.base fun p30 =>
                  ((0 : Int) ≤ s7.1 ∧ (s7.1 : Int) < (a0.len : Nat)) ∧
                  ∃ x31 : Int, w8.drew.cell? ((p30.add (Int.toNat s7.1 * 4)).add 2) = some (.int .u64 x31) ∧
                  F.vmem_Mem_Release E r3 x29 x31 (fun r32 w33 =>
                  J12 (()) w33
                  ) w8.drew
                ) (
                  CND ((x11 : Int) == 5) (
                    NC a0.base fun p34 =>
                    ((0 : Int) ≤ s7.1 ∧ (s7.1 : Int) < (a0.len : Nat)) ∧
                    ∃ x35 : Int, w8.drew.cell? ((p34.add (Int.toNat s7.1 * 4)).add 3) = some (.int .u64 x35) ∧
                    NC a0.base fun p36 =>
                    ((0 : Int) ≤ s7.1 ∧ (s7.1 : Int) < (a0.len : Nat)) ∧
                    ∃ x37 : Int, w8.drew.cell? ((p36.add (Int.toNat s7.1 * 4)).add 2) = some (.int .u64 x37) ∧
                    F.vmem_Mem_Store E r3 x35 x37 (fun r38 w39 =>
                    J12 (()) w39
                    ) w8.drew
                  ) (
                    CND ((x11 : Int) == 6) (
                      NC a0.base fun p40 =>
                      ((0 : Int) ≤ s7.1 ∧ (s7.1 : Int) < (a0.len : Nat)) ∧
                      ∃ x41 : Int, w8.drew.cell? ((p40.add (Int.toNat s7.1 * 4)).add 3) = some (.int .u64 x41) ∧
                      NC a0.base fun p42 =>
                      ((0 : Int) ≤ s7.1 ∧ (s7.1 : Int) < (a0.len : Nat)) ∧
                      ∃ x43 : Int, w8.drew.cell? ((p42.add (Int.toNat s7.1 * 4)).add 2) = some (.int .u64 x43) ∧
                      F.vmem_Mem_Zero E r3 x41 x43 (fun r44 w45 =>
                      J12 (()) w45
                      ) w8.drew
                    ) (
                      J12 (()) w8
                    )
                  )
                )
              )
            )
          ) fun s13 _ w14 =>
            LOOP (Int × Unit) (0, ()) w14 fun s46 _ w47 next48 =>
              CND (decide ((s46.1 : Int) < (((Int.toNat 60) : Nat) : Int))) (
                F.vmem_Mem_State E r3 (u64 (508 + (u64 (s46.1)))) (fun r49 w50 =>
                ((0 : Int) ≤ s46.1 ∧ (s46.1 : Int) < ((Int.toNat 60) : Nat)) ∧
                ∃ x51 : Int, w50.cell? ((Addr.mk b5 0 none).add (Int.toNat s46.1 * 1)) = some (.int .i64 x51) ∧
                CND ((r49 : Int) == x51) (
                  next48 (i64 (s46.1 + 1), ()) w50
                ) (
                  JOIN (Bool × Unit) (fun J52 =>
                    CND ((x11 : Int) == 1) (
                      ((0 : Int) ≤ s46.1 ∧ (s46.1 : Int) < ((Int.toNat 60) : Nat)) ∧
                      ∃ x55 : Int, w50.cell? ((Addr.mk b5 0 none).add (Int.toNat s46.1 * 1)) = some (.int .i64 x55) ∧
                      CND ((x55 : Int) == 0) (
                        CND ((r49 : Int) == 1) (
                          J52 (true, ()) w50
                        ) (
                          CND ((x11 : Int) == 2) (
                            ((0 : Int) ≤ s46.1 ∧ (s46.1 : Int) < ((Int.toNat 60) : Nat)) ∧
                            ∃ x56 : Int, w50.cell? ((Addr.mk b5 0 none).add (Int.toNat s46.1 * 1)) = some (.int .i64 x56) ∧
                            CND ((x56 : Int) != 0) (
                              CND ((r49 : Int) == 2) (
                                J52 (true, ()) w50
                              ) (
                                CND ((x11 : Int) == 3) (
                                  ((0 : Int) ≤ s46.1 ∧ (s46.1 : Int) < ((Int.toNat 60) : Nat)) ∧
                                  ∃ x57 : Int, w50.cell? ((Addr.mk b5 0 none).add (Int.toNat s46.1 * 1)) = some (.int .i64 x57) ∧
                                  CND ((x57 : Int) == 2) (
                                    J52 ((r49 : Int) == 3, ()) w50
                                  ) (
                                    J52 (false, ()) w50
                                  )
                                ) (
                                  J52 (false, ()) w50
                                )
                              )
                            ) (
                              CND ((x11 : Int) == 3) (
                                ((0 : Int) ≤ s46.1 ∧ (s46.1 : Int) < ((Int.toNat 60) : Nat)) ∧
                                ∃ x58 : Int, w50.cell? ((Addr.mk b5 0 none).add (Int.toNat s46.1 * 1)) = some (.int .i64 x58) ∧
                                CND ((x58 : Int) == 2) (
                                  J52 ((r49 : Int) == 3, ()) w50
                                ) (
                                  J52 (false, ()) w50
                                )
                              ) (
                                J52 (false, ()) w50
                              )
                            )
                          ) (
                            CND ((x11 : Int) == 3) (
                              ((0 : Int) ≤ s46.1 ∧ (s46.1 : Int) < ((Int.toNat 60) : Nat)) ∧
                              ∃ x59 : Int, w50.cell? ((Addr.mk b5 0 none).add (Int.toNat s46.1 * 1)) = some (.int .i64 x59) ∧
                              CND ((x59 : Int) == 2) (
                                J52 ((r49 : Int) == 3, ()) w50
                              ) (
                                J52 (false, ()) w50
                              )
                            ) (
                              J52 (false, ()) w50
                            )
                          )
                        )
                      ) (
                        CND ((x11 : Int) == 2) (
                          ((0 : Int) ≤ s46.1 ∧ (s46.1 : Int) < ((Int.toNat 60) : Nat)) ∧
                          ∃ x60 : Int, w50.cell? ((Addr.mk b5 0 none).add (Int.toNat s46.1 * 1)) = some (.int .i64 x60) ∧
                          CND ((x60 : Int) != 0) (
                            CND ((r49 : Int) == 2) (
                              J52 (true, ()) w50
                            ) (
                              CND ((x11 : Int) == 3) (
                                ((0 : Int) ≤ s46.1 ∧ (s46.1 : Int) < ((Int.toNat 60) : Nat)) ∧
                                ∃ x61 : Int, w50.cell? ((Addr.mk b5 0 none).add (Int.toNat s46.1 * 1)) = some (.int .i64 x61) ∧
                                CND ((x61 : Int) == 2) (
                                  J52 ((r49 : Int) == 3, ()) w50
                                ) (
                                  J52 (false, ()) w50
                                )
                              ) (
                                J52 (false, ()) w50
                              )
                            )
                          ) (
                            CND ((x11 : Int) == 3) (
                              ((0 : Int) ≤ s46.1 ∧ (s46.1 : Int) < ((Int.toNat 60) : Nat)) ∧
                              ∃ x62 : Int, w50.cell? ((Addr.mk b5 0 none).add (Int.toNat s46.1 * 1)) = some (.int .i64 x62) ∧
                              CND ((x62 : Int) == 2) (
                                J52 ((r49 : Int) == 3, ()) w50
                              ) (
                                J52 (false, ()) w50
                              )
                            ) (
                              J52 (false, ()) w50
                            )
                          )
                        ) (
                          CND ((x11 : Int) == 3) (
                            ((0 : Int) ≤ s46.1 ∧ (s46.1 : Int) < ((Int.toNat 60) : Nat)) ∧
                            ∃ x63 : Int, w50.cell? ((Addr.mk b5 0 none).add (Int.toNat s46.1 * 1)) = some (.int .i64 x63) ∧
                            CND ((x63 : Int) == 2) (
                              J52 ((r49 : Int) == 3, ()) w50
                            ) (
                              J52 (false, ()) w50
                            )
                          ) (
                            J52 (false, ()) w50
                          )
                        )
                      )
                    ) (
                      CND ((x11 : Int) == 2) (
                        ((0 : Int) ≤ s46.1 ∧ (s46.1 : Int) < ((Int.toNat 60) : Nat)) ∧
                        ∃ x64 : Int, w50.cell? ((Addr.mk b5 0 none).add (Int.toNat s46.1 * 1)) = some (.int .i64 x64) ∧
                        CND ((x64 : Int) != 0) (
                          CND ((r49 : Int) == 2) (
                            J52 (true, ()) w50
                          ) (
                            CND ((x11 : Int) == 3) (
                              ((0 : Int) ≤ s46.1 ∧ (s46.1 : Int) < ((Int.toNat 60) : Nat)) ∧
                              ∃ x65 : Int, w50.cell? ((Addr.mk b5 0 none).add (Int.toNat s46.1 * 1)) = some (.int .i64 x65) ∧
                              CND ((x65 : Int) == 2) (
                                J52 ((r49 : Int) == 3, ()) w50
                              ) (
                                J52 (false, ()) w50
                              )
                            ) (
                              J52 (false, ()) w50
                            )
                          )
                        ) (
                          CND ((x11 : Int) == 3) (
                            ((0 : Int) ≤ s46.1 ∧ (s46.1 : Int) < ((Int.toNat 60) : Nat)) ∧
                            ∃ x66 : Int, w50.cell? ((Addr.mk b5 0 none).add (Int.toNat s46.1 * 1)) = some (.int .i64 x66) ∧
                            CND ((x66 : Int) == 2) (
                              J52 ((r49 : Int) == 3, ()) w50
                            ) (
                              J52 (false, ()) w50
                            )
                          ) (
                            J52 (false, ()) w50
                          )
                        )
                      ) (
                        CND ((x11 : Int) == 3) (
                          ((0 : Int) ≤ s46.1 ∧ (s46.1 : Int) < ((Int.toNat 60) : Nat)) ∧
                          ∃ x67 : Int, w50.cell? ((Addr.mk b5 0 none).add (Int.toNat s46.1 * 1)) = some (.int .i64 x67) ∧
                          CND ((x67 : Int) == 2) (
                            J52 ((r49 : Int) == 3, ()) w50
                          ) (
                            J52 (false, ()) w50
                          )
                        ) (
                          J52 (false, ()) w50
                        )
                      )
                    )
                  ) fun s53 _ w54 =>
                    CND (!s53.1) (
                      K false w54
                    ) (
                      ((0 : Int) ≤ s46.1 ∧ (s46.1 : Int) < ((Int.toNat 60) : Nat)) ∧
                      stCells ((Addr.mk b5 0 none).add (Int.toNat s46.1 * 1)) 0 [.int .i64 r49] w54 fun w68 =>
                      next48 (i64 (s46.1 + 1), ()) w68
                    )
                )
                ) w47
              ) (
                next9 (i64 (s7.1 + 1), ()) w47
              )
        ) (
          F.vmem_Mem_State E r3 34359738368 (fun r69 w70 =>
          CND ((r69 : Int) == 0) (
            F.vmem_Mem_State E r3 18446744073709551615 (fun r71 w72 =>
            CND ((r71 : Int) == 0) (
              F.mallowlaw3_awake E  (fun r73 w74 =>
              K r73 w74
              ) w72
            ) (
              K false w72
            )
            ) w70
          ) (
            K false w70
          )
          ) w8
        )
    )
    ) w2
  )
  ) w

def F.mallowlaw3_VmemZeroes (E : Env) (a0 : Int) (a1 : Int) (a2 : Int) (K : Bool → World → Prop) (w : World) : Prop :=
  JOIN (Bool × Unit) (fun J1 =>
    CND (decide ((a1 : Int) > 3000)) (
      J1 (true, ()) w
    ) (
      CND (decide ((a2 : Int) > 3000)) (
        J1 (true, ()) w
      ) (
        J1 (decide (((u64 (a1 + a2)) : Int) > 4096), ()) w
      )
    )
  ) fun s2 _ w3 =>
    CND (s2.1) (
      K true w3
    ) (
      AL (.cells ⟨[.int .u64 a0, .int .u64 (u64 (a0 + 1)), .int .u64 (u64 (a0 + 2)), .int .u64 (u64 (a0 + 3))]⟩ E.t_uint64) w3 fun b4 w5 =>
      F.vmem_New E ⟨none, 0, 0⟩ ⟨none, 0, 0⟩ ⟨(some (Addr.mk b4 0 none)), 4, 4⟩ (fun r6 w7 =>
      CND (r6.isNone) (
        K false w7
      ) (
        F.vmem_Mem_Reserve E r6 0 512 (fun r8 r9 w10 =>
        JOIN (Bool × Unit) (fun J11 =>
          CND ((r9 : Int) != 0) (
            J11 (true, ()) w10
          ) (
            F.vmem_Mem_Commit E r6 r8 4 (fun r14 w15 =>
            CND ((r14 : Int) != 0) (
              J11 (true, ()) w15
            ) (
              F.vmem_Mem_Release E r6 r8 4 (fun r16 w17 =>
              CND ((r16 : Int) != 0) (
                J11 (true, ()) w17
              ) (
                F.vmem_Mem_Commit E r6 r8 4 (fun r18 w19 =>
                J11 ((r18 : Int) != 0, ()) w19
                ) w17
              )
              ) w15
            )
            ) w10
          )
        ) fun s12 _ w13 =>
          CND (s12.1) (
            K false w13
          ) (
            JOIN (Bool × Unit) (fun J20 =>
              F.vmem_Mem_Zero E r6 (u64 ((u64 (r8 * 8192)) + (u64 (8 * a1)))) (u64 (8 * a2)) (fun r23 w24 =>
              CND ((r23 : Int) != 0) (
                J20 (true, ()) w24
              ) (
                F.vmem_Mem_Zero E r6 (u64 ((u64 (r8 * 8192)) + 4)) 8 (fun r25 w26 =>
                CND ((r25 : Int) != 11) (
                  J20 (true, ()) w26
                ) (
                  F.vmem_Mem_Zero E r6 (u64 (r8 * 8192)) 40960 (fun r27 w28 =>
                  J20 ((r27 : Int) != 12, ()) w28
                  ) w26
                )
                ) w24
              )
              ) w13
            ) fun s21 _ w22 =>
              CND (s21.1) (
                K false w22
              ) (
                LOOP (Int × Unit) (0, ()) w22 fun s29 _ w30 next31 =>
                  CND (decide ((s29.1 : Int) < 4096)) (
                    1024 ≠ (0 : Int) ∧
                    LET (u64 (a0 + (u64 (Int.tdiv s29.1 1024))) : Int) fun want_32 =>
                    JOIN (Int × Unit) (fun J33 =>
                      JOIN (Bool × Unit) (fun J36 =>
                        CND (decide ((s29.1 : Int) ≥ a1)) (
                          J36 (decide ((s29.1 : Int) < (u64 (a1 + a2))), ()) w30
                        ) (
                          J36 (false, ()) w30
                        )
                      ) fun s37 _ w38 =>
                        CND (s37.1) (
                          J33 (0, ()) w38
                        ) (
                          J33 (want_32, ()) w38
                        )
                    ) fun s34 _ w35 =>
                      F.vmem_Mem_Load E r6 (u64 ((u64 (r8 * 8192)) + (u64 (8 * s29.1)))) (fun r39 r40 w41 =>
                      JOIN (Bool × Unit) (fun J42 =>
                        CND ((r39 : Int) != s34.1) (
                          J42 (true, ()) w41
                        ) (
                          J42 ((r40 : Int) != 0, ()) w41
                        )
                      ) fun s43 _ w44 =>
                        CND (s43.1) (
                          K false w44
                        ) (
                          next31 (u64 (s29.1 + 1), ()) w44
                        )
                      ) w35
                  ) (
                    F.mallowlaw3_awake E  (fun r45 w46 =>
                    K r45 w46
                    ) w30
                  )
              )
          )
        ) w7
      )
      ) w5
    )

def F.stretch_Set_at_1 (E : Env) (a0 : Int) (a1 : (Option Addr)) (a2 : (Option Addr)) (K : Bool → World → Prop) (w : World) : Prop :=
  NC a1 fun p1 =>
  ∃ x2 : (Option Addr), w.drew.cell? p1 = some (.pointer x2) ∧
  NC x2 fun p3 =>
  ∃ x4 : SlV, w.drew.cell? p3 = some (.slice x4.base x4.len x4.cap) ∧
  NC x4.base fun p5 =>
  ((0 : Int) ≤ a0 ∧ (a0 : Int) < (x4.len : Nat)) ∧
  ∃ x6 : Int, w.drew.cell? ((p5.add (Int.toNat a0 * 2)).add 1) = some (.int .u64 x6) ∧
  NC a2 fun p7 =>
  ∃ x8 : Int, w.drew.cell? p7 = some (.int .u64 x8) ∧
  K (decide ((x6 : Int) > x8)) w.drew

end Go.Sh
