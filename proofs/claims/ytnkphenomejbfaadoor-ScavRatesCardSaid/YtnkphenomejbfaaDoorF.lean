/- The shallow forms of the functions, printed by a program. No further condition. -/
import Derived.Test.YtnkphenomejbfaaDoorSh
set_option linter.all false
set_option maxRecDepth 100000
namespace Go.Sh

structure Env where
 call : Calling
 t_uint64 : Nat
 t_bool : Nat
 t_api_Answers : Nat
 t_vmem_Mem : Nat
 t_map_uint64_api_Sum : Nat
 t_radix_Tree : Nat
 t_arena_Map : Nat
 t_fix_Fix : Nat
 t_pcache_Cache : Nat
 t_mheap_Heap : Nat
 t_api_Class : Nat
 t_span_Span : Nat
 t_stretch_One : Nat
 t__stretch_Set : Nat
 t__mheap_Heap : Nat
 t_api_Errno : Nat
 t_fix_record : Nat
 t__fix_record : Nat
 t_api_Info : Nat
 t_arena_wide : Nat
 t__arena_Map : Nat
 t_int : Nat
 t_scav_Pacer : Nat
 t_vmem_fault : Nat
 t__1024_uint64 : Nat
 t__512_int : Nat
 f_stretch_Set_at_1 : Nat
 f_arena_Map_Set_1 : Nat
 g_math_bits_deBruijn64tab : Nat

def F.slices_Clone___uint64_uint64_ (E : Env) (a0 : SlV) (K : SlV → World → Prop) (w : World) : Prop :=
 CND (a0.base.isNone) (
 K ⟨none, 0, 0⟩ w
 ) (
 AL (.cells ⟨[]⟩ E.t_uint64) w fun b1 w2 =>
 APP E.t_uint64 1 8 #[.int .u64 0] ⟨(some (Addr.mk b1 0 none)), 0, 0⟩ a0 w2 fun s3 w4 =>
 K s3 w4
 )

def F.slices_Clone___bool_bool_ (E : Env) (a0 : SlV) (K : SlV → World → Prop) (w : World) : Prop :=
 CND (a0.base.isNone) (
 K ⟨none, 0, 0⟩ w
 ) (
 AL (.cells ⟨[]⟩ E.t_bool) w fun b1 w2 =>
 APP E.t_bool 1 1 #[.bool false] ⟨(some (Addr.mk b1 0 none)), 0, 0⟩ a0 w2 fun s3 w4 =>
 K s3 w4
 )

def F.vmem_New (E : Env) (a0_0 : SlV) (a0_1 : SlV) (a0_2 : SlV) (K : (Option Addr) → World → Prop) (w : World) : Prop :=
 AL (.cells #[.slice a0_0.base a0_0.len a0_0.cap, .slice a0_1.base a0_1.len a0_1.cap, .slice a0_2.base a0_2.len a0_2.cap] E.t_api_Answers) w fun b1 w2 =>
 ∃ x3 : SlV, w2.drew.cell? (Addr.mk b1 0 none) = some (.slice x3.base x3.len x3.cap) ∧
 ∃ x4 : SlV, w2.drew.cell? ((Addr.mk b1 0 none).add 1) = some (.slice x4.base x4.len x4.cap) ∧
 ∃ x5 : SlV, w2.drew.cell? ((Addr.mk b1 0 none).add 2) = some (.slice x5.base x5.len x5.cap) ∧
 (
 F.slices_Clone___uint64_uint64_ E x3 (fun r6 w7 =>
 w7.cell? ((Addr.mk b1 0 none).add 2) = some (.slice x5.base x5.len x5.cap) ∧
 w7.cell? ((Addr.mk b1 0 none).add 1) = some (.slice x4.base x4.len x4.cap) ∧
 (
 F.slices_Clone___bool_bool_ E x4 (fun r8 w9 =>
 w9.cell? ((Addr.mk b1 0 none).add 2) = some (.slice x5.base x5.len x5.cap) ∧
 (
 F.slices_Clone___uint64_uint64_ E x5 (fun r10 w11 =>
 (
 AL (.map #[] 0) w11 fun b12 w13 =>
 AL (.map #[] 0) w13 fun b14 w15 =>
 AL (.cells #[.slice r6.base r6.len r6.cap, .slice r8.base r8.len r8.cap, .slice r10.base r10.len r10.cap, .slice none 0 0, .int .u64 0, .slice none 0 0, .int .u64 0, .slice none 0 0, .int .u64 0, .map (some b12), .map (some b14)] E.t_vmem_Mem) w15 fun b16 w17 =>
 K (some (Addr.mk b16 0 none)) w17

 ) ∧ (
 AL (.map #[] 0) w11 fun b18 w19 =>
 AL (.map #[] 0) w19 fun b20 w21 =>
 AL (.cells #[.slice r6.base r6.len r6.cap, .slice r8.base r8.len r8.cap, .slice r10.base r10.len r10.cap, .slice none 0 0, .int .u64 0, .slice none 0 0, .int .u64 0, .slice none 0 0, .int .u64 0, .map (some b20), .map (some b18)] E.t_vmem_Mem) w21 fun b22 w23 =>
 K (some (Addr.mk b22 0 none)) w23
 )
 ) w9

 ) ∧ (
 AL (.map #[] 0) w9 fun b24 w25 =>
 w25.cell? ((Addr.mk b1 0 none).add 2) = some (.slice x5.base x5.len x5.cap) ∧
 (
 F.slices_Clone___uint64_uint64_ E x5 (fun r26 w27 =>
 AL (.map #[] 0) w27 fun b28 w29 =>
 AL (.cells #[.slice r6.base r6.len r6.cap, .slice r8.base r8.len r8.cap, .slice r26.base r26.len r26.cap, .slice none 0 0, .int .u64 0, .slice none 0 0, .int .u64 0, .slice none 0 0, .int .u64 0, .map (some b24), .map (some b28)] E.t_vmem_Mem) w29 fun b30 w31 =>
 K (some (Addr.mk b30 0 none)) w31
 ) w25

 ) ∧ (
 AL (.map #[] 0) w25 fun b32 w33 =>
 w33.cell? ((Addr.mk b1 0 none).add 2) = some (.slice x5.base x5.len x5.cap) ∧
 F.slices_Clone___uint64_uint64_ E x5 (fun r34 w35 =>
 AL (.cells #[.slice r6.base r6.len r6.cap, .slice r8.base r8.len r8.cap, .slice r34.base r34.len r34.cap, .slice none 0 0, .int .u64 0, .slice none 0 0, .int .u64 0, .slice none 0 0, .int .u64 0, .map (some b24), .map (some b32)] E.t_vmem_Mem) w35 fun b36 w37 =>
 K (some (Addr.mk b36 0 none)) w37
 ) w33
 )

 ) ∧ (
 AL (.map #[] 0) w9 fun b38 w39 =>
 w39.cell? ((Addr.mk b1 0 none).add 2) = some (.slice x5.base x5.len x5.cap) ∧
 (
 F.slices_Clone___uint64_uint64_ E x5 (fun r40 w41 =>
 AL (.map #[] 0) w41 fun b42 w43 =>
 AL (.cells #[.slice r6.base r6.len r6.cap, .slice r8.base r8.len r8.cap, .slice r40.base r40.len r40.cap, .slice none 0 0, .int .u64 0, .slice none 0 0, .int .u64 0, .slice none 0 0, .int .u64 0, .map (some b42), .map (some b38)] E.t_vmem_Mem) w43 fun b44 w45 =>
 K (some (Addr.mk b44 0 none)) w45
 ) w39

 ) ∧ (
 AL (.map #[] 0) w39 fun b46 w47 =>
 w47.cell? ((Addr.mk b1 0 none).add 2) = some (.slice x5.base x5.len x5.cap) ∧
 F.slices_Clone___uint64_uint64_ E x5 (fun r48 w49 =>
 AL (.cells #[.slice r6.base r6.len r6.cap, .slice r8.base r8.len r8.cap, .slice r48.base r48.len r48.cap, .slice none 0 0, .int .u64 0, .slice none 0 0, .int .u64 0, .slice none 0 0, .int .u64 0, .map (some b46), .map (some b38)] E.t_vmem_Mem) w49 fun b50 w51 =>
 K (some (Addr.mk b50 0 none)) w51
 ) w47
 )
 )
 ) w7

 ) ∧ (
 AL (.map #[] 0) w7 fun b52 w53 =>
 w53.cell? ((Addr.mk b1 0 none).add 2) = some (.slice x5.base x5.len x5.cap) ∧
 w53.cell? ((Addr.mk b1 0 none).add 1) = some (.slice x4.base x4.len x4.cap) ∧
 (
 F.slices_Clone___bool_bool_ E x4 (fun r54 w55 =>
 w55.cell? ((Addr.mk b1 0 none).add 2) = some (.slice x5.base x5.len x5.cap) ∧
 (
 F.slices_Clone___uint64_uint64_ E x5 (fun r56 w57 =>
 AL (.map #[] 0) w57 fun b58 w59 =>
 AL (.cells #[.slice r6.base r6.len r6.cap, .slice r54.base r54.len r54.cap, .slice r56.base r56.len r56.cap, .slice none 0 0, .int .u64 0, .slice none 0 0, .int .u64 0, .slice none 0 0, .int .u64 0, .map (some b52), .map (some b58)] E.t_vmem_Mem) w59 fun b60 w61 =>
 K (some (Addr.mk b60 0 none)) w61
 ) w55

 ) ∧ (
 AL (.map #[] 0) w55 fun b62 w63 =>
 w63.cell? ((Addr.mk b1 0 none).add 2) = some (.slice x5.base x5.len x5.cap) ∧
 F.slices_Clone___uint64_uint64_ E x5 (fun r64 w65 =>
 AL (.cells #[.slice r6.base r6.len r6.cap, .slice r54.base r54.len r54.cap, .slice r64.base r64.len r64.cap, .slice none 0 0, .int .u64 0, .slice none 0 0, .int .u64 0, .slice none 0 0, .int .u64 0, .map (some b52), .map (some b62)] E.t_vmem_Mem) w65 fun b66 w67 =>
 K (some (Addr.mk b66 0 none)) w67
 ) w63
 )
 ) w53

 ) ∧ (
 AL (.map #[] 0) w53 fun b68 w69 =>
 w69.cell? ((Addr.mk b1 0 none).add 2) = some (.slice x5.base x5.len x5.cap) ∧
 w69.cell? ((Addr.mk b1 0 none).add 1) = some (.slice x4.base x4.len x4.cap) ∧
 F.slices_Clone___bool_bool_ E x4 (fun r70 w71 =>
 w71.cell? ((Addr.mk b1 0 none).add 2) = some (.slice x5.base x5.len x5.cap) ∧
 F.slices_Clone___uint64_uint64_ E x5 (fun r72 w73 =>
 AL (.cells #[.slice r6.base r6.len r6.cap, .slice r70.base r70.len r70.cap, .slice r72.base r72.len r72.cap, .slice none 0 0, .int .u64 0, .slice none 0 0, .int .u64 0, .slice none 0 0, .int .u64 0, .map (some b52), .map (some b68)] E.t_vmem_Mem) w73 fun b74 w75 =>
 K (some (Addr.mk b74 0 none)) w75
 ) w71
 ) w69
 )

 ) ∧ (
 AL (.map #[] 0) w7 fun b76 w77 =>
 w77.cell? ((Addr.mk b1 0 none).add 2) = some (.slice x5.base x5.len x5.cap) ∧
 w77.cell? ((Addr.mk b1 0 none).add 1) = some (.slice x4.base x4.len x4.cap) ∧
 (
 F.slices_Clone___bool_bool_ E x4 (fun r78 w79 =>
 w79.cell? ((Addr.mk b1 0 none).add 2) = some (.slice x5.base x5.len x5.cap) ∧
 (
 F.slices_Clone___uint64_uint64_ E x5 (fun r80 w81 =>
 AL (.map #[] 0) w81 fun b82 w83 =>
 AL (.cells #[.slice r6.base r6.len r6.cap, .slice r78.base r78.len r78.cap, .slice r80.base r80.len r80.cap, .slice none 0 0, .int .u64 0, .slice none 0 0, .int .u64 0, .slice none 0 0, .int .u64 0, .map (some b82), .map (some b76)] E.t_vmem_Mem) w83 fun b84 w85 =>
 K (some (Addr.mk b84 0 none)) w85
 ) w79

 ) ∧ (
 AL (.map #[] 0) w79 fun b86 w87 =>
 w87.cell? ((Addr.mk b1 0 none).add 2) = some (.slice x5.base x5.len x5.cap) ∧
 F.slices_Clone___uint64_uint64_ E x5 (fun r88 w89 =>
 AL (.cells #[.slice r6.base r6.len r6.cap, .slice r78.base r78.len r78.cap, .slice r88.base r88.len r88.cap, .slice none 0 0, .int .u64 0, .slice none 0 0, .int .u64 0, .slice none 0 0, .int .u64 0, .map (some b86), .map (some b76)] E.t_vmem_Mem) w89 fun b90 w91 =>
 K (some (Addr.mk b90 0 none)) w91
 ) w87
 )
 ) w77

 ) ∧ (
 AL (.map #[] 0) w77 fun b92 w93 =>
 w93.cell? ((Addr.mk b1 0 none).add 2) = some (.slice x5.base x5.len x5.cap) ∧
 w93.cell? ((Addr.mk b1 0 none).add 1) = some (.slice x4.base x4.len x4.cap) ∧
 F.slices_Clone___bool_bool_ E x4 (fun r94 w95 =>
 w95.cell? ((Addr.mk b1 0 none).add 2) = some (.slice x5.base x5.len x5.cap) ∧
 F.slices_Clone___uint64_uint64_ E x5 (fun r96 w97 =>
 AL (.cells #[.slice r6.base r6.len r6.cap, .slice r94.base r94.len r94.cap, .slice r96.base r96.len r96.cap, .slice none 0 0, .int .u64 0, .slice none 0 0, .int .u64 0, .slice none 0 0, .int .u64 0, .map (some b92), .map (some b76)] E.t_vmem_Mem) w97 fun b98 w99 =>
 K (some (Addr.mk b98 0 none)) w99
 ) w95
 ) w93
 )
 )
 ) w2.drew

 ) ∧ (
 AL (.map #[] 0) w2.drew fun b100 w101 =>
 w101.cell? ((Addr.mk b1 0 none).add 2) = some (.slice x5.base x5.len x5.cap) ∧
 w101.cell? ((Addr.mk b1 0 none).add 1) = some (.slice x4.base x4.len x4.cap) ∧
 w101.cell? (Addr.mk b1 0 none) = some (.slice x3.base x3.len x3.cap) ∧
 (
 F.slices_Clone___uint64_uint64_ E x3 (fun r102 w103 =>
 w103.cell? ((Addr.mk b1 0 none).add 2) = some (.slice x5.base x5.len x5.cap) ∧
 w103.cell? ((Addr.mk b1 0 none).add 1) = some (.slice x4.base x4.len x4.cap) ∧
 (
 F.slices_Clone___bool_bool_ E x4 (fun r104 w105 =>
 w105.cell? ((Addr.mk b1 0 none).add 2) = some (.slice x5.base x5.len x5.cap) ∧
 (
 F.slices_Clone___uint64_uint64_ E x5 (fun r106 w107 =>
 AL (.map #[] 0) w107 fun b108 w109 =>
 AL (.cells #[.slice r102.base r102.len r102.cap, .slice r104.base r104.len r104.cap, .slice r106.base r106.len r106.cap, .slice none 0 0, .int .u64 0, .slice none 0 0, .int .u64 0, .slice none 0 0, .int .u64 0, .map (some b100), .map (some b108)] E.t_vmem_Mem) w109 fun b110 w111 =>
 K (some (Addr.mk b110 0 none)) w111
 ) w105

 ) ∧ (
 AL (.map #[] 0) w105 fun b112 w113 =>
 w113.cell? ((Addr.mk b1 0 none).add 2) = some (.slice x5.base x5.len x5.cap) ∧
 F.slices_Clone___uint64_uint64_ E x5 (fun r114 w115 =>
 AL (.cells #[.slice r102.base r102.len r102.cap, .slice r104.base r104.len r104.cap, .slice r114.base r114.len r114.cap, .slice none 0 0, .int .u64 0, .slice none 0 0, .int .u64 0, .slice none 0 0, .int .u64 0, .map (some b100), .map (some b112)] E.t_vmem_Mem) w115 fun b116 w117 =>
 K (some (Addr.mk b116 0 none)) w117
 ) w113
 )
 ) w103

 ) ∧ (
 AL (.map #[] 0) w103 fun b118 w119 =>
 w119.cell? ((Addr.mk b1 0 none).add 2) = some (.slice x5.base x5.len x5.cap) ∧
 w119.cell? ((Addr.mk b1 0 none).add 1) = some (.slice x4.base x4.len x4.cap) ∧
 F.slices_Clone___bool_bool_ E x4 (fun r120 w121 =>
 w121.cell? ((Addr.mk b1 0 none).add 2) = some (.slice x5.base x5.len x5.cap) ∧
 F.slices_Clone___uint64_uint64_ E x5 (fun r122 w123 =>
 AL (.cells #[.slice r102.base r102.len r102.cap, .slice r120.base r120.len r120.cap, .slice r122.base r122.len r122.cap, .slice none 0 0, .int .u64 0, .slice none 0 0, .int .u64 0, .slice none 0 0, .int .u64 0, .map (some b100), .map (some b118)] E.t_vmem_Mem) w123 fun b124 w125 =>
 K (some (Addr.mk b124 0 none)) w125
 ) w121
 ) w119
 )
 ) w101

 ) ∧ (
 AL (.map #[] 0) w101 fun b126 w127 =>
 w127.cell? ((Addr.mk b1 0 none).add 2) = some (.slice x5.base x5.len x5.cap) ∧
 w127.cell? ((Addr.mk b1 0 none).add 1) = some (.slice x4.base x4.len x4.cap) ∧
 w127.cell? (Addr.mk b1 0 none) = some (.slice x3.base x3.len x3.cap) ∧
 F.slices_Clone___uint64_uint64_ E x3 (fun r128 w129 =>
 w129.cell? ((Addr.mk b1 0 none).add 2) = some (.slice x5.base x5.len x5.cap) ∧
 w129.cell? ((Addr.mk b1 0 none).add 1) = some (.slice x4.base x4.len x4.cap) ∧
 F.slices_Clone___bool_bool_ E x4 (fun r130 w131 =>
 w131.cell? ((Addr.mk b1 0 none).add 2) = some (.slice x5.base x5.len x5.cap) ∧
 F.slices_Clone___uint64_uint64_ E x5 (fun r132 w133 =>
 AL (.cells #[.slice r128.base r128.len r128.cap, .slice r130.base r130.len r130.cap, .slice r132.base r132.len r132.cap, .slice none 0 0, .int .u64 0, .slice none 0 0, .int .u64 0, .slice none 0 0, .int .u64 0, .map (some b100), .map (some b126)] E.t_vmem_Mem) w133 fun b134 w135 =>
 K (some (Addr.mk b134 0 none)) w135
 ) w131
 ) w129
 ) w127
 )

 ) ∧ (
 AL (.map #[] 0) w2.drew fun b136 w137 =>
 w137.cell? ((Addr.mk b1 0 none).add 2) = some (.slice x5.base x5.len x5.cap) ∧
 w137.cell? ((Addr.mk b1 0 none).add 1) = some (.slice x4.base x4.len x4.cap) ∧
 w137.cell? (Addr.mk b1 0 none) = some (.slice x3.base x3.len x3.cap) ∧
 (
 F.slices_Clone___uint64_uint64_ E x3 (fun r138 w139 =>
 w139.cell? ((Addr.mk b1 0 none).add 2) = some (.slice x5.base x5.len x5.cap) ∧
 w139.cell? ((Addr.mk b1 0 none).add 1) = some (.slice x4.base x4.len x4.cap) ∧
 (
 F.slices_Clone___bool_bool_ E x4 (fun r140 w141 =>
 w141.cell? ((Addr.mk b1 0 none).add 2) = some (.slice x5.base x5.len x5.cap) ∧
 (
 F.slices_Clone___uint64_uint64_ E x5 (fun r142 w143 =>
 AL (.map #[] 0) w143 fun b144 w145 =>
 AL (.cells #[.slice r138.base r138.len r138.cap, .slice r140.base r140.len r140.cap, .slice r142.base r142.len r142.cap, .slice none 0 0, .int .u64 0, .slice none 0 0, .int .u64 0, .slice none 0 0, .int .u64 0, .map (some b144), .map (some b136)] E.t_vmem_Mem) w145 fun b146 w147 =>
 K (some (Addr.mk b146 0 none)) w147
 ) w141

 ) ∧ (
 AL (.map #[] 0) w141 fun b148 w149 =>
 w149.cell? ((Addr.mk b1 0 none).add 2) = some (.slice x5.base x5.len x5.cap) ∧
 F.slices_Clone___uint64_uint64_ E x5 (fun r150 w151 =>
 AL (.cells #[.slice r138.base r138.len r138.cap, .slice r140.base r140.len r140.cap, .slice r150.base r150.len r150.cap, .slice none 0 0, .int .u64 0, .slice none 0 0, .int .u64 0, .slice none 0 0, .int .u64 0, .map (some b148), .map (some b136)] E.t_vmem_Mem) w151 fun b152 w153 =>
 K (some (Addr.mk b152 0 none)) w153
 ) w149
 )
 ) w139

 ) ∧ (
 AL (.map #[] 0) w139 fun b154 w155 =>
 w155.cell? ((Addr.mk b1 0 none).add 2) = some (.slice x5.base x5.len x5.cap) ∧
 w155.cell? ((Addr.mk b1 0 none).add 1) = some (.slice x4.base x4.len x4.cap) ∧
 F.slices_Clone___bool_bool_ E x4 (fun r156 w157 =>
 w157.cell? ((Addr.mk b1 0 none).add 2) = some (.slice x5.base x5.len x5.cap) ∧
 F.slices_Clone___uint64_uint64_ E x5 (fun r158 w159 =>
 AL (.cells #[.slice r138.base r138.len r138.cap, .slice r156.base r156.len r156.cap, .slice r158.base r158.len r158.cap, .slice none 0 0, .int .u64 0, .slice none 0 0, .int .u64 0, .slice none 0 0, .int .u64 0, .map (some b154), .map (some b136)] E.t_vmem_Mem) w159 fun b160 w161 =>
 K (some (Addr.mk b160 0 none)) w161
 ) w157
 ) w155
 )
 ) w137

 ) ∧ (
 AL (.map #[] 0) w137 fun b162 w163 =>
 w163.cell? ((Addr.mk b1 0 none).add 2) = some (.slice x5.base x5.len x5.cap) ∧
 w163.cell? ((Addr.mk b1 0 none).add 1) = some (.slice x4.base x4.len x4.cap) ∧
 w163.cell? (Addr.mk b1 0 none) = some (.slice x3.base x3.len x3.cap) ∧
 F.slices_Clone___uint64_uint64_ E x3 (fun r164 w165 =>
 w165.cell? ((Addr.mk b1 0 none).add 2) = some (.slice x5.base x5.len x5.cap) ∧
 w165.cell? ((Addr.mk b1 0 none).add 1) = some (.slice x4.base x4.len x4.cap) ∧
 F.slices_Clone___bool_bool_ E x4 (fun r166 w167 =>
 w167.cell? ((Addr.mk b1 0 none).add 2) = some (.slice x5.base x5.len x5.cap) ∧
 F.slices_Clone___uint64_uint64_ E x5 (fun r168 w169 =>
 AL (.cells #[.slice r164.base r164.len r164.cap, .slice r166.base r166.len r166.cap, .slice r168.base r168.len r168.cap, .slice none 0 0, .int .u64 0, .slice none 0 0, .int .u64 0, .slice none 0 0, .int .u64 0, .map (some b162), .map (some b136)] E.t_vmem_Mem) w169 fun b170 w171 =>
 K (some (Addr.mk b170 0 none)) w171
 ) w167
 ) w165
 ) w163
 )
 )

def F.radix_Tree_changed (E : Env) (a0 : (Option Addr)) (K : World → Prop) (w : World) : Prop :=
 NC a0 fun p1 =>
 stCells (p1.add 8) 0 [.slice none 0 0] w fun w2 =>
 LOOP (Int × Unit) (0, ()) w2 fun s3 _ w4 next5 =>
 CND (decide ((s3.1 : Int) < 4)) (
 NC a0 fun p6 =>
 ∃ x7 : SlV, w4.cell? (p6.add 8) = some (.slice x7.base x7.len x7.cap) ∧
 AL (.map #[] 0) w4 fun b8 w9 =>
 AL (.cells ⟨[.map (some b8)]⟩ E.t_map_uint64_api_Sum) w9 fun b10 w11 =>
 APP E.t_map_uint64_api_Sum 1 8 #[.map none] x7 ⟨(some (Addr.mk b10 0 none)), 1, 1⟩ w11 fun s12 w13 =>
 NC a0 fun p14 =>
 stCells (p14.add 8) 0 [.slice s12.base s12.len s12.cap] w13 fun w15 =>
 next5 (i64 (s3.1 + 1), ()) w15
 ) (
 K  w4
 )

def F.radix_New (E : Env)  (K : (Option Addr) → World → Prop) (w : World) : Prop :=
 AL (.cells #[.slice none 0 0, .int .u64 0, .slice none 0 0, .int .u64 0, .slice none 0 0, .int .u64 0, .slice none 0 0, .int .u64 0, .slice none 0 0] E.t_radix_Tree) w fun b1 w2 =>
 F.radix_Tree_changed E (some (Addr.mk b1 0 none)) (fun  w3 =>
 K (some (Addr.mk b1 0 none)) w3
 ) w2

def F.arena_New (E : Env)  (K : (Option Addr) → World → Prop) (w : World) : Prop :=
 AL (.map #[] 0) w fun b1 w2 =>
 AL (.cells #[.slice none 0 0, .int .u64 0, .slice none 0 0, .map (some b1)] E.t_arena_Map) w2 fun b3 w4 =>
 K (some (Addr.mk b3 0 none)) w4

def F.fix_New (E : Env) (a0 : Int) (K : (Option Addr) → Int → World → Prop) (w : World) : Prop :=
 JOIN (Bool × Unit) (fun J1 =>
 CND (decide ((a0 : Int) < 1)) (
 J1 (true, ()) w
 ) (
 J1 (decide ((a0 : Int) > 16384), ()) w
 )
 ) fun s2 _ w3 =>
 CND (s2.1) (
 K none 1 w3
 ) (
 AL (.cells #[.int .i64 a0, .slice none 0 0, .pointer none, .int .i64 0] E.t_fix_Fix) w3 fun b4 w5 =>
 K (some (Addr.mk b4 0 none)) 0 w5
 )

def F.pcache_New (E : Env)  (K : (Option Addr) → World → Prop) (w : World) : Prop :=
 AL (.cells #[.int .u64 0, .int .u64 0, .int .u64 0] E.t_pcache_Cache) w fun b1 w2 =>
 K (some (Addr.mk b1 0 none)) w2

def F.mheap_New (E : Env) (a0 : (Option Addr)) (K : (Option Addr) → World → Prop) (w : World) : Prop :=
 F.radix_New E  (fun r1 w2 =>
 F.arena_New E  (fun r3 w4 =>
 AL (.map #[] 0) w4 fun b5 w6 =>
 AL (.cells #[.pointer a0, .pointer r1, .pointer r3, .pointer none, .map (some b5), .pointer none, .pointer none, .pointer none, .pointer none, .pointer none, .pointer none, .pointer none, .pointer none, .pointer none, .pointer none, .pointer none, .pointer none, .pointer none, .pointer none, .pointer none, .pointer none, .pointer none, .pointer none, .pointer none, .pointer none, .pointer none, .pointer none, .pointer none, .pointer none, .pointer none, .pointer none, .pointer none, .pointer none, .pointer none, .pointer none, .pointer none, .pointer none, .pointer none, .pointer none, .pointer none, .pointer none, .pointer none, .pointer none, .pointer none, .pointer none, .pointer none, .pointer none, .pointer none, .pointer none, .pointer none, .pointer none, .pointer none, .pointer none, .pointer none, .pointer none, .pointer none, .pointer none, .pointer none, .pointer none, .pointer none, .pointer none, .pointer none, .pointer none, .pointer none, .pointer none, .pointer none, .pointer none, .pointer none, .pointer none, .int .u64 0, .int .u64 0] E.t_mheap_Heap) w6 fun b7 w8 =>
 F.fix_New E 1 (fun r9 r10 w11 =>
 stCells ((Addr.mk b7 0 none).add 3) 0 [.pointer r9] w11 fun w12 =>
 LOOP (Int × Unit) (0, ()) w12 fun s13 _ w14 next15 =>
 CND (decide ((s13.1 : Int) < 64)) (
 F.pcache_New E  (fun r16 w17 =>
 ((0 : Int) ≤ s13.1 ∧ (s13.1 : Int) < (64 : Nat)) ∧
 stCells (((Addr.mk b7 0 none).add 5).add (Int.toNat s13.1 * 1)) 0 [.pointer r16] w17 fun w18 =>
 next15 (i64 (s13.1 + 1), ()) w18
 ) w14.drew
 ) (
 K (some (Addr.mk b7 0 none)) w14
 )
 ) w8
 ) w2
 ) w

def F.mallowlaw22_fresh (E : Env) (a0_0 : SlV) (a0_1 : SlV) (a0_2 : SlV) (K : (Option Addr) → World → Prop) (w : World) : Prop :=
 AL (.cells #[.slice a0_0.base a0_0.len a0_0.cap, .slice a0_1.base a0_1.len a0_1.cap, .slice a0_2.base a0_2.len a0_2.cap] E.t_api_Answers) w fun b1 w2 =>
 JOIN ((Option Addr) × Unit) (fun J3 =>
 ∃ x6 : SlV, w2.drew.cell? (Addr.mk b1 0 none) = some (.slice x6.base x6.len x6.cap) ∧
 ∃ x7 : SlV, w2.drew.cell? ((Addr.mk b1 0 none).add 1) = some (.slice x7.base x7.len x7.cap) ∧
 ∃ x8 : SlV, w2.drew.cell? ((Addr.mk b1 0 none).add 2) = some (.slice x8.base x8.len x8.cap) ∧
 (
 AL (.cells ⟨[]⟩ E.t_uint64) w2.drew fun b9 w10 =>
 w10.cell? ((Addr.mk b1 0 none).add 2) = some (.slice x8.base x8.len x8.cap) ∧
 w10.cell? ((Addr.mk b1 0 none).add 1) = some (.slice x7.base x7.len x7.cap) ∧
 w10.cell? (Addr.mk b1 0 none) = some (.slice x6.base x6.len x6.cap) ∧
 (
 APP E.t_uint64 1 8 #[.int .u64 0] ⟨(some (Addr.mk b9 0 none)), 0, 0⟩ x6 w10 fun s11 w12 =>
 w12.cell? ((Addr.mk b1 0 none).add 2) = some (.slice x8.base x8.len x8.cap) ∧
 w12.cell? ((Addr.mk b1 0 none).add 1) = some (.slice x7.base x7.len x7.cap) ∧
 (
 AL (.cells ⟨[]⟩ E.t_bool) w12 fun b13 w14 =>
 w14.cell? ((Addr.mk b1 0 none).add 2) = some (.slice x8.base x8.len x8.cap) ∧
 w14.cell? ((Addr.mk b1 0 none).add 1) = some (.slice x7.base x7.len x7.cap) ∧
 (
 APP E.t_bool 1 1 #[.bool false] ⟨(some (Addr.mk b13 0 none)), 0, 0⟩ x7 w14 fun s15 w16 =>
 w16.cell? ((Addr.mk b1 0 none).add 2) = some (.slice x8.base x8.len x8.cap) ∧
 AL (.cells ⟨[]⟩ E.t_uint64) w16 fun b17 w18 =>
 w18.cell? ((Addr.mk b1 0 none).add 2) = some (.slice x8.base x8.len x8.cap) ∧
 APP E.t_uint64 1 8 #[.int .u64 0] ⟨(some (Addr.mk b17 0 none)), 0, 0⟩ x8 w18 fun s19 w20 =>
 F.vmem_New E s11 s15 s19 (fun r21 w22 =>
 J3 (r21, ()) w22
 ) w20

 ) ∧ (
 AL (.cells ⟨[]⟩ E.t_uint64) w14 fun b23 w24 =>
 w24.cell? ((Addr.mk b1 0 none).add 2) = some (.slice x8.base x8.len x8.cap) ∧
 w24.cell? ((Addr.mk b1 0 none).add 1) = some (.slice x7.base x7.len x7.cap) ∧
 APP E.t_bool 1 1 #[.bool false] ⟨(some (Addr.mk b13 0 none)), 0, 0⟩ x7 w24 fun s25 w26 =>
 w26.cell? ((Addr.mk b1 0 none).add 2) = some (.slice x8.base x8.len x8.cap) ∧
 APP E.t_uint64 1 8 #[.int .u64 0] ⟨(some (Addr.mk b23 0 none)), 0, 0⟩ x8 w26 fun s27 w28 =>
 F.vmem_New E s11 s25 s27 (fun r29 w30 =>
 J3 (r29, ()) w30
 ) w28
 )

 ) ∧ (
 AL (.cells ⟨[]⟩ E.t_uint64) w12 fun b31 w32 =>
 w32.cell? ((Addr.mk b1 0 none).add 2) = some (.slice x8.base x8.len x8.cap) ∧
 w32.cell? ((Addr.mk b1 0 none).add 1) = some (.slice x7.base x7.len x7.cap) ∧
 AL (.cells ⟨[]⟩ E.t_bool) w32 fun b33 w34 =>
 w34.cell? ((Addr.mk b1 0 none).add 2) = some (.slice x8.base x8.len x8.cap) ∧
 w34.cell? ((Addr.mk b1 0 none).add 1) = some (.slice x7.base x7.len x7.cap) ∧
 APP E.t_bool 1 1 #[.bool false] ⟨(some (Addr.mk b33 0 none)), 0, 0⟩ x7 w34 fun s35 w36 =>
 w36.cell? ((Addr.mk b1 0 none).add 2) = some (.slice x8.base x8.len x8.cap) ∧
 APP E.t_uint64 1 8 #[.int .u64 0] ⟨(some (Addr.mk b31 0 none)), 0, 0⟩ x8 w36 fun s37 w38 =>
 F.vmem_New E s11 s35 s37 (fun r39 w40 =>
 J3 (r39, ()) w40
 ) w38
 )

 ) ∧ (
 AL (.cells ⟨[]⟩ E.t_bool) w10 fun b41 w42 =>
 w42.cell? ((Addr.mk b1 0 none).add 2) = some (.slice x8.base x8.len x8.cap) ∧
 w42.cell? ((Addr.mk b1 0 none).add 1) = some (.slice x7.base x7.len x7.cap) ∧
 w42.cell? (Addr.mk b1 0 none) = some (.slice x6.base x6.len x6.cap) ∧
 (
 APP E.t_uint64 1 8 #[.int .u64 0] ⟨(some (Addr.mk b9 0 none)), 0, 0⟩ x6 w42 fun s43 w44 =>
 w44.cell? ((Addr.mk b1 0 none).add 2) = some (.slice x8.base x8.len x8.cap) ∧
 w44.cell? ((Addr.mk b1 0 none).add 1) = some (.slice x7.base x7.len x7.cap) ∧
 (
 APP E.t_bool 1 1 #[.bool false] ⟨(some (Addr.mk b41 0 none)), 0, 0⟩ x7 w44 fun s45 w46 =>
 w46.cell? ((Addr.mk b1 0 none).add 2) = some (.slice x8.base x8.len x8.cap) ∧
 AL (.cells ⟨[]⟩ E.t_uint64) w46 fun b47 w48 =>
 w48.cell? ((Addr.mk b1 0 none).add 2) = some (.slice x8.base x8.len x8.cap) ∧
 APP E.t_uint64 1 8 #[.int .u64 0] ⟨(some (Addr.mk b47 0 none)), 0, 0⟩ x8 w48 fun s49 w50 =>
 F.vmem_New E s43 s45 s49 (fun r51 w52 =>
 J3 (r51, ()) w52
 ) w50

 ) ∧ (
 AL (.cells ⟨[]⟩ E.t_uint64) w44 fun b53 w54 =>
 w54.cell? ((Addr.mk b1 0 none).add 2) = some (.slice x8.base x8.len x8.cap) ∧
 w54.cell? ((Addr.mk b1 0 none).add 1) = some (.slice x7.base x7.len x7.cap) ∧
 APP E.t_bool 1 1 #[.bool false] ⟨(some (Addr.mk b41 0 none)), 0, 0⟩ x7 w54 fun s55 w56 =>
 w56.cell? ((Addr.mk b1 0 none).add 2) = some (.slice x8.base x8.len x8.cap) ∧
 APP E.t_uint64 1 8 #[.int .u64 0] ⟨(some (Addr.mk b53 0 none)), 0, 0⟩ x8 w56 fun s57 w58 =>
 F.vmem_New E s43 s55 s57 (fun r59 w60 =>
 J3 (r59, ()) w60
 ) w58
 )

 ) ∧ (
 AL (.cells ⟨[]⟩ E.t_uint64) w42 fun b61 w62 =>
 w62.cell? ((Addr.mk b1 0 none).add 2) = some (.slice x8.base x8.len x8.cap) ∧
 w62.cell? ((Addr.mk b1 0 none).add 1) = some (.slice x7.base x7.len x7.cap) ∧
 w62.cell? (Addr.mk b1 0 none) = some (.slice x6.base x6.len x6.cap) ∧
 APP E.t_uint64 1 8 #[.int .u64 0] ⟨(some (Addr.mk b9 0 none)), 0, 0⟩ x6 w62 fun s63 w64 =>
 w64.cell? ((Addr.mk b1 0 none).add 2) = some (.slice x8.base x8.len x8.cap) ∧
 w64.cell? ((Addr.mk b1 0 none).add 1) = some (.slice x7.base x7.len x7.cap) ∧
 APP E.t_bool 1 1 #[.bool false] ⟨(some (Addr.mk b41 0 none)), 0, 0⟩ x7 w64 fun s65 w66 =>
 w66.cell? ((Addr.mk b1 0 none).add 2) = some (.slice x8.base x8.len x8.cap) ∧
 APP E.t_uint64 1 8 #[.int .u64 0] ⟨(some (Addr.mk b61 0 none)), 0, 0⟩ x8 w66 fun s67 w68 =>
 F.vmem_New E s63 s65 s67 (fun r69 w70 =>
 J3 (r69, ()) w70
 ) w68
 )

 ) ∧ (
 AL (.cells ⟨[]⟩ E.t_uint64) w10 fun b71 w72 =>
 w72.cell? ((Addr.mk b1 0 none).add 2) = some (.slice x8.base x8.len x8.cap) ∧
 w72.cell? ((Addr.mk b1 0 none).add 1) = some (.slice x7.base x7.len x7.cap) ∧
 w72.cell? (Addr.mk b1 0 none) = some (.slice x6.base x6.len x6.cap) ∧
 (
 APP E.t_uint64 1 8 #[.int .u64 0] ⟨(some (Addr.mk b9 0 none)), 0, 0⟩ x6 w72 fun s73 w74 =>
 w74.cell? ((Addr.mk b1 0 none).add 2) = some (.slice x8.base x8.len x8.cap) ∧
 w74.cell? ((Addr.mk b1 0 none).add 1) = some (.slice x7.base x7.len x7.cap) ∧
 AL (.cells ⟨[]⟩ E.t_bool) w74 fun b75 w76 =>
 w76.cell? ((Addr.mk b1 0 none).add 2) = some (.slice x8.base x8.len x8.cap) ∧
 w76.cell? ((Addr.mk b1 0 none).add 1) = some (.slice x7.base x7.len x7.cap) ∧
 APP E.t_bool 1 1 #[.bool false] ⟨(some (Addr.mk b75 0 none)), 0, 0⟩ x7 w76 fun s77 w78 =>
 w78.cell? ((Addr.mk b1 0 none).add 2) = some (.slice x8.base x8.len x8.cap) ∧
 APP E.t_uint64 1 8 #[.int .u64 0] ⟨(some (Addr.mk b71 0 none)), 0, 0⟩ x8 w78 fun s79 w80 =>
 F.vmem_New E s73 s77 s79 (fun r81 w82 =>
 J3 (r81, ()) w82
 ) w80

 ) ∧ (
 AL (.cells ⟨[]⟩ E.t_bool) w72 fun b83 w84 =>
 w84.cell? ((Addr.mk b1 0 none).add 2) = some (.slice x8.base x8.len x8.cap) ∧
 w84.cell? ((Addr.mk b1 0 none).add 1) = some (.slice x7.base x7.len x7.cap) ∧
 w84.cell? (Addr.mk b1 0 none) = some (.slice x6.base x6.len x6.cap) ∧
 APP E.t_uint64 1 8 #[.int .u64 0] ⟨(some (Addr.mk b9 0 none)), 0, 0⟩ x6 w84 fun s85 w86 =>
 w86.cell? ((Addr.mk b1 0 none).add 2) = some (.slice x8.base x8.len x8.cap) ∧
 w86.cell? ((Addr.mk b1 0 none).add 1) = some (.slice x7.base x7.len x7.cap) ∧
 APP E.t_bool 1 1 #[.bool false] ⟨(some (Addr.mk b83 0 none)), 0, 0⟩ x7 w86 fun s87 w88 =>
 w88.cell? ((Addr.mk b1 0 none).add 2) = some (.slice x8.base x8.len x8.cap) ∧
 APP E.t_uint64 1 8 #[.int .u64 0] ⟨(some (Addr.mk b71 0 none)), 0, 0⟩ x8 w88 fun s89 w90 =>
 F.vmem_New E s85 s87 s89 (fun r91 w92 =>
 J3 (r91, ()) w92
 ) w90
 )
 )

 ) ∧ (
 AL (.cells ⟨[]⟩ E.t_bool) w2.drew fun b93 w94 =>
 w94.cell? ((Addr.mk b1 0 none).add 2) = some (.slice x8.base x8.len x8.cap) ∧
 w94.cell? ((Addr.mk b1 0 none).add 1) = some (.slice x7.base x7.len x7.cap) ∧
 w94.cell? (Addr.mk b1 0 none) = some (.slice x6.base x6.len x6.cap) ∧
 (
 AL (.cells ⟨[]⟩ E.t_uint64) w94 fun b95 w96 =>
 w96.cell? ((Addr.mk b1 0 none).add 2) = some (.slice x8.base x8.len x8.cap) ∧
 w96.cell? ((Addr.mk b1 0 none).add 1) = some (.slice x7.base x7.len x7.cap) ∧
 w96.cell? (Addr.mk b1 0 none) = some (.slice x6.base x6.len x6.cap) ∧
 (
 APP E.t_uint64 1 8 #[.int .u64 0] ⟨(some (Addr.mk b95 0 none)), 0, 0⟩ x6 w96 fun s97 w98 =>
 w98.cell? ((Addr.mk b1 0 none).add 2) = some (.slice x8.base x8.len x8.cap) ∧
 w98.cell? ((Addr.mk b1 0 none).add 1) = some (.slice x7.base x7.len x7.cap) ∧
 (
 APP E.t_bool 1 1 #[.bool false] ⟨(some (Addr.mk b93 0 none)), 0, 0⟩ x7 w98 fun s99 w100 =>
 w100.cell? ((Addr.mk b1 0 none).add 2) = some (.slice x8.base x8.len x8.cap) ∧
 AL (.cells ⟨[]⟩ E.t_uint64) w100 fun b101 w102 =>
 w102.cell? ((Addr.mk b1 0 none).add 2) = some (.slice x8.base x8.len x8.cap) ∧
 APP E.t_uint64 1 8 #[.int .u64 0] ⟨(some (Addr.mk b101 0 none)), 0, 0⟩ x8 w102 fun s103 w104 =>
 F.vmem_New E s97 s99 s103 (fun r105 w106 =>
 J3 (r105, ()) w106
 ) w104

 ) ∧ (
 AL (.cells ⟨[]⟩ E.t_uint64) w98 fun b107 w108 =>
 w108.cell? ((Addr.mk b1 0 none).add 2) = some (.slice x8.base x8.len x8.cap) ∧
 w108.cell? ((Addr.mk b1 0 none).add 1) = some (.slice x7.base x7.len x7.cap) ∧
 APP E.t_bool 1 1 #[.bool false] ⟨(some (Addr.mk b93 0 none)), 0, 0⟩ x7 w108 fun s109 w110 =>
 w110.cell? ((Addr.mk b1 0 none).add 2) = some (.slice x8.base x8.len x8.cap) ∧
 APP E.t_uint64 1 8 #[.int .u64 0] ⟨(some (Addr.mk b107 0 none)), 0, 0⟩ x8 w110 fun s111 w112 =>
 F.vmem_New E s97 s109 s111 (fun r113 w114 =>
 J3 (r113, ()) w114
 ) w112
 )

 ) ∧ (
 AL (.cells ⟨[]⟩ E.t_uint64) w96 fun b115 w116 =>
 w116.cell? ((Addr.mk b1 0 none).add 2) = some (.slice x8.base x8.len x8.cap) ∧
 w116.cell? ((Addr.mk b1 0 none).add 1) = some (.slice x7.base x7.len x7.cap) ∧
 w116.cell? (Addr.mk b1 0 none) = some (.slice x6.base x6.len x6.cap) ∧
 APP E.t_uint64 1 8 #[.int .u64 0] ⟨(some (Addr.mk b95 0 none)), 0, 0⟩ x6 w116 fun s117 w118 =>
 w118.cell? ((Addr.mk b1 0 none).add 2) = some (.slice x8.base x8.len x8.cap) ∧
 w118.cell? ((Addr.mk b1 0 none).add 1) = some (.slice x7.base x7.len x7.cap) ∧
 APP E.t_bool 1 1 #[.bool false] ⟨(some (Addr.mk b93 0 none)), 0, 0⟩ x7 w118 fun s119 w120 =>
 w120.cell? ((Addr.mk b1 0 none).add 2) = some (.slice x8.base x8.len x8.cap) ∧
 APP E.t_uint64 1 8 #[.int .u64 0] ⟨(some (Addr.mk b115 0 none)), 0, 0⟩ x8 w120 fun s121 w122 =>
 F.vmem_New E s117 s119 s121 (fun r123 w124 =>
 J3 (r123, ()) w124
 ) w122
 )

 ) ∧ (
 AL (.cells ⟨[]⟩ E.t_uint64) w94 fun b125 w126 =>
 w126.cell? ((Addr.mk b1 0 none).add 2) = some (.slice x8.base x8.len x8.cap) ∧
 w126.cell? ((Addr.mk b1 0 none).add 1) = some (.slice x7.base x7.len x7.cap) ∧
 w126.cell? (Addr.mk b1 0 none) = some (.slice x6.base x6.len x6.cap) ∧
 AL (.cells ⟨[]⟩ E.t_uint64) w126 fun b127 w128 =>
 w128.cell? ((Addr.mk b1 0 none).add 2) = some (.slice x8.base x8.len x8.cap) ∧
 w128.cell? ((Addr.mk b1 0 none).add 1) = some (.slice x7.base x7.len x7.cap) ∧
 w128.cell? (Addr.mk b1 0 none) = some (.slice x6.base x6.len x6.cap) ∧
 APP E.t_uint64 1 8 #[.int .u64 0] ⟨(some (Addr.mk b127 0 none)), 0, 0⟩ x6 w128 fun s129 w130 =>
 w130.cell? ((Addr.mk b1 0 none).add 2) = some (.slice x8.base x8.len x8.cap) ∧
 w130.cell? ((Addr.mk b1 0 none).add 1) = some (.slice x7.base x7.len x7.cap) ∧
 APP E.t_bool 1 1 #[.bool false] ⟨(some (Addr.mk b93 0 none)), 0, 0⟩ x7 w130 fun s131 w132 =>
 w132.cell? ((Addr.mk b1 0 none).add 2) = some (.slice x8.base x8.len x8.cap) ∧
 APP E.t_uint64 1 8 #[.int .u64 0] ⟨(some (Addr.mk b125 0 none)), 0, 0⟩ x8 w132 fun s133 w134 =>
 F.vmem_New E s129 s131 s133 (fun r135 w136 =>
 J3 (r135, ()) w136
 ) w134
 )

 ) ∧ (
 AL (.cells ⟨[]⟩ E.t_uint64) w2.drew fun b137 w138 =>
 w138.cell? ((Addr.mk b1 0 none).add 2) = some (.slice x8.base x8.len x8.cap) ∧
 w138.cell? ((Addr.mk b1 0 none).add 1) = some (.slice x7.base x7.len x7.cap) ∧
 w138.cell? (Addr.mk b1 0 none) = some (.slice x6.base x6.len x6.cap) ∧
 (
 AL (.cells ⟨[]⟩ E.t_uint64) w138 fun b139 w140 =>
 w140.cell? ((Addr.mk b1 0 none).add 2) = some (.slice x8.base x8.len x8.cap) ∧
 w140.cell? ((Addr.mk b1 0 none).add 1) = some (.slice x7.base x7.len x7.cap) ∧
 w140.cell? (Addr.mk b1 0 none) = some (.slice x6.base x6.len x6.cap) ∧
 (
 APP E.t_uint64 1 8 #[.int .u64 0] ⟨(some (Addr.mk b139 0 none)), 0, 0⟩ x6 w140 fun s141 w142 =>
 w142.cell? ((Addr.mk b1 0 none).add 2) = some (.slice x8.base x8.len x8.cap) ∧
 w142.cell? ((Addr.mk b1 0 none).add 1) = some (.slice x7.base x7.len x7.cap) ∧
 AL (.cells ⟨[]⟩ E.t_bool) w142 fun b143 w144 =>
 w144.cell? ((Addr.mk b1 0 none).add 2) = some (.slice x8.base x8.len x8.cap) ∧
 w144.cell? ((Addr.mk b1 0 none).add 1) = some (.slice x7.base x7.len x7.cap) ∧
 APP E.t_bool 1 1 #[.bool false] ⟨(some (Addr.mk b143 0 none)), 0, 0⟩ x7 w144 fun s145 w146 =>
 w146.cell? ((Addr.mk b1 0 none).add 2) = some (.slice x8.base x8.len x8.cap) ∧
 APP E.t_uint64 1 8 #[.int .u64 0] ⟨(some (Addr.mk b137 0 none)), 0, 0⟩ x8 w146 fun s147 w148 =>
 F.vmem_New E s141 s145 s147 (fun r149 w150 =>
 J3 (r149, ()) w150
 ) w148

 ) ∧ (
 AL (.cells ⟨[]⟩ E.t_bool) w140 fun b151 w152 =>
 w152.cell? ((Addr.mk b1 0 none).add 2) = some (.slice x8.base x8.len x8.cap) ∧
 w152.cell? ((Addr.mk b1 0 none).add 1) = some (.slice x7.base x7.len x7.cap) ∧
 w152.cell? (Addr.mk b1 0 none) = some (.slice x6.base x6.len x6.cap) ∧
 APP E.t_uint64 1 8 #[.int .u64 0] ⟨(some (Addr.mk b139 0 none)), 0, 0⟩ x6 w152 fun s153 w154 =>
 w154.cell? ((Addr.mk b1 0 none).add 2) = some (.slice x8.base x8.len x8.cap) ∧
 w154.cell? ((Addr.mk b1 0 none).add 1) = some (.slice x7.base x7.len x7.cap) ∧
 APP E.t_bool 1 1 #[.bool false] ⟨(some (Addr.mk b151 0 none)), 0, 0⟩ x7 w154 fun s155 w156 =>
 w156.cell? ((Addr.mk b1 0 none).add 2) = some (.slice x8.base x8.len x8.cap) ∧
 APP E.t_uint64 1 8 #[.int .u64 0] ⟨(some (Addr.mk b137 0 none)), 0, 0⟩ x8 w156 fun s157 w158 =>
 F.vmem_New E s153 s155 s157 (fun r159 w160 =>
 J3 (r159, ()) w160
 ) w158
 )

 ) ∧ (
 AL (.cells ⟨[]⟩ E.t_bool) w138 fun b161 w162 =>
 w162.cell? ((Addr.mk b1 0 none).add 2) = some (.slice x8.base x8.len x8.cap) ∧
 w162.cell? ((Addr.mk b1 0 none).add 1) = some (.slice x7.base x7.len x7.cap) ∧
 w162.cell? (Addr.mk b1 0 none) = some (.slice x6.base x6.len x6.cap) ∧
 AL (.cells ⟨[]⟩ E.t_uint64) w162 fun b163 w164 =>
 w164.cell? ((Addr.mk b1 0 none).add 2) = some (.slice x8.base x8.len x8.cap) ∧
 w164.cell? ((Addr.mk b1 0 none).add 1) = some (.slice x7.base x7.len x7.cap) ∧
 w164.cell? (Addr.mk b1 0 none) = some (.slice x6.base x6.len x6.cap) ∧
 APP E.t_uint64 1 8 #[.int .u64 0] ⟨(some (Addr.mk b163 0 none)), 0, 0⟩ x6 w164 fun s165 w166 =>
 w166.cell? ((Addr.mk b1 0 none).add 2) = some (.slice x8.base x8.len x8.cap) ∧
 w166.cell? ((Addr.mk b1 0 none).add 1) = some (.slice x7.base x7.len x7.cap) ∧
 APP E.t_bool 1 1 #[.bool false] ⟨(some (Addr.mk b161 0 none)), 0, 0⟩ x7 w166 fun s167 w168 =>
 w168.cell? ((Addr.mk b1 0 none).add 2) = some (.slice x8.base x8.len x8.cap) ∧
 APP E.t_uint64 1 8 #[.int .u64 0] ⟨(some (Addr.mk b137 0 none)), 0, 0⟩ x8 w168 fun s169 w170 =>
 F.vmem_New E s165 s167 s169 (fun r171 w172 =>
 J3 (r171, ()) w172
 ) w170
 )
 )
 ) fun s4 _ w5 =>
 CND (s4.1.isNone) (
 K none w5
 ) (
 F.mheap_New E s4.1 (fun r173 w174 =>
 K r173 w174
 ) w5
 )

def F.num_Pow (E : Env) (a0 : Int) (K : Bool → World → Prop) (w : World) : Prop :=
 CND ((a0 : Int) != 0) (
 K (((bitK .u64 0 a0 (u64 (a0 - 1))) : Int) == 0) w
 ) (
 K false w
 )

def F.class_step (E : Env) (a0 : Int) (a1 : Int) (K : Int → World → Prop) (w : World) : Prop :=
 F.num_Pow E (u64 (a0)) (fun r1 w2 =>
 CND (!r1) (
 K a1 w2
 ) (
 CND (decide ((a0 : Int) ≥ 2048)) (
 K 256 w2
 ) (
 CND (decide ((a0 : Int) ≥ 128)) (
 8 ≠ (0 : Int) ∧
 K (i64 (Int.tdiv a0 8)) w2
 ) (
 CND (decide ((a0 : Int) ≥ 32)) (
 K 16 w2
 ) (
 K a1 w2
 )
 )
 )
 )
 ) w

def F.class_bytes (E : Env) (a0 : Int) (a1 : Int) (K : Int → World → Prop) (w : World) : Prop :=
 LOOP (Int × Unit) (a1, ()) w fun s1 _ w2 next3 =>
 a0 ≠ (0 : Int) ∧
 8 ≠ (0 : Int) ∧
 CND (decide (((Int.tmod s1.1 a0) : Int) > (i64 (Int.tdiv s1.1 8)))) (
 next3 (i64 (s1.1 + a1), ()) w2
 ) (
 K s1.1 w2
 )

def F.num_Magic (E : Env) (a0 : Int) (K : Int → World → Prop) (w : World) : Prop :=
 CND (decide ((a0 : Int) < 2)) (
 K 0 w
 ) (
 a0 ≠ (0 : Int) ∧
 LET (IntKind.wrap .u32 ((IntKind.wrap .u32 (Int.tdiv 4294967295 a0)) + 1) : Int) fun t1 =>
 K t1 w
 )

def F.class_Make (E : Env) (a0 : Int) (a1 : Int) (K : SlV → Int → World → Prop) (w : World) : Prop :=
 JOIN (Bool × Unit) (fun J1 =>
 CND (decide ((a0 : Int) < 1024)) (
 J1 (true, ()) w
 ) (
 CND (decide ((a0 : Int) > 65536)) (
 J1 (true, ()) w
 ) (
 F.num_Pow E (u64 (a0)) (fun r4 w5 =>
 CND (!r4) (
 J1 (true, ()) w5
 ) (
 CND (decide ((a1 : Int) < 64)) (
 J1 (true, ()) w5
 ) (
 CND (decide ((a1 : Int) > (i64 (4 * a0)))) (
 J1 (true, ()) w5
 ) (
 F.num_Pow E (u64 (a1)) (fun r6 w7 =>
 J1 (!r6, ()) w7
 ) w5
 )
 )
 )
 ) w
 )
 )
 ) fun s2 _ w3 =>
 CND (s2.1) (
 K ⟨none, 0, 0⟩ 1 w3
 ) (
 AL (.cells ⟨[.int .i64 0, .int .i64 0, .int .i64 0, .int .u32 0]⟩ E.t_api_Class) w3 fun b8 w9 =>
 LOOP (SlV × Int × Int × Unit) (⟨(some (Addr.mk b8 0 none)), 1, 1⟩, 8, 8, ()) w9 fun s10 _ w11 next12 =>
 CND (decide ((s10.2.2.1 : Int) ≤ a1)) (
 F.class_step E s10.2.2.1 s10.2.1 (fun r13 w14 =>
 F.class_bytes E s10.2.2.1 a0 (fun r15 w16 =>
 NC s10.1.base fun p17 =>
 ((0 : Int) ≤ (i64 (((s10.1.len : Nat) : Int) - 1)) ∧ ((i64 (((s10.1.len : Nat) : Int) - 1)) : Int) < (s10.1.len : Nat)) ∧
 JOIN (Bool × Unit) (fun J18 =>
 CND (decide ((((s10.1.len : Nat) : Int) : Int) > 1)) (
 ∃ x21 : Int, w16.drew.cell? ((p17.add (Int.toNat (i64 (((s10.1.len : Nat) : Int) - 1)) * 4)).add 1) = some (.int .i64 x21) ∧
 a0 ≠ (0 : Int) ∧
 CND ((x21 : Int) == (i64 (Int.tdiv r15 a0))) (
 ∃ x22 : Int, w16.drew.cell? ((p17.add (Int.toNat (i64 (((s10.1.len : Nat) : Int) - 1)) * 4)).add 1) = some (.int .i64 x22) ∧
 ∃ x23 : Int, w16.drew.cell? (p17.add (Int.toNat (i64 (((s10.1.len : Nat) : Int) - 1)) * 4)) = some (.int .i64 x23) ∧
 x23 ≠ (0 : Int) ∧
 s10.2.2.1 ≠ (0 : Int) ∧
 J18 (((i64 (Int.tdiv (i64 (x22 * a0)) x23)) : Int) == (i64 (Int.tdiv r15 s10.2.2.1)), ()) w16.drew
 ) (
 J18 (false, ()) w16.drew
 )
 ) (
 J18 (false, ()) w16.drew
 )
 ) fun s19 _ w20 =>
 CND (s19.1) (
 stCells (p17.add (Int.toNat (i64 (((s10.1.len : Nat) : Int) - 1)) * 4)) 0 [.int .i64 s10.2.2.1] w20 fun w24 =>
 next12 (s10.1, r13, i64 (s10.2.2.1 + r13), ()) w24
 ) (
 a0 ≠ (0 : Int) ∧
 AL (.cells ⟨[.int .i64 s10.2.2.1, .int .i64 (i64 (Int.tdiv r15 a0)), .int .i64 0, .int .u32 0]⟩ E.t_api_Class) w20 fun b25 w26 =>
 APP E.t_api_Class 4 32 #[.int .i64 0, .int .i64 0, .int .i64 0, .int .u32 0] s10.1 ⟨(some (Addr.mk b25 0 none)), 1, 1⟩ w26 fun s27 w28 =>
 next12 (s27, r13, i64 (s10.2.2.1 + r13), ()) w28
 )
 ) w14
 ) w11
 ) (
 ((0 : Int) ≤ 1 ∧ (1 : Int) ≤ (s10.1.len : Nat)) ∧
 LOOP (Int × Unit) (0, ()) w11 fun s29 _ w30 next31 =>
 CND (decide ((s29.1 : Int) < (((s10.1.len - (Int.toNat 1)) : Nat) : Int))) (
 NC s10.1.base fun p32 =>
 ((0 : Int) ≤ (i64 (s29.1 + 1)) ∧ ((i64 (s29.1 + 1)) : Int) < (s10.1.len : Nat)) ∧
 ∃ x33 : Int, w30.cell? ((p32.add (Int.toNat (i64 (s29.1 + 1)) * 4)).add 1) = some (.int .i64 x33) ∧
 JOIN (Unit) (fun J34 =>
 ∃ x37 : Int, w30.cell? (p32.add (Int.toNat (i64 (s29.1 + 1)) * 4)) = some (.int .i64 x37) ∧
 x37 ≠ (0 : Int) ∧
 (i64 (Int.tdiv (i64 (x33 * a0)) x37)) ≠ (0 : Int) ∧
 128 ≠ (0 : Int) ∧
 LET (i64 ((i64 (Int.tdiv (i64 (Int.tdiv (i64 (x33 * a0)) (i64 (Int.tdiv (i64 (x33 * a0)) x37)))) 128)) * 128) : Int) fun wide_38 =>
 ∃ x39 : Int, w30.cell? (p32.add (Int.toNat (i64 (s29.1 + 1)) * 4)) = some (.int .i64 x39) ∧
 CND (decide ((wide_38 : Int) > x39)) (
 stCells (p32.add (Int.toNat (i64 (s29.1 + 1)) * 4)) 0 [.int .i64 wide_38] w30 fun w40 =>
 J34 (()) w40
 ) (
 J34 (()) w30
 )
 ) fun s35 _ w36 =>
 ∃ x41 : Int, w36.cell? (p32.add (Int.toNat (i64 (s29.1 + 1)) * 4)) = some (.int .i64 x41) ∧
 x41 ≠ (0 : Int) ∧
 stCells ((p32.add (Int.toNat (i64 (s29.1 + 1)) * 4)).add 2) 0 [.int .i64 (i64 (Int.tdiv (i64 (x33 * a0)) x41))] w36 fun w42 =>
 ∃ x43 : Int, w42.cell? (p32.add (Int.toNat (i64 (s29.1 + 1)) * 4)) = some (.int .i64 x43) ∧
 F.num_Magic E (IntKind.wrap .u32 (x43)) (fun r44 w45 =>
 stCells ((p32.add (Int.toNat (i64 (s29.1 + 1)) * 4)).add 3) 0 [.int .u32 r44] w45 fun w46 =>
 next31 (i64 (s29.1 + 1), ()) w46
 ) w42
 ) (
 K s10.1 0 w30
 )
 )
 )

def F.class_Table (E : Env)  (K : SlV → World → Prop) (w : World) : Prop :=
 F.class_Make E 8192 32768 (fun r1 r2 w3 =>
 K r1 w3
 ) w

def F.span_New (E : Env) (a0 : Int) (a1 : Int) (a2 : Int) (a3 : Bool) (K : (Option Addr) → Int → World → Prop) (w : World) : Prop :=
 F.class_Table E  (fun r1 w2 =>
 JOIN (Bool × Unit) (fun J3 =>
 CND ((a1 : Int) == 0) (
 J3 (true, ()) w2
 ) (
 CND (decide ((a0 : Int) > 34359738368)) (
 J3 (true, ()) w2
 ) (
 CND (decide ((a1 : Int) > (u64 (34359738368 - a0)))) (
 J3 (true, ()) w2
 ) (
 CND (decide ((a2 : Int) < 0)) (
 J3 (true, ()) w2
 ) (
 CND (decide ((a2 : Int) ≥ ((r1.len : Nat) : Int))) (
 J3 (true, ()) w2
 ) (
 CND ((a2 : Int) == 0) (
 CND (decide ((a1 : Int) > 134217728)) (
 J3 (true, ()) w2
 ) (
 CND (decide ((a2 : Int) > 0)) (
 NC r1.base fun p6 =>
 ((0 : Int) ≤ a2 ∧ (a2 : Int) < (r1.len : Nat)) ∧
 ∃ x7 : Int, w2.cell? ((p6.add (Int.toNat a2 * 4)).add 1) = some (.int .i64 x7) ∧
 J3 ((a1 : Int) != (u64 (x7)), ()) w2
 ) (
 J3 (false, ()) w2
 )
 )
 ) (
 CND (decide ((a2 : Int) > 0)) (
 NC r1.base fun p8 =>
 ((0 : Int) ≤ a2 ∧ (a2 : Int) < (r1.len : Nat)) ∧
 ∃ x9 : Int, w2.cell? ((p8.add (Int.toNat a2 * 4)).add 1) = some (.int .i64 x9) ∧
 J3 ((a1 : Int) != (u64 (x9)), ()) w2
 ) (
 J3 (false, ()) w2
 )
 )
 )
 )
 )
 )
 )
 ) fun s4 _ w5 =>
 CND (s4.1) (
 K none 1 w5
 ) (
 NC r1.base fun p10 =>
 ((0 : Int) ≤ a2 ∧ (a2 : Int) < (r1.len : Nat)) ∧
 ∃ x11 : Int, w5.drew.cell? (p10.add (Int.toNat a2 * 4)) = some (.int .i64 x11) ∧
 NC r1.base fun p12 =>
 ((0 : Int) ≤ a2 ∧ (a2 : Int) < (r1.len : Nat)) ∧
 ∃ x13 : Int, w5.drew.cell? ((p12.add (Int.toNat a2 * 4)).add 2) = some (.int .i64 x13) ∧
 NC r1.base fun p14 =>
 ((0 : Int) ≤ a2 ∧ (a2 : Int) < (r1.len : Nat)) ∧
 ∃ x15 : Int, w5.drew.cell? ((p14.add (Int.toNat a2 * 4)).add 3) = some (.int .u32 x15) ∧
 AL (.cells #[.int .u64 (u64 (a0 * 8192)), .int .i64 (i64 (a1)), .int .i64 1, .int .i64 a2, .bool a3, .int .i64 x11, .int .i64 x13, .int .i64 0, .bool false, .bool false, .int .u32 x15, .slice none 0 0, .slice none 0 0, .int .i64 0] E.t_span_Span) w5.drew fun b16 w17 =>
 w17.cell? ((p14.add (Int.toNat a2 * 4)).add 3) = some (.int .u32 x15) ∧
 w17.cell? ((p12.add (Int.toNat a2 * 4)).add 2) = some (.int .i64 x13) ∧
 w17.cell? (p10.add (Int.toNat a2 * 4)) = some (.int .i64 x11) ∧
 CND ((a2 : Int) == 0) (
 stCells ((Addr.mk b16 0 none).add 5) 0 [.int .i64 (i64 ((i64 (a1)) * 8192))] w17 fun w18 =>
 stCells ((Addr.mk b16 0 none).add 6) 0 [.int .i64 1] w18 fun w19 =>
 K (some (Addr.mk b16 0 none)) 0 w19
 ) (
 K (some (Addr.mk b16 0 none)) 0 w17
 )
 )
 ) w

def F.mheap_is (E : Env) (a0 : Int) (K : Bool → World → Prop) (w : World) : Prop :=
 CND (decide ((a0 : Int) ≥ 0)) (
 K (decide ((a0 : Int) < 64)) w
 ) (
 K false w
 )

def F.pcache_Cache_Empty (E : Env) (a0 : (Option Addr)) (K : Bool → World → Prop) (w : World) : Prop :=
 NC a0 fun p1 =>
 ∃ x2 : Int, w.cell? (p1.add 1) = some (.int .u64 x2) ∧
 K ((x2 : Int) == 0) w

def F.stretch_Set_All (E : Env) (a0 : (Option Addr)) (K : SlV → World → Prop) (w : World) : Prop :=
 NC a0 fun p1 =>
 ∃ x2 : SlV, w.cell? p1 = some (.slice x2.base x2.len x2.cap) ∧
 K x2 w

def F.radix_Tree_Find (E : Env) (a0 : (Option Addr)) (a1 : Int) (K : Int → Bool → World → Prop) (w : World) : Prop :=
 CND ((a1 : Int) == 0) (
 K 0 false w
 ) (
 NC a0 fun p1 =>
 F.stretch_Set_All E (some (p1.add 2)) (fun r2 w3 =>
 LOOP (Int × Unit) (0, ()) w3 fun s4 _ w5 next6 =>
 CND (decide ((s4.1 : Int) < ((r2.len : Nat) : Int))) (
 NC r2.base fun p7 =>
 ((0 : Int) ≤ s4.1 ∧ (s4.1 : Int) < (r2.len : Nat)) ∧
 ∃ c8 : Int, w5.cell? ((p7.add (Int.toNat s4.1 * 2)).add 0) = some (.int .u64 c8) ∧
 ∃ c9 : Int, w5.cell? ((p7.add (Int.toNat s4.1 * 2)).add 1) = some (.int .u64 c9) ∧
 AL (.cells #[.int .u64 0, .int .u64 0] E.t_stretch_One) w5 fun b10 w11 =>
 stCells (Addr.mk b10 0 none) 0 [.int .u64 c8, .int .u64 c9] w11 fun w12 =>
 ∃ x13 : Int, w12.cell? ((Addr.mk b10 0 none).add 1) = some (.int .u64 x13) ∧
 ∃ x14 : Int, w12.cell? (Addr.mk b10 0 none) = some (.int .u64 x14) ∧
 CND (decide (((u64 (x13 - x14)) : Int) ≥ a1)) (
 ∃ x15 : Int, w12.cell? (Addr.mk b10 0 none) = some (.int .u64 x15) ∧
 K x15 true w12
 ) (
 next6 (i64 (s4.1 + 1), ()) w12
 )
 ) (
 K 0 false w5
 )
 ) w
 )

def F.sort_Search (E : Env) (a0 : Int) (a1 : Value) (K : Int → World → Prop) (w : World) : Prop :=
 LOOP (Int × Int × Unit) (0, a0, ()) w fun s1 _ w2 next3 =>
 CND (decide ((s1.1 : Int) < s1.2.1)) (
 (0 : Int) ≤ 1 ∧
 LET (i64 (Int.fdiv (u64 (i64 (s1.1 + s1.2.1))) (2 ^ (min (Int.toNat 1) (IntKind.bits .u64)))) : Int) fun h_4 =>
 DYN E.call a1 #[.int .i64 h_4] w2 fun r5 w6 =>
 ∃ x7 : Bool, r5 = .bool x7 ∧
 CND (!x7) (
 next3 (i64 (h_4 + 1), s1.2.1, ()) w6
 ) (
 next3 (s1.1, h_4, ()) w6
 )
 ) (
 K s1.1 w2
 )

def F.stretch_Set_at (E : Env) (a0 : (Option Addr)) (a1 : Int) (K : Int → World → Prop) (w : World) : Prop :=
 AL (.cells #[.pointer a0] E.t__stretch_Set) w fun b1 w2 =>
 AL (.cells #[.int .u64 a1] E.t_uint64) w2 fun b3 w4 =>
 ∃ x5 : (Option Addr), w4.cell? (Addr.mk b1 0 none) = some (.pointer x5) ∧
 NC x5 fun p6 =>
 ∃ x7 : SlV, w4.cell? p6 = some (.slice x7.base x7.len x7.cap) ∧
 F.sort_Search E ((x7.len : Nat) : Int) (.func (.func E.f_stretch_Set_at_1) #[] #[.pointer (some (Addr.mk b1 0 none)), .pointer (some (Addr.mk b3 0 none))]) (fun r8 w9 =>
 K r8 w9
 ) w4

def F.stretch_Set_Count (E : Env) (a0 : (Option Addr)) (a1 : Int) (a2 : Int) (K : Int → World → Prop) (w : World) : Prop :=
 F.stretch_Set_at E a0 a1 (fun r1 w2 =>
 LOOP (Int × Int × Unit) (0, r1, ()) w2 fun s3 _ w4 next5 =>
 NC a0 fun p6 =>
 ∃ x7 : SlV, w4.cell? p6 = some (.slice x7.base x7.len x7.cap) ∧
 CND (decide ((s3.2.1 : Int) < ((x7.len : Nat) : Int))) (
 NC a0 fun p8 =>
 ∃ x9 : SlV, w4.cell? p8 = some (.slice x9.base x9.len x9.cap) ∧
 NC x9.base fun p10 =>
 ((0 : Int) ≤ s3.2.1 ∧ (s3.2.1 : Int) < (x9.len : Nat)) ∧
 ∃ x11 : Int, w4.cell? (p10.add (Int.toNat s3.2.1 * 2)) = some (.int .u64 x11) ∧
 CND (decide ((x11 : Int) < a2)) (
 NC a0 fun p12 =>
 ∃ x13 : SlV, w4.drew.cell? p12 = some (.slice x13.base x13.len x13.cap) ∧
 NC x13.base fun p14 =>
 ((0 : Int) ≤ s3.2.1 ∧ (s3.2.1 : Int) < (x13.len : Nat)) ∧
 ∃ x15 : Int, w4.drew.cell? ((p14.add (Int.toNat s3.2.1 * 2)).add 1) = some (.int .u64 x15) ∧
 NC a0 fun p16 =>
 ∃ x17 : SlV, w4.drew.cell? p16 = some (.slice x17.base x17.len x17.cap) ∧
 NC x17.base fun p18 =>
 ((0 : Int) ≤ s3.2.1 ∧ (s3.2.1 : Int) < (x17.len : Nat)) ∧
 ∃ x19 : Int, w4.drew.cell? (p18.add (Int.toNat s3.2.1 * 2)) = some (.int .u64 x19) ∧
 LET (u64 (s3.1 + (u64 ((minI x15 a2) - (maxI x19 a1)))) : Int) fun n_20 =>
 next5 (n_20, i64 (s3.2.1 + 1), ()) w4.drew
 ) (
 K s3.1 w4
 )
 ) (
 K s3.1 w4
 )
 ) w

def F.radix_Tree_looked (E : Env) (a0 : (Option Addr)) (a1 : Int) (a2 : Int) (a3 : Bool) (a4 : Int) (K : Int → World → Prop) (w : World) : Prop :=
 JOIN (Int × Unit) (fun J1 =>
 CND (a3) (
 J1 (a2, ()) w
 ) (
 J1 (0, ()) w
 )
 ) fun s2 _ w3 =>
 JOIN (Bool × Unit) (fun J4 =>
 CND ((a2 : Int) == 0) (
 J4 (true, ()) w3
 ) (
 CND (decide ((a1 : Int) ≥ 34359738368)) (
 J4 (true, ()) w3
 ) (
 CND (decide ((a2 : Int) > (u64 (34359738368 - a1)))) (
 J4 (true, ()) w3
 ) (
 NC a0 fun p7 =>
 F.stretch_Set_Count E (some p7) a1 (u64 (a1 + a2)) (fun r8 w9 =>
 J4 ((r8 : Int) != a2, ()) w9
 ) w3
 )
 )
 )
 ) fun s5 _ w6 =>
 CND (s5.1) (
 K 10 w6
 ) (
 NC a0 fun p10 =>
 F.stretch_Set_Count E (some (p10.add 2)) a1 (u64 (a1 + a2)) (fun r11 w12 =>
 CND ((r11 : Int) != s2.1) (
 K a4 w12
 ) (
 K 0 w12
 )
 ) w6
 )

def F.stretch_Set_Cut (E : Env) (a0 : (Option Addr)) (a1 : Int) (a2 : Int) (K : World → Prop) (w : World) : Prop :=
 CND (decide ((a1 : Int) ≥ a2)) (
 K  w
 ) (
 NC a0 fun p1 =>
 ∃ x2 : Int, w.drew.cell? (p1.add 1) = some (.int .u64 x2) ∧
 F.stretch_Set_Count E a0 a1 a2 (fun r3 w4 =>
 w4.cell? (p1.add 1) = some (.int .u64 x2) ∧
 NC a0 fun p5 =>
 stCells (p5.add 1) 0 [.int .u64 (u64 (x2 - r3))] w4 fun w6 =>
 F.stretch_Set_at E a0 a1 (fun r7 w8 =>
 JOIN (Int × SlV × Unit) (fun J9 =>
 LOOP (Int × SlV × Unit) (r7, ⟨none, 0, 0⟩, ()) w8 fun s12 _ w13 next14 =>
 NC a0 fun p15 =>
 ∃ x16 : SlV, w13.cell? p15 = some (.slice x16.base x16.len x16.cap) ∧
 CND (decide ((s12.1 : Int) < ((x16.len : Nat) : Int))) (
 NC a0 fun p17 =>
 ∃ x18 : SlV, w13.cell? p17 = some (.slice x18.base x18.len x18.cap) ∧
 NC x18.base fun p19 =>
 ((0 : Int) ≤ s12.1 ∧ (s12.1 : Int) < (x18.len : Nat)) ∧
 ∃ x20 : Int, w13.cell? (p19.add (Int.toNat s12.1 * 2)) = some (.int .u64 x20) ∧
 CND (decide ((x20 : Int) < a2)) (
 NC a0 fun p21 =>
 ∃ x22 : SlV, w13.cell? p21 = some (.slice x22.base x22.len x22.cap) ∧
 NC x22.base fun p23 =>
 ((0 : Int) ≤ s12.1 ∧ (s12.1 : Int) < (x22.len : Nat)) ∧
 ∃ c24 : Int, w13.cell? ((p23.add (Int.toNat s12.1 * 2)).add 0) = some (.int .u64 c24) ∧
 ∃ c25 : Int, w13.cell? ((p23.add (Int.toNat s12.1 * 2)).add 1) = some (.int .u64 c25) ∧
 AL (.cells #[.int .u64 0, .int .u64 0] E.t_stretch_One) w13 fun b26 w27 =>
 stCells (Addr.mk b26 0 none) 0 [.int .u64 c24, .int .u64 c25] w27 fun w28 =>
 JOIN (SlV × Unit) (fun J29 =>
 ∃ x32 : Int, w28.cell? (Addr.mk b26 0 none) = some (.int .u64 x32) ∧
 CND (decide ((x32 : Int) < a1)) (
 ∃ x33 : Int, w28.cell? (Addr.mk b26 0 none) = some (.int .u64 x33) ∧
 AL (.cells ⟨[.int .u64 x33, .int .u64 a1]⟩ E.t_stretch_One) w28 fun b34 w35 =>
 APP E.t_stretch_One 2 16 #[.int .u64 0, .int .u64 0] s12.2.1 ⟨(some (Addr.mk b34 0 none)), 1, 1⟩ w35 fun s36 w37 =>
 J29 (s36, ()) w37
 ) (
 J29 (s12.2.1, ()) w28
 )
 ) fun s30 _ w31 =>
 ∃ x38 : Int, w31.cell? ((Addr.mk b26 0 none).add 1) = some (.int .u64 x38) ∧
 CND (decide ((x38 : Int) > a2)) (
 ∃ x39 : Int, w31.cell? ((Addr.mk b26 0 none).add 1) = some (.int .u64 x39) ∧
 AL (.cells ⟨[.int .u64 a2, .int .u64 x39]⟩ E.t_stretch_One) w31 fun b40 w41 =>
 APP E.t_stretch_One 2 16 #[.int .u64 0, .int .u64 0] s30.1 ⟨(some (Addr.mk b40 0 none)), 1, 1⟩ w41 fun s42 w43 =>
 next14 (i64 (s12.1 + 1), s42, ()) w43
 ) (
 next14 (i64 (s12.1 + 1), s30.1, ()) w31
 )
 ) (
 J9 (s12.1, s12.2.1, ()) w13
 )
 ) (
 J9 (s12.1, s12.2.1, ()) w13
 )
 ) fun s10 _ w11 =>
 NC a0 fun p44 =>
 ∃ x45 : SlV, w11.drew.cell? p44 = some (.slice x45.base x45.len x45.cap) ∧
 ((0 : Int) ≤ r7 ∧ (r7 : Int) ≤ (x45.cap : Nat)) ∧
 NC a0 fun p46 =>
 ∃ x47 : SlV, w11.drew.cell? p46 = some (.slice x47.base x47.len x47.cap) ∧
 ((0 : Int) ≤ s10.1 ∧ (s10.1 : Int) ≤ (x47.len : Nat)) ∧
 AL (.cells ⟨[]⟩ E.t_stretch_One) w11.drew fun b48 w49 =>
 w49.cell? p46 = some (.slice x47.base x47.len x47.cap) ∧
 w49.cell? p44 = some (.slice x45.base x45.len x45.cap) ∧
 APP E.t_stretch_One 2 16 #[.int .u64 0, .int .u64 0] ⟨(some (Addr.mk b48 0 none)), 0, 0⟩ ⟨(slB x45.base x45.cap 0 2), (Int.toNat r7), x45.cap⟩ w49 fun s50 w51 =>
 w51.cell? p46 = some (.slice x47.base x47.len x47.cap) ∧
 w51.cell? p44 = some (.slice x45.base x45.len x45.cap) ∧
 APP E.t_stretch_One 2 16 #[.int .u64 0, .int .u64 0] s50 s10.2.1 w51 fun s52 w53 =>
 w53.cell? p46 = some (.slice x47.base x47.len x47.cap) ∧
 w53.cell? p44 = some (.slice x45.base x45.len x45.cap) ∧
 APP E.t_stretch_One 2 16 #[.int .u64 0, .int .u64 0] s52 ⟨(slB x47.base x47.cap (Int.toNat s10.1) 2), (x47.len - (Int.toNat s10.1)), (x47.cap - (Int.toNat s10.1))⟩ w53 fun s54 w55 =>
 w55.cell? p46 = some (.slice x47.base x47.len x47.cap) ∧
 w55.cell? p44 = some (.slice x45.base x45.len x45.cap) ∧
 NC a0 fun p56 =>
 stCells p56 0 [.slice s54.base s54.len s54.cap] w55 fun w57 =>
 K  w57
 ) w6
 ) w.drew
 )

def F.radix_Tree_Take (E : Env) (a0 : (Option Addr)) (a1 : Int) (a2 : Int) (K : Int → Int → World → Prop) (w : World) : Prop :=
 F.radix_Tree_looked E a0 a1 a2 true 32 (fun r1 w2 =>
 CND ((r1 : Int) != 0) (
 K 0 r1 w2
 ) (
 NC a0 fun p3 =>
 F.stretch_Set_Count E (some (p3.add 4)) a1 (u64 (a1 + a2)) (fun r4 w5 =>
 NC a0 fun p6 =>
 F.stretch_Set_Cut E (some (p6.add 2)) a1 (u64 (a1 + a2)) (fun  w7 =>
 NC a0 fun p8 =>
 F.stretch_Set_Cut E (some (p8.add 4)) a1 (u64 (a1 + a2)) (fun  w9 =>
 NC a0 fun p10 =>
 F.stretch_Set_Cut E (some (p10.add 6)) a1 (u64 (a1 + a2)) (fun  w11 =>
 F.radix_Tree_changed E a0 (fun  w12 =>
 K r4 0 w12
 ) w11
 ) w9
 ) w7
 ) w5
 ) w2
 )
 ) w

def F.pcache_Cache_Fill (E : Env) (a0 : (Option Addr)) (a1 : (Option Addr)) (K : Int → World → Prop) (w : World) : Prop :=
 F.radix_Tree_Find E a1 1 (fun r1 r2 w3 =>
 F.pcache_Cache_Empty E a0 (fun r4 w5 =>
 CND (!r4) (
 K 33 w5
 ) (
 CND (!r2) (
 K 30 w5
 ) (
 64 ≠ (0 : Int) ∧
 NC a0 fun p6 =>
 stCells p6 0 [.int .u64 (u64 ((u64 (Int.tdiv r1 64)) * 64))] w5 fun w7 =>
 LOOP (Int × Unit) (0, ()) w7 fun s8 _ w9 next10 =>
 CND (decide ((s8.1 : Int) < 64)) (
 NC a0 fun p11 =>
 ∃ x12 : Int, w9.cell? p11 = some (.int .u64 x12) ∧
 F.radix_Tree_Take E a1 (u64 (x12 + s8.1)) 1 (fun r13 r14 w15 =>
 CND ((r14 : Int) == 0) (
 NC a0 fun p16 =>
 ∃ x17 : Int, w15.cell? (p16.add 1) = some (.int .u64 x17) ∧
 (0 : Int) ≤ s8.1 ∧
 NC a0 fun p18 =>
 stCells (p18.add 1) 0 [.int .u64 (bitK .u64 1 x17 (u64 (1 * 2 ^ (min (Int.toNat s8.1) (IntKind.bits .u64)))))] w15 fun w19 =>
 NC a0 fun p20 =>
 ∃ x21 : Int, w19.cell? (p20.add 2) = some (.int .u64 x21) ∧
 (0 : Int) ≤ s8.1 ∧
 NC a0 fun p22 =>
 stCells (p22.add 2) 0 [.int .u64 (bitK .u64 1 x21 (u64 (r13 * 2 ^ (min (Int.toNat s8.1) (IntKind.bits .u64)))))] w19 fun w23 =>
 next10 (u64 (s8.1 + 1), ()) w23
 ) (
 next10 (u64 (s8.1 + 1), ()) w15
 )
 ) w9
 ) (
 K 0 w9
 )
 )
 )
 ) w3
 ) w

def F.math_bits_TrailingZeros64 (E : Env) (a0 : Int) (K : Int → World → Prop) (w : World) : Prop :=
 CND ((a0 : Int) == 0) (
 K 64 w
 ) (
 (0 : Int) ≤ 58 ∧
 ((0 : Int) ≤ (Int.fdiv (u64 ((bitK .u64 0 a0 (u64 (0 - a0))) * 285870213051353865)) (2 ^ (min (Int.toNat 58) (IntKind.bits .u64)))) ∧ ((Int.fdiv (u64 ((bitK .u64 0 a0 (u64 (0 - a0))) * 285870213051353865)) (2 ^ (min (Int.toNat 58) (IntKind.bits .u64)))) : Int) < (64 : Nat)) ∧
 ∃ x1 : Int, w.cell? ((Addr.mk E.g_math_bits_deBruijn64tab 0 none).add (Int.toNat (Int.fdiv (u64 ((bitK .u64 0 a0 (u64 (0 - a0))) * 285870213051353865)) (2 ^ (min (Int.toNat 58) (IntKind.bits .u64)))) * 1)) = some (.int .u8 x1) ∧
 K (i64 (x1)) w
 )

def F.pcache_find (E : Env) (a0 : Int) (a1 : Int) (K : Int → Bool → World → Prop) (w : World) : Prop :=
 LOOP (Int × Int × Int × Unit) (a0, a1, i64 (a1 - 1), ()) w fun s1 _ w2 next3 =>
 CND (decide ((s1.2.2.1 : Int) > 0)) (
 2 ≠ (0 : Int) ∧
 LET (minI s1.2.2.1 (maxI 1 (i64 (Int.tdiv s1.2.1 2))) : Int) fun by_4 =>
 (0 : Int) ≤ by_4 ∧
 LET (bitK .u64 0 s1.1 (Int.fdiv s1.1 (2 ^ (min (Int.toNat by_4) (IntKind.bits .u64)))) : Int) fun w_5 =>
 next3 (w_5, i64 (s1.2.1 - by_4), i64 (s1.2.2.1 - by_4), ()) w2
 ) (
 F.math_bits_TrailingZeros64 E s1.1 (fun r6 w7 =>
 K r6 ((s1.1 : Int) != 0) w7
 ) w2
 )

def F.math_bits_OnesCount64 (E : Env) (a0 : Int) (K : Int → World → Prop) (w : World) : Prop :=
 (0 : Int) ≤ 1 ∧
 LET (u64 ((bitK .u64 0 (Int.fdiv a0 (2 ^ (min (Int.toNat 1) (IntKind.bits .u64)))) 6148914691236517205) + (bitK .u64 0 a0 6148914691236517205)) : Int) fun x_1 =>
 (0 : Int) ≤ 2 ∧
 LET (u64 ((bitK .u64 0 (Int.fdiv x_1 (2 ^ (min (Int.toNat 2) (IntKind.bits .u64)))) 3689348814741910323) + (bitK .u64 0 x_1 3689348814741910323)) : Int) fun x_2 =>
 (0 : Int) ≤ 4 ∧
 LET (bitK .u64 0 (u64 ((Int.fdiv x_2 (2 ^ (min (Int.toNat 4) (IntKind.bits .u64)))) + x_2)) 1085102592571150095 : Int) fun x_3 =>
 (0 : Int) ≤ 8 ∧
 LET (u64 (x_3 + (Int.fdiv x_3 (2 ^ (min (Int.toNat 8) (IntKind.bits .u64))))) : Int) fun x_4 =>
 (0 : Int) ≤ 16 ∧
 LET (u64 (x_4 + (Int.fdiv x_4 (2 ^ (min (Int.toNat 16) (IntKind.bits .u64))))) : Int) fun x_5 =>
 (0 : Int) ≤ 32 ∧
 LET (u64 (x_5 + (Int.fdiv x_5 (2 ^ (min (Int.toNat 32) (IntKind.bits .u64))))) : Int) fun x_6 =>
 LET (bitK .i64 0 (i64 (x_6)) 127 : Int) fun t7 =>
 K t7 w

def F.pcache_Cache_Alloc (E : Env) (a0 : (Option Addr)) (a1 : Int) (K : Int → Int → Int → World → Prop) (w : World) : Prop :=
 JOIN (Bool × Unit) (fun J1 =>
 CND (decide ((a1 : Int) < 1)) (
 J1 (true, ()) w
 ) (
 J1 (decide ((a1 : Int) > 64), ()) w
 )
 ) fun s2 _ w3 =>
 CND (s2.1) (
 K 0 0 1 w3
 ) (
 NC a0 fun p4 =>
 ∃ x5 : Int, w3.cell? (p4.add 1) = some (.int .u64 x5) ∧
 F.pcache_find E x5 a1 (fun r6 r7 w8 =>
 CND (!r7) (
 K 0 0 30 w8
 ) (
 (0 : Int) ≤ (i64 (64 - a1)) ∧
 (0 : Int) ≤ r6 ∧
 LET (u64 ((Int.fdiv 18446744073709551615 (2 ^ (min (Int.toNat (i64 (64 - a1))) (IntKind.bits .u64)))) * 2 ^ (min (Int.toNat r6) (IntKind.bits .u64))) : Int) fun mask_9 =>
 NC a0 fun p10 =>
 ∃ x11 : Int, w8.cell? (p10.add 2) = some (.int .u64 x11) ∧
 F.math_bits_OnesCount64 E (bitK .u64 0 x11 mask_9) (fun r12 w13 =>
 NC a0 fun p14 =>
 ∃ x15 : Int, w13.cell? (p14.add 1) = some (.int .u64 x15) ∧
 NC a0 fun p16 =>
 stCells (p16.add 1) 0 [.int .u64 (bitK .u64 3 x15 mask_9)] w13 fun w17 =>
 NC a0 fun p18 =>
 ∃ x19 : Int, w17.cell? (p18.add 2) = some (.int .u64 x19) ∧
 NC a0 fun p20 =>
 stCells (p20.add 2) 0 [.int .u64 (bitK .u64 3 x19 mask_9)] w17 fun w21 =>
 NC a0 fun p22 =>
 ∃ x23 : Int, w21.cell? p22 = some (.int .u64 x23) ∧
 K (u64 (x23 + (u64 (r6)))) r12 0 w21
 ) w8
 )
 ) w3
 )

def F.radix_Tree_Alloc (E : Env) (a0 : (Option Addr)) (a1 : Int) (K : Int → Int → Int → World → Prop) (w : World) : Prop :=
 CND ((a1 : Int) == 0) (
 K 0 0 1 w
 ) (
 F.radix_Tree_Find E a0 a1 (fun r1 r2 w3 =>
 CND (!r2) (
 K 0 0 30 w3
 ) (
 F.radix_Tree_Take E a0 r1 a1 (fun r4 r5 w6 =>
 K r1 r4 r5 w6
 ) w3
 )
 ) w
 )

def F.mheap_Heap_got (E : Env) (a0 : (Option Addr)) (a1 : Int) (a2 : Int) (K : Int → Bool → World → Prop) (w : World) : Prop :=
 JOIN (Unit) (fun J1 =>
 JOIN (Bool × Unit) (fun J4 =>
 F.mheap_is E a1 (fun r7 w8 =>
 CND (r7) (
 J4 (decide ((a2 : Int) < 16), ()) w8
 ) (
 J4 (false, ()) w8
 )
 ) w
 ) fun s5 _ w6 =>
 CND (s5.1) (
 NC a0 fun p9 =>
 ((0 : Int) ≤ a1 ∧ (a1 : Int) < (64 : Nat)) ∧
 ∃ x10 : (Option Addr), w6.cell? ((p9.add 5).add (Int.toNat a1 * 1)) = some (.pointer x10) ∧
 JOIN (Unit) (fun J11 =>
 F.pcache_Cache_Empty E x10 (fun r14 w15 =>
 CND (r14) (
 NC a0 fun p16 =>
 ∃ x17 : (Option Addr), w15.cell? (p16.add 1) = some (.pointer x17) ∧
 F.pcache_Cache_Fill E x10 x17 (fun r18 w19 =>
 J11 (()) w19
 ) w15
 ) (
 J11 (()) w15
 )
 ) w6
 ) fun s12 _ w13 =>
 F.pcache_Cache_Alloc E x10 (i64 (a2)) (fun r20 r21 r22 w23 =>
 CND ((r22 : Int) == 0) (
 K r20 true w23
 ) (
 J1 (()) w23
 )
 ) w13
 ) (
 J1 (()) w6
 )
 ) fun s2 _ w3 =>
 NC a0 fun p24 =>
 ∃ x25 : (Option Addr), w3.cell? (p24.add 1) = some (.pointer x25) ∧
 F.radix_Tree_Alloc E x25 a2 (fun r26 r27 r28 w29 =>
 K r26 ((r28 : Int) == 0) w29
 ) w3

def F.vmem_used_bool_ (E : Env) (a0 : (Option Addr)) (K : Bool → Bool → World → Prop) (w : World) : Prop :=
 NC a0 fun p1 =>
 ∃ x2 : SlV, w.cell? p1 = some (.slice x2.base x2.len x2.cap) ∧
 CND (decide ((((x2.len : Nat) : Int) : Int) > 0)) (
 NC a0 fun p3 =>
 ∃ x4 : SlV, w.cell? p3 = some (.slice x4.base x4.len x4.cap) ∧
 NC x4.base fun p5 =>
 ((0 : Int) ≤ 0 ∧ (0 : Int) < (x4.len : Nat)) ∧
 ∃ x6 : Bool, w.cell? (p5.add (Int.toNat 0 * 1)) = some (.bool x6) ∧
 NC a0 fun p7 =>
 ∃ x8 : SlV, w.cell? p7 = some (.slice x8.base x8.len x8.cap) ∧
 ((0 : Int) ≤ 1 ∧ (1 : Int) ≤ (x8.len : Nat)) ∧
 NC a0 fun p9 =>
 stCells p9 0 [.slice (slB x8.base x8.cap (Int.toNat 1) 1) (x8.len - (Int.toNat 1)) (x8.cap - (Int.toNat 1))] w fun w10 =>
 K x6 true w10
 ) (
 K false false w
 )

def F.vmem_used_uint64_ (E : Env) (a0 : (Option Addr)) (K : Int → Bool → World → Prop) (w : World) : Prop :=
 NC a0 fun p1 =>
 ∃ x2 : SlV, w.cell? p1 = some (.slice x2.base x2.len x2.cap) ∧
 CND (decide ((((x2.len : Nat) : Int) : Int) > 0)) (
 NC a0 fun p3 =>
 ∃ x4 : SlV, w.cell? p3 = some (.slice x4.base x4.len x4.cap) ∧
 NC x4.base fun p5 =>
 ((0 : Int) ≤ 0 ∧ (0 : Int) < (x4.len : Nat)) ∧
 ∃ x6 : Int, w.cell? (p5.add (Int.toNat 0 * 1)) = some (.int .u64 x6) ∧
 NC a0 fun p7 =>
 ∃ x8 : SlV, w.cell? p7 = some (.slice x8.base x8.len x8.cap) ∧
 ((0 : Int) ≤ 1 ∧ (1 : Int) ≤ (x8.len : Nat)) ∧
 NC a0 fun p9 =>
 stCells p9 0 [.slice (slB x8.base x8.cap (Int.toNat 1) 1) (x8.len - (Int.toNat 1)) (x8.cap - (Int.toNat 1))] w fun w10 =>
 K x6 true w10
 ) (
 K 0 false w
 )

def F.vmem_Mem_fits (E : Env) (a0 : (Option Addr)) (a1 : Int) (a2 : Int) (K : Bool → World → Prop) (w : World) : Prop :=
 512 ≠ (0 : Int) ∧
 CND (((Int.tmod a1 512) : Int) == 0) (
 CND ((a1 : Int) != 0) (
 CND (decide ((a1 : Int) ≤ 34359738368)) (
 CND (decide ((a2 : Int) ≤ (u64 (34359738368 - a1)))) (
 NC a0 fun p1 =>
 F.stretch_Set_Count E (some (p1.add 3)) a1 (u64 (a1 + a2)) (fun r2 w3 =>
 K ((r2 : Int) == 0) w3
 ) w
 ) (
 K false w
 )
 ) (
 K false w
 )
 ) (
 K false w
 )
 ) (
 K false w
 )

def F.vmem_Mem_place (E : Env) (a0 : (Option Addr)) (a1 : Int) (a2 : Int) (K : Int → Bool → World → Prop) (w : World) : Prop :=
 CND (decide ((a1 : Int) > 34359738368)) (
 K 0 false w
 ) (
 512 ≠ (0 : Int) ∧
 LET (maxI (u64 ((u64 (Int.tdiv (u64 ((u64 (a1 + 512)) - 1)) 512)) * 512)) 512 : Int) fun at_1 =>
 JOIN (Int × Unit) (fun J2 =>
 NC a0 fun p5 =>
 F.stretch_Set_All E (some (p5.add 3)) (fun r6 w7 =>
 LOOP (Int × Int × Unit) (at_1, 0, ()) w7 fun s8 _ w9 next10 =>
 CND (decide ((s8.2.1 : Int) < ((r6.len : Nat) : Int))) (
 NC r6.base fun p11 =>
 ((0 : Int) ≤ s8.2.1 ∧ (s8.2.1 : Int) < (r6.len : Nat)) ∧
 ∃ c12 : Int, w9.cell? ((p11.add (Int.toNat s8.2.1 * 2)).add 0) = some (.int .u64 c12) ∧
 ∃ c13 : Int, w9.cell? ((p11.add (Int.toNat s8.2.1 * 2)).add 1) = some (.int .u64 c13) ∧
 AL (.cells #[.int .u64 0, .int .u64 0] E.t_stretch_One) w9 fun b14 w15 =>
 stCells (Addr.mk b14 0 none) 0 [.int .u64 c12, .int .u64 c13] w15 fun w16 =>
 ∃ x17 : Int, w16.cell? ((Addr.mk b14 0 none).add 1) = some (.int .u64 x17) ∧
 CND (decide ((x17 : Int) ≤ s8.1)) (
 next10 (s8.1, i64 (s8.2.1 + 1), ()) w16
 ) (
 JOIN (Unit) (fun J18 =>
 ∃ x21 : Int, w16.cell? (Addr.mk b14 0 none) = some (.int .u64 x21) ∧
 CND (decide ((x21 : Int) ≥ s8.1)) (
 ∃ x22 : Int, w16.cell? (Addr.mk b14 0 none) = some (.int .u64 x22) ∧
 CND (decide (((u64 (x22 - s8.1)) : Int) ≥ a2)) (
 J2 (s8.1, ()) w16
 ) (
 J18 (()) w16
 )
 ) (
 J18 (()) w16
 )
 ) fun s19 _ w20 =>
 ∃ x23 : Int, w20.cell? ((Addr.mk b14 0 none).add 1) = some (.int .u64 x23) ∧
 512 ≠ (0 : Int) ∧
 LET (u64 ((u64 (Int.tdiv (u64 ((u64 (x23 + 512)) - 1)) 512)) * 512) : Int) fun at_24 =>
 next10 (at_24, i64 (s8.2.1 + 1), ()) w20
 )
 ) (
 J2 (s8.1, ()) w9
 )
 ) w
 ) fun s3 _ w4 =>
 F.vmem_Mem_fits E a0 s3.1 a2 (fun r25 w26 =>
 K s3.1 r25 w26
 ) w4
 )

def F.stretch_Set_Add (E : Env) (a0 : (Option Addr)) (a1 : Int) (a2 : Int) (K : World → Prop) (w : World) : Prop :=
 CND (decide ((a1 : Int) ≥ a2)) (
 K  w
 ) (
 F.stretch_Set_Cut E a0 a1 a2 (fun  w1 =>
 NC a0 fun p2 =>
 ∃ x3 : Int, w1.cell? (p2.add 1) = some (.int .u64 x3) ∧
 NC a0 fun p4 =>
 stCells (p4.add 1) 0 [.int .u64 (u64 (x3 + (u64 (a2 - a1))))] w1 fun w5 =>
 F.stretch_Set_at E a0 a1 (fun r6 w7 =>
 AL (.cells #[.int .u64 0, .int .u64 0] E.t_stretch_One) w7 fun b8 w9 =>
 stCells (Addr.mk b8 0 none) 0 [.int .u64 a1, .int .u64 a2] w9 fun w10 =>
 JOIN (Int × Unit) (fun J11 =>
 JOIN (Bool × Unit) (fun J14 =>
 NC a0 fun p17 =>
 ∃ x18 : SlV, w10.cell? p17 = some (.slice x18.base x18.len x18.cap) ∧
 CND (decide ((r6 : Int) < ((x18.len : Nat) : Int))) (
 NC a0 fun p19 =>
 ∃ x20 : SlV, w10.cell? p19 = some (.slice x20.base x20.len x20.cap) ∧
 NC x20.base fun p21 =>
 ((0 : Int) ≤ r6 ∧ (r6 : Int) < (x20.len : Nat)) ∧
 ∃ x22 : Int, w10.cell? (p21.add (Int.toNat r6 * 2)) = some (.int .u64 x22) ∧
 J14 ((x22 : Int) == a2, ()) w10
 ) (
 J14 (false, ()) w10
 )
 ) fun s15 _ w16 =>
 CND (s15.1) (
 NC a0 fun p23 =>
 ∃ x24 : SlV, w16.cell? p23 = some (.slice x24.base x24.len x24.cap) ∧
 NC x24.base fun p25 =>
 ((0 : Int) ≤ r6 ∧ (r6 : Int) < (x24.len : Nat)) ∧
 ∃ x26 : Int, w16.cell? ((p25.add (Int.toNat r6 * 2)).add 1) = some (.int .u64 x26) ∧
 stCells ((Addr.mk b8 0 none).add 1) 0 [.int .u64 x26] w16 fun w27 =>
 J11 (i64 (r6 + 1), ()) w27
 ) (
 J11 (r6, ()) w16
 )
 ) fun s12 _ w13 =>
 JOIN (Int × Unit) (fun J28 =>
 JOIN (Bool × Unit) (fun J31 =>
 CND (decide ((r6 : Int) > 0)) (
 NC a0 fun p34 =>
 ∃ x35 : SlV, w13.cell? p34 = some (.slice x35.base x35.len x35.cap) ∧
 NC x35.base fun p36 =>
 ((0 : Int) ≤ (i64 (r6 - 1)) ∧ ((i64 (r6 - 1)) : Int) < (x35.len : Nat)) ∧
 ∃ x37 : Int, w13.cell? ((p36.add (Int.toNat (i64 (r6 - 1)) * 2)).add 1) = some (.int .u64 x37) ∧
 J31 ((x37 : Int) == a1, ()) w13
 ) (
 J31 (false, ()) w13
 )
 ) fun s32 _ w33 =>
 CND (s32.1) (
 NC a0 fun p38 =>
 ∃ x39 : SlV, w33.cell? p38 = some (.slice x39.base x39.len x39.cap) ∧
 NC x39.base fun p40 =>
 ((0 : Int) ≤ (i64 (r6 - 1)) ∧ ((i64 (r6 - 1)) : Int) < (x39.len : Nat)) ∧
 ∃ x41 : Int, w33.cell? (p40.add (Int.toNat (i64 (r6 - 1)) * 2)) = some (.int .u64 x41) ∧
 stCells (Addr.mk b8 0 none) 0 [.int .u64 x41] w33 fun w42 =>
 J28 (i64 (r6 - 1), ()) w42
 ) (
 J28 (r6, ()) w33
 )
 ) fun s29 _ w30 =>
 NC a0 fun p43 =>
 ∃ x44 : SlV, w30.drew.cell? p43 = some (.slice x44.base x44.len x44.cap) ∧
 ((0 : Int) ≤ s29.1 ∧ (s29.1 : Int) ≤ (x44.cap : Nat)) ∧
 ∃ c45 : Int, w30.drew.cell? ((Addr.mk b8 0 none).add 0) = some (.int .u64 c45) ∧
 ∃ c46 : Int, w30.drew.cell? ((Addr.mk b8 0 none).add 1) = some (.int .u64 c46) ∧
 NC a0 fun p47 =>
 ∃ x48 : SlV, w30.drew.cell? p47 = some (.slice x48.base x48.len x48.cap) ∧
 ((0 : Int) ≤ s12.1 ∧ (s12.1 : Int) ≤ (x48.len : Nat)) ∧
 (
 AL (.cells ⟨[]⟩ E.t_stretch_One) w30.drew fun b49 w50 =>
 w50.cell? p47 = some (.slice x48.base x48.len x48.cap) ∧
 (w50.cell? ((Addr.mk b8 0 none).add 0) = some (.int .u64 c45) ∧ (w50.cell? ((Addr.mk b8 0 none).add 1) = some (.int .u64 c46) ∧ True)) ∧
 w50.cell? p43 = some (.slice x44.base x44.len x44.cap) ∧
 (
 APP E.t_stretch_One 2 16 #[.int .u64 0, .int .u64 0] ⟨(some (Addr.mk b49 0 none)), 0, 0⟩ ⟨(slB x44.base x44.cap 0 2), (Int.toNat s29.1), x44.cap⟩ w50 fun s51 w52 =>
 w52.cell? p47 = some (.slice x48.base x48.len x48.cap) ∧
 (w52.cell? ((Addr.mk b8 0 none).add 0) = some (.int .u64 c45) ∧ (w52.cell? ((Addr.mk b8 0 none).add 1) = some (.int .u64 c46) ∧ True)) ∧
 w52.cell? p43 = some (.slice x44.base x44.len x44.cap) ∧
 AL (.cells ⟨[.int .u64 c45, .int .u64 c46]⟩ E.t_stretch_One) w52 fun b53 w54 =>
 w54.cell? p47 = some (.slice x48.base x48.len x48.cap) ∧
 w54.cell? p43 = some (.slice x44.base x44.len x44.cap) ∧
 APP E.t_stretch_One 2 16 #[.int .u64 0, .int .u64 0] s51 ⟨(some (Addr.mk b53 0 none)), 1, 1⟩ w54 fun s55 w56 =>
 w56.cell? p47 = some (.slice x48.base x48.len x48.cap) ∧
 w56.cell? p43 = some (.slice x44.base x44.len x44.cap) ∧
 APP E.t_stretch_One 2 16 #[.int .u64 0, .int .u64 0] s55 ⟨(slB x48.base x48.cap (Int.toNat s12.1) 2), (x48.len - (Int.toNat s12.1)), (x48.cap - (Int.toNat s12.1))⟩ w56 fun s57 w58 =>
 w58.cell? p47 = some (.slice x48.base x48.len x48.cap) ∧
 w58.cell? p43 = some (.slice x44.base x44.len x44.cap) ∧
 NC a0 fun p59 =>
 stCells p59 0 [.slice s57.base s57.len s57.cap] w58 fun w60 =>
 K  w60

 ) ∧ (
 AL (.cells ⟨[.int .u64 c45, .int .u64 c46]⟩ E.t_stretch_One) w50 fun b61 w62 =>
 w62.cell? p47 = some (.slice x48.base x48.len x48.cap) ∧
 w62.cell? p43 = some (.slice x44.base x44.len x44.cap) ∧
 APP E.t_stretch_One 2 16 #[.int .u64 0, .int .u64 0] ⟨(some (Addr.mk b49 0 none)), 0, 0⟩ ⟨(slB x44.base x44.cap 0 2), (Int.toNat s29.1), x44.cap⟩ w62 fun s63 w64 =>
 w64.cell? p47 = some (.slice x48.base x48.len x48.cap) ∧
 w64.cell? p43 = some (.slice x44.base x44.len x44.cap) ∧
 APP E.t_stretch_One 2 16 #[.int .u64 0, .int .u64 0] s63 ⟨(some (Addr.mk b61 0 none)), 1, 1⟩ w64 fun s65 w66 =>
 w66.cell? p47 = some (.slice x48.base x48.len x48.cap) ∧
 w66.cell? p43 = some (.slice x44.base x44.len x44.cap) ∧
 APP E.t_stretch_One 2 16 #[.int .u64 0, .int .u64 0] s65 ⟨(slB x48.base x48.cap (Int.toNat s12.1) 2), (x48.len - (Int.toNat s12.1)), (x48.cap - (Int.toNat s12.1))⟩ w66 fun s67 w68 =>
 w68.cell? p47 = some (.slice x48.base x48.len x48.cap) ∧
 w68.cell? p43 = some (.slice x44.base x44.len x44.cap) ∧
 NC a0 fun p69 =>
 stCells p69 0 [.slice s67.base s67.len s67.cap] w68 fun w70 =>
 K  w70
 )

 ) ∧ (
 AL (.cells ⟨[.int .u64 c45, .int .u64 c46]⟩ E.t_stretch_One) w30.drew fun b71 w72 =>
 w72.cell? p47 = some (.slice x48.base x48.len x48.cap) ∧
 w72.cell? p43 = some (.slice x44.base x44.len x44.cap) ∧
 AL (.cells ⟨[]⟩ E.t_stretch_One) w72 fun b73 w74 =>
 w74.cell? p47 = some (.slice x48.base x48.len x48.cap) ∧
 w74.cell? p43 = some (.slice x44.base x44.len x44.cap) ∧
 APP E.t_stretch_One 2 16 #[.int .u64 0, .int .u64 0] ⟨(some (Addr.mk b73 0 none)), 0, 0⟩ ⟨(slB x44.base x44.cap 0 2), (Int.toNat s29.1), x44.cap⟩ w74 fun s75 w76 =>
 w76.cell? p47 = some (.slice x48.base x48.len x48.cap) ∧
 w76.cell? p43 = some (.slice x44.base x44.len x44.cap) ∧
 APP E.t_stretch_One 2 16 #[.int .u64 0, .int .u64 0] s75 ⟨(some (Addr.mk b71 0 none)), 1, 1⟩ w76 fun s77 w78 =>
 w78.cell? p47 = some (.slice x48.base x48.len x48.cap) ∧
 w78.cell? p43 = some (.slice x44.base x44.len x44.cap) ∧
 APP E.t_stretch_One 2 16 #[.int .u64 0, .int .u64 0] s77 ⟨(slB x48.base x48.cap (Int.toNat s12.1) 2), (x48.len - (Int.toNat s12.1)), (x48.cap - (Int.toNat s12.1))⟩ w78 fun s79 w80 =>
 w80.cell? p47 = some (.slice x48.base x48.len x48.cap) ∧
 w80.cell? p43 = some (.slice x44.base x44.len x44.cap) ∧
 NC a0 fun p81 =>
 stCells p81 0 [.slice s79.base s79.len s79.cap] w80 fun w82 =>
 K  w82
 )
 ) w5
 ) w
 )

def F.vmem_Mem_Reserve (E : Env) (a0 : (Option Addr)) (a1 : Int) (a2 : Int) (K : Int → Int → World → Prop) (w : World) : Prop :=
 JOIN (Bool × Unit) (fun J1 =>
 CND ((a2 : Int) == 0) (
 J1 (true, ()) w
 ) (
 512 ≠ (0 : Int) ∧
 CND (((Int.tmod a2 512) : Int) != 0) (
 J1 (true, ()) w
 ) (
 J1 (decide ((a2 : Int) > 134217728), ()) w
 )
 )
 ) fun s2 _ w3 =>
 CND (s2.1) (
 K 0 1 w3
 ) (
 NC a0 fun p4 =>
 F.vmem_used_bool_ E (some (p4.add 1)) (fun r5 r6 w7 =>
 CND (r5) (
 K 0 13 w7
 ) (
 NC a0 fun p8 =>
 F.vmem_used_uint64_ E (some p8) (fun r9 r10 w11 =>
 JOIN (Bool × Unit) (fun J12 =>
 CND (r10) (
 F.vmem_Mem_fits E a0 r9 a2 (fun r15 w16 =>
 J12 (r15, ()) w16
 ) w11
 ) (
 J12 (false, ()) w11
 )
 ) fun s13 _ w14 =>
 AL (.cells ⟨[.int .u64 a1, .int .u64 0]⟩ E.t_uint64) w14 fun b17 w18 =>
 LOOP (Int × Bool × Int × Unit) (r9, s13.1, 0, ()) w18 fun s19 _ w20 next21 =>
 CND (decide ((s19.2.2.1 : Int) < 2)) (
 ((0 : Int) ≤ s19.2.2.1 ∧ (s19.2.2.1 : Int) < (2 : Nat)) ∧
 ∃ x22 : Int, w20.cell? ((Addr.mk b17 0 none).add (Int.toNat s19.2.2.1 * 1)) = some (.int .u64 x22) ∧
 CND (!s19.2.1) (
 F.vmem_Mem_place E a0 x22 a2 (fun r23 r24 w25 =>
 next21 (r23, r24, i64 (s19.2.2.1 + 1), ()) w25
 ) w20
 ) (
 next21 (s19.1, s19.2.1, i64 (s19.2.2.1 + 1), ()) w20
 )
 ) (
 CND (!s19.2.1) (
 K 0 13 w20
 ) (
 NC a0 fun p26 =>
 F.stretch_Set_Add E (some (p26.add 3)) s19.1 (u64 (s19.1 + a2)) (fun  w27 =>
 K s19.1 0 w27
 ) w20
 )
 )
 ) w7
 )
 ) w3
 )

def F.radix_Tree_Grow (E : Env) (a0 : (Option Addr)) (a1 : Int) (a2 : Int) (K : Int → World → Prop) (w : World) : Prop :=
 JOIN (Bool × Unit) (fun J1 =>
 CND ((a2 : Int) == 0) (
 J1 (true, ()) w
 ) (
 CND (decide ((a2 : Int) > 262144)) (
 J1 (true, ()) w
 ) (
 CND (decide ((a1 : Int) > 67108864)) (
 J1 (true, ()) w
 ) (
 J1 (decide ((a2 : Int) > (u64 (67108864 - a1))), ()) w
 )
 )
 )
 ) fun s2 _ w3 =>
 CND (s2.1) (
 K 1 w3
 ) (
 LET (u64 ((u64 (a1 + a2)) * 512) : Int) fun to_4 =>
 NC a0 fun p5 =>
 F.stretch_Set_Count E (some p5) (u64 (a1 * 512)) to_4 (fun r6 w7 =>
 CND (decide ((r6 : Int) > 0)) (
 K 34 w7
 ) (
 NC a0 fun p8 =>
 F.stretch_Set_Add E (some p8) (u64 (a1 * 512)) to_4 (fun  w9 =>
 NC a0 fun p10 =>
 F.stretch_Set_Add E (some (p10.add 2)) (u64 (a1 * 512)) to_4 (fun  w11 =>
 NC a0 fun p12 =>
 F.stretch_Set_Add E (some (p12.add 4)) (u64 (a1 * 512)) to_4 (fun  w13 =>
 F.radix_Tree_changed E a0 (fun  w14 =>
 K 0 w14
 ) w13
 ) w11
 ) w9
 ) w7
 )
 ) w3
 )

def F.arena_Map_Many (E : Env) (a0 : (Option Addr)) (a1 : Int) (a2 : Int) (K : World → Prop) (w : World) : Prop :=
 NC a0 fun p1 =>
 F.stretch_Set_Add E (some p1) a1 a2 (fun  w2 =>
 K  w2
 ) w

def F.mheap_Heap_grow (E : Env) (a0 : (Option Addr)) (a1 : Int) (K : Int → World → Prop) (w : World) : Prop :=
 512 ≠ (0 : Int) ∧
 LET (u64 ((u64 (Int.tdiv (u64 ((u64 (a1 + 512)) - 1)) 512)) * 512) : Int) fun n_1 =>
 NC a0 fun p2 =>
 ∃ x3 : (Option Addr), w.drew.cell? p2 = some (.pointer x3) ∧
 NC a0 fun p4 =>
 ∃ x5 : Int, w.drew.cell? (p4.add 69) = some (.int .u64 x5) ∧
 F.vmem_Mem_Reserve E x3 x5 n_1 (fun r6 r7 w8 =>
 CND ((r7 : Int) != 0) (
 K 13 w8
 ) (
 NC a0 fun p9 =>
 stCells (p9.add 69) 0 [.int .u64 (u64 (r6 + n_1))] w8 fun w10 =>
 NC a0 fun p11 =>
 ∃ x12 : (Option Addr), w10.cell? (p11.add 1) = some (.pointer x12) ∧
 512 ≠ (0 : Int) ∧
 512 ≠ (0 : Int) ∧
 F.radix_Tree_Grow E x12 (u64 (Int.tdiv r6 512)) (u64 (Int.tdiv n_1 512)) (fun r13 w14 =>
 NC a0 fun p15 =>
 ∃ x16 : (Option Addr), w14.drew.cell? (p15.add 2) = some (.pointer x16) ∧
 512 ≠ (0 : Int) ∧
 NC a0 fun p17 =>
 ∃ x18 : Int, w14.drew.cell? (p17.add 69) = some (.int .u64 x18) ∧
 512 ≠ (0 : Int) ∧
 F.arena_Map_Many E x16 (u64 (Int.tdiv r6 512)) (u64 (Int.tdiv x18 512)) (fun  w19 =>
 w19.cell? (p17.add 69) = some (.int .u64 x18) ∧
 K 0 w19
 ) w14.drew
 ) w10
 )
 ) w.drew

def F.vmem_right (E : Env) (a0 : Int) (a1 : Int) (K : Bool → World → Prop) (w : World) : Prop :=
 CND ((a1 : Int) != 0) (
 CND (decide ((a0 : Int) ≤ 34359738368)) (
 K (decide ((a1 : Int) ≤ (u64 (34359738368 - a0)))) w
 ) (
 K false w
 )
 ) (
 K false w
 )

def F.stretch_Set_Within (E : Env) (a0 : (Option Addr)) (a1 : Int) (a2 : Int) (K : SlV → World → Prop) (w : World) : Prop :=
 F.stretch_Set_at E a0 a1 (fun r1 w2 =>
 LOOP (SlV × Int × Unit) (⟨none, 0, 0⟩, r1, ()) w2 fun s3 _ w4 next5 =>
 NC a0 fun p6 =>
 ∃ x7 : SlV, w4.cell? p6 = some (.slice x7.base x7.len x7.cap) ∧
 CND (decide ((s3.2.1 : Int) < ((x7.len : Nat) : Int))) (
 NC a0 fun p8 =>
 ∃ x9 : SlV, w4.cell? p8 = some (.slice x9.base x9.len x9.cap) ∧
 NC x9.base fun p10 =>
 ((0 : Int) ≤ s3.2.1 ∧ (s3.2.1 : Int) < (x9.len : Nat)) ∧
 ∃ x11 : Int, w4.cell? (p10.add (Int.toNat s3.2.1 * 2)) = some (.int .u64 x11) ∧
 CND (decide ((x11 : Int) < a2)) (
 NC a0 fun p12 =>
 ∃ x13 : SlV, w4.drew.cell? p12 = some (.slice x13.base x13.len x13.cap) ∧
 NC x13.base fun p14 =>
 ((0 : Int) ≤ s3.2.1 ∧ (s3.2.1 : Int) < (x13.len : Nat)) ∧
 ∃ x15 : Int, w4.drew.cell? (p14.add (Int.toNat s3.2.1 * 2)) = some (.int .u64 x15) ∧
 NC a0 fun p16 =>
 ∃ x17 : SlV, w4.drew.cell? p16 = some (.slice x17.base x17.len x17.cap) ∧
 NC x17.base fun p18 =>
 ((0 : Int) ≤ s3.2.1 ∧ (s3.2.1 : Int) < (x17.len : Nat)) ∧
 ∃ x19 : Int, w4.drew.cell? ((p18.add (Int.toNat s3.2.1 * 2)).add 1) = some (.int .u64 x19) ∧
 AL (.cells ⟨[.int .u64 (maxI x15 a1), .int .u64 (minI x19 a2)]⟩ E.t_stretch_One) w4.drew fun b20 w21 =>
 w21.cell? ((p18.add (Int.toNat s3.2.1 * 2)).add 1) = some (.int .u64 x19) ∧
 w21.cell? p16 = some (.slice x17.base x17.len x17.cap) ∧
 w21.cell? (p14.add (Int.toNat s3.2.1 * 2)) = some (.int .u64 x15) ∧
 w21.cell? p12 = some (.slice x13.base x13.len x13.cap) ∧
 APP E.t_stretch_One 2 16 #[.int .u64 0, .int .u64 0] s3.1 ⟨(some (Addr.mk b20 0 none)), 1, 1⟩ w21 fun s22 w23 =>
 w23.cell? ((p18.add (Int.toNat s3.2.1 * 2)).add 1) = some (.int .u64 x19) ∧
 w23.cell? p16 = some (.slice x17.base x17.len x17.cap) ∧
 w23.cell? (p14.add (Int.toNat s3.2.1 * 2)) = some (.int .u64 x15) ∧
 w23.cell? p12 = some (.slice x13.base x13.len x13.cap) ∧
 next5 (s22, i64 (s3.2.1 + 1), ()) w23
 ) (
 K s3.1 w4
 )
 ) (
 K s3.1 w4
 )
 ) w

def F.vmem_Mem_Commit (E : Env) (a0 : (Option Addr)) (a1 : Int) (a2 : Int) (K : Int → World → Prop) (w : World) : Prop :=
 F.vmem_right E a1 a2 (fun r1 w2 =>
 CND (!r1) (
 K 1 w2
 ) (
 NC a0 fun p3 =>
 F.stretch_Set_Count E (some (p3.add 3)) a1 (u64 (a1 + a2)) (fun r4 w5 =>
 CND ((r4 : Int) != a2) (
 K 33 w5
 ) (
 NC a0 fun p6 =>
 F.stretch_Set_Count E (some (p6.add 5)) a1 (u64 (a1 + a2)) (fun r7 w8 =>
 CND ((r7 : Int) == a2) (
 K 0 w8
 ) (
 NC a0 fun p9 =>
 F.vmem_used_bool_ E (some (p9.add 1)) (fun r10 r11 w12 =>
 CND (r10) (
 K 13 w12
 ) (
 JOIN (Unit) (fun J13 =>
 NC a0 fun p16 =>
 F.stretch_Set_Within E (some (p16.add 7)) a1 (u64 (a1 + a2)) (fun r17 w18 =>
 LOOP (Int × Unit) (0, ()) w18 fun s19 _ w20 next21 =>
 CND (decide ((s19.1 : Int) < ((r17.len : Nat) : Int))) (
 NC r17.base fun p22 =>
 ((0 : Int) ≤ s19.1 ∧ (s19.1 : Int) < (r17.len : Nat)) ∧
 ∃ c23 : Int, w20.cell? ((p22.add (Int.toNat s19.1 * 2)).add 0) = some (.int .u64 c23) ∧
 ∃ c24 : Int, w20.cell? ((p22.add (Int.toNat s19.1 * 2)).add 1) = some (.int .u64 c24) ∧
 AL (.cells #[.int .u64 0, .int .u64 0] E.t_stretch_One) w20 fun b25 w26 =>
 stCells (Addr.mk b25 0 none) 0 [.int .u64 c23, .int .u64 c24] w26 fun w27 =>
 ∃ x28 : Int, w27.cell? (Addr.mk b25 0 none) = some (.int .u64 x28) ∧
 LOOP (Int × Unit) (x28, ()) w27 fun s29 _ w30 next31 =>
 ∃ x32 : Int, w30.cell? ((Addr.mk b25 0 none).add 1) = some (.int .u64 x32) ∧
 CND (decide ((s29.1 : Int) < x32)) (
 NC a0 fun p33 =>
 ∃ x34 : SlV, w30.cell? (p33.add 2) = some (.slice x34.base x34.len x34.cap) ∧
 CND ((((x34.len : Nat) : Int) : Int) == 0) (
 J13 (()) w30
 ) (
 NC a0 fun p35 =>
 F.vmem_used_uint64_ E (some (p35.add 2)) (fun r36 r37 w38 =>
 CND ((r36 : Int) != 0) (
 NC a0 fun p39 =>
 ∃ x40 : (Option Nat), w38.cell? (p39.add 9) = some (.map x40) ∧
 MUPD .u64 s29.1 (.int .u64 r36) x40 w38 fun w41 =>
 next31 (u64 (s29.1 + 1), ()) w41
 ) (
 next31 (u64 (s29.1 + 1), ()) w38
 )
 ) w30
 )
 ) (
 next21 (i64 (s19.1 + 1), ()) w30
 )
 ) (
 J13 (()) w20
 )
 ) w12
 ) fun s14 _ w15 =>
 NC a0 fun p42 =>
 F.stretch_Set_Cut E (some (p42.add 7)) a1 (u64 (a1 + a2)) (fun  w43 =>
 NC a0 fun p44 =>
 F.stretch_Set_Add E (some (p44.add 5)) a1 (u64 (a1 + a2)) (fun  w45 =>
 K 0 w45
 ) w43
 ) w15
 )
 ) w8
 )
 ) w5
 )
 ) w2
 )
 ) w

def F.vmem_Mem_Ready (E : Env) (a0 : (Option Addr)) (a1 : Int) (a2 : Int) (K : SlV → World → Prop) (w : World) : Prop :=
 NC a0 fun p1 =>
 F.stretch_Set_Within E (some (p1.add 5)) a1 a2 (fun r2 w3 =>
 K r2 w3
 ) w

def F.radix_Tree_freed (E : Env) (a0 : (Option Addr)) (a1 : Int) (a2 : Int) (a3 : (Option Addr)) (K : Int → World → Prop) (w : World) : Prop :=
 F.radix_Tree_looked E a0 a1 a2 false 31 (fun r1 w2 =>
 CND ((r1 : Int) != 0) (
 K r1 w2
 ) (
 NC a0 fun p3 =>
 F.stretch_Set_Add E (some (p3.add 2)) a1 (u64 (a1 + a2)) (fun  w4 =>
 F.stretch_Set_Add E a3 a1 (u64 (a1 + a2)) (fun  w5 =>
 F.radix_Tree_changed E a0 (fun  w6 =>
 K 0 w6
 ) w5
 ) w4
 ) w2
 )
 ) w

def F.radix_Tree_Back (E : Env) (a0 : (Option Addr)) (a1 : Int) (a2 : Int) (K : Int → World → Prop) (w : World) : Prop :=
 NC a0 fun p1 =>
 F.radix_Tree_freed E a0 a1 a2 (some (p1.add 4)) (fun r2 w3 =>
 K r2 w3
 ) w

def F.radix_Tree_Give (E : Env) (a0 : (Option Addr)) (a1 : Int) (a2 : Int) (K : Int → World → Prop) (w : World) : Prop :=
 NC a0 fun p1 =>
 F.radix_Tree_freed E a0 a1 a2 (some (p1.add 6)) (fun r2 w3 =>
 K r2 w3
 ) w

def F.mheap_Heap_back (E : Env) (a0 : (Option Addr)) (a1 : Int) (a2 : Int) (K : World → Prop) (w : World) : Prop :=
 NC a0 fun p1 =>
 ∃ x2 : (Option Addr), w.cell? p1 = some (.pointer x2) ∧
 F.vmem_Mem_Ready E x2 a1 (u64 (a1 + a2)) (fun r3 w4 =>
 LOOP (Int × Int × Unit) (a1, 0, ()) w4 fun s5 _ w6 next7 =>
 CND (decide ((s5.2.1 : Int) < ((r3.len : Nat) : Int))) (
 NC r3.base fun p8 =>
 ((0 : Int) ≤ s5.2.1 ∧ (s5.2.1 : Int) < (r3.len : Nat)) ∧
 ∃ c9 : Int, w6.cell? ((p8.add (Int.toNat s5.2.1 * 2)).add 0) = some (.int .u64 c9) ∧
 ∃ c10 : Int, w6.cell? ((p8.add (Int.toNat s5.2.1 * 2)).add 1) = some (.int .u64 c10) ∧
 AL (.cells #[.int .u64 0, .int .u64 0] E.t_stretch_One) w6 fun b11 w12 =>
 stCells (Addr.mk b11 0 none) 0 [.int .u64 c9, .int .u64 c10] w12 fun w13 =>
 NC a0 fun p14 =>
 ∃ x15 : (Option Addr), w13.drew.cell? (p14.add 1) = some (.pointer x15) ∧
 ∃ x16 : Int, w13.drew.cell? (Addr.mk b11 0 none) = some (.int .u64 x16) ∧
 F.radix_Tree_Back E x15 s5.1 (u64 (x16 - s5.1)) (fun r17 w18 =>
 w18.cell? (Addr.mk b11 0 none) = some (.int .u64 x16) ∧
 NC a0 fun p19 =>
 ∃ x20 : (Option Addr), w18.drew.cell? (p19.add 1) = some (.pointer x20) ∧
 ∃ x21 : Int, w18.drew.cell? (Addr.mk b11 0 none) = some (.int .u64 x21) ∧
 ∃ x22 : Int, w18.drew.cell? ((Addr.mk b11 0 none).add 1) = some (.int .u64 x22) ∧
 ∃ x23 : Int, w18.drew.cell? (Addr.mk b11 0 none) = some (.int .u64 x23) ∧
 F.radix_Tree_Give E x20 x21 (u64 (x22 - x23)) (fun r24 w25 =>
 w25.cell? (Addr.mk b11 0 none) = some (.int .u64 x23) ∧
 w25.cell? ((Addr.mk b11 0 none).add 1) = some (.int .u64 x22) ∧
 ∃ x26 : Int, w25.cell? ((Addr.mk b11 0 none).add 1) = some (.int .u64 x26) ∧
 next7 (x26, i64 (s5.2.1 + 1), ()) w25
 ) w18.drew
 ) w13.drew
 ) (
 NC a0 fun p27 =>
 ∃ x28 : (Option Addr), w6.cell? (p27.add 1) = some (.pointer x28) ∧
 F.radix_Tree_Back E x28 s5.1 (u64 ((u64 (a1 + a2)) - s5.1)) (fun r29 w30 =>
 K  w30
 ) w6
 )
 ) w

def F.mheap_Heap_find_1 (E : Env) (a0 : (Option Addr)) (a1 : (Option Addr)) (a2 : (Option Addr)) (a3 : (Option Addr)) (K : World → Prop) (w : World) : Prop :=
 NC a0 fun p1 =>
 ∃ x2 : Int, w.cell? p1 = some (.int .i64 x2) ∧
 CND ((x2 : Int) != 0) (
 NC a1 fun p3 =>
 ∃ x4 : (Option Addr), w.cell? p3 = some (.pointer x4) ∧
 NC a2 fun p5 =>
 ∃ x6 : Int, w.cell? p5 = some (.int .u64 x6) ∧
 NC a3 fun p7 =>
 ∃ x8 : Int, w.cell? p7 = some (.int .u64 x8) ∧
 F.mheap_Heap_back E x4 x6 x8 (fun  w9 =>
 K  w9
 ) w
 ) (
 K  w
 )

def F.mheap_Heap_find (E : Env) (a0 : (Option Addr)) (a1 : Int) (a2 : Int) (K : Int → Int → World → Prop) (w : World) : Prop :=
 AL (.cells #[.pointer a0] E.t__mheap_Heap) w fun b1 w2 =>
 AL (.cells #[.int .u64 a2] E.t_uint64) w2 fun b3 w4 =>
 AL (.cells #[.int .i64 0] E.t_api_Errno) w4 fun b5 w6 =>
 ∃ x7 : (Option Addr), w6.cell? (Addr.mk b1 0 none) = some (.pointer x7) ∧
 ∃ x8 : Int, w6.cell? (Addr.mk b3 0 none) = some (.int .u64 x8) ∧
 F.mheap_Heap_got E x7 a1 x8 (fun r9 r10 w11 =>
 JOIN (Int × Unit) (fun J12 =>
 CND (!r10) (
 ∃ x15 : (Option Addr), w11.cell? (Addr.mk b1 0 none) = some (.pointer x15) ∧
 ∃ x16 : Int, w11.cell? (Addr.mk b3 0 none) = some (.int .u64 x16) ∧
 F.mheap_Heap_grow E x15 x16 (fun r17 w18 =>
 stCells (Addr.mk b5 0 none) 0 [.int .i64 r17] w18 fun w19 =>
 ∃ x20 : Int, w19.cell? (Addr.mk b5 0 none) = some (.int .i64 x20) ∧
 CND ((x20 : Int) != 0) (
 ∃ x21 : Int, w19.drew.cell? (Addr.mk b5 0 none) = some (.int .i64 x21) ∧
 stCells (Addr.mk b5 0 none) 0 [.int .i64 x21] w19.drew fun w22 =>
 ∃ x23 : Int, w22.cell? (Addr.mk b5 0 none) = some (.int .i64 x23) ∧
 K 0 x23 w22
 ) (
 ∃ x24 : (Option Addr), w19.drew.cell? (Addr.mk b1 0 none) = some (.pointer x24) ∧
 NC x24 fun p25 =>
 ∃ x26 : (Option Addr), w19.drew.cell? (p25.add 1) = some (.pointer x26) ∧
 ∃ x27 : Int, w19.drew.cell? (Addr.mk b3 0 none) = some (.int .u64 x27) ∧
 F.radix_Tree_Alloc E x26 x27 (fun r28 r29 r30 w31 =>
 w31.cell? (Addr.mk b1 0 none) = some (.pointer x24) ∧
 J12 (r28, ()) w31
 ) w19.drew
 )
 ) w11
 ) (
 J12 (r9, ()) w11
 )
 ) fun s13 _ w14 =>
 AL (.cells #[.int .u64 0] E.t_uint64) w14 fun b32 w33 =>
 stCells (Addr.mk b32 0 none) 0 [.int .u64 s13.1] w33 fun w34 =>
 ∃ x35 : (Option Addr), w34.drew.cell? (Addr.mk b1 0 none) = some (.pointer x35) ∧
 NC x35 fun p36 =>
 ∃ x37 : (Option Addr), w34.drew.cell? p36 = some (.pointer x37) ∧
 ∃ x38 : Int, w34.drew.cell? (Addr.mk b3 0 none) = some (.int .u64 x38) ∧
 F.vmem_Mem_Commit E x37 s13.1 x38 (fun r39 w40 =>
 w40.cell? (Addr.mk b1 0 none) = some (.pointer x35) ∧
 CND ((r39 : Int) != 0) (
 stCells (Addr.mk b5 0 none) 0 [.int .i64 13] w40 fun w41 =>
 F.mheap_Heap_find_1 E (some (Addr.mk b5 0 none)) (some (Addr.mk b1 0 none)) (some (Addr.mk b32 0 none)) (some (Addr.mk b3 0 none)) (fun w42 =>
 ∃ x43 : Int, w42.cell? (Addr.mk b5 0 none) = some (.int .i64 x43) ∧
 K 0 x43 w42
 ) w41
 ) (
 stCells (Addr.mk b5 0 none) 0 [.int .i64 0] w40 fun w44 =>
 F.mheap_Heap_find_1 E (some (Addr.mk b5 0 none)) (some (Addr.mk b1 0 none)) (some (Addr.mk b32 0 none)) (some (Addr.mk b3 0 none)) (fun w45 =>
 ∃ x46 : Int, w45.cell? (Addr.mk b5 0 none) = some (.int .i64 x46) ∧
 K s13.1 x46 w45
 ) w44
 )
 ) w34.drew
 ) w6

def F.fix_Fix_Take (E : Env) (a0 : (Option Addr)) (K : Int → World → Prop) (w : World) : Prop :=
 NC a0 fun p1 =>
 ∃ x2 : (Option Addr), w.cell? (p1.add 2) = some (.pointer x2) ∧
 JOIN ((Option Addr) × Unit) (fun J3 =>
 CND (x2.isNone) (
 NC a0 fun p6 =>
 ∃ x7 : SlV, w.cell? (p6.add 1) = some (.slice x7.base x7.len x7.cap) ∧
 AL (.cells #[.int .i64 (i64 (((x7.len : Nat) : Int) + 1)), .bool false, .pointer none] E.t_fix_record) w fun b8 w9 =>
 NC a0 fun p10 =>
 ∃ x11 : SlV, w9.cell? (p10.add 1) = some (.slice x11.base x11.len x11.cap) ∧
 AL (.cells ⟨[.pointer (some (Addr.mk b8 0 none))]⟩ E.t__fix_record) w9 fun b12 w13 =>
 APP E.t__fix_record 1 8 #[.pointer none] x11 ⟨(some (Addr.mk b12 0 none)), 1, 1⟩ w13 fun s14 w15 =>
 NC a0 fun p16 =>
 stCells (p16.add 1) 0 [.slice s14.base s14.len s14.cap] w15 fun w17 =>
 J3 ((some (Addr.mk b8 0 none)), ()) w17
 ) (
 NC x2 fun p18 =>
 ∃ x19 : (Option Addr), w.cell? (p18.add 2) = some (.pointer x19) ∧
 NC a0 fun p20 =>
 stCells (p20.add 2) 0 [.pointer x19] w fun w21 =>
 J3 (x2, ()) w21
 )
 ) fun s4 _ w5 =>
 NC s4.1 fun p22 =>
 stCells (p22.add 1) 0 [.bool true] w5 fun w23 =>
 NC s4.1 fun p24 =>
 stCells (p24.add 2) 0 [.pointer none] w23 fun w25 =>
 NC a0 fun p26 =>
 ∃ x27 : Int, w25.cell? (p26.add 3) = some (.int .i64 x27) ∧
 NC a0 fun p28 =>
 stCells (p28.add 3) 0 [.int .i64 (i64 (x27 + 1))] w25 fun w29 =>
 NC s4.1 fun p30 =>
 ∃ x31 : Int, w29.cell? p30 = some (.int .i64 x31) ∧
 K x31 w29

def F.span_Span_Info (E : Env) (a0 : (Option Addr)) (K : Int → Int → Int → Int → Bool → Int → Int → Int → Bool → Bool → World → Prop) (w : World) : Prop :=
 AL (.cells #[.int .u64 0, .int .i64 0, .int .i64 0, .int .i64 0, .bool false, .int .i64 0, .int .i64 0, .int .i64 0, .bool false, .bool false] E.t_api_Info) w fun b1 w2 =>
 NC a0 fun p3 =>
 ∃ c4 : Int, w2.cell? (p3.add 0) = some (.int .u64 c4) ∧
 ∃ c5 : Int, w2.cell? (p3.add 1) = some (.int .i64 c5) ∧
 ∃ c6 : Int, w2.cell? (p3.add 2) = some (.int .i64 c6) ∧
 ∃ c7 : Int, w2.cell? (p3.add 3) = some (.int .i64 c7) ∧
 ∃ c8 : Bool, w2.cell? (p3.add 4) = some (.bool c8) ∧
 ∃ c9 : Int, w2.cell? (p3.add 5) = some (.int .i64 c9) ∧
 ∃ c10 : Int, w2.cell? (p3.add 6) = some (.int .i64 c10) ∧
 ∃ c11 : Int, w2.cell? (p3.add 7) = some (.int .i64 c11) ∧
 ∃ c12 : Bool, w2.cell? (p3.add 8) = some (.bool c12) ∧
 ∃ c13 : Bool, w2.cell? (p3.add 9) = some (.bool c13) ∧
 stCells (Addr.mk b1 0 none) 0 [.int .u64 c4, .int .i64 c5, .int .i64 c6, .int .i64 c7, .bool c8, .int .i64 c9, .int .i64 c10, .int .i64 c11, .bool c12, .bool c13] w2 fun w14 =>
 ∃ c15 : Int, w14.cell? ((Addr.mk b1 0 none).add 0) = some (.int .u64 c15) ∧
 ∃ c16 : Int, w14.cell? ((Addr.mk b1 0 none).add 1) = some (.int .i64 c16) ∧
 ∃ c17 : Int, w14.cell? ((Addr.mk b1 0 none).add 2) = some (.int .i64 c17) ∧
 ∃ c18 : Int, w14.cell? ((Addr.mk b1 0 none).add 3) = some (.int .i64 c18) ∧
 ∃ c19 : Bool, w14.cell? ((Addr.mk b1 0 none).add 4) = some (.bool c19) ∧
 ∃ c20 : Int, w14.cell? ((Addr.mk b1 0 none).add 5) = some (.int .i64 c20) ∧
 ∃ c21 : Int, w14.cell? ((Addr.mk b1 0 none).add 6) = some (.int .i64 c21) ∧
 ∃ c22 : Int, w14.cell? ((Addr.mk b1 0 none).add 7) = some (.int .i64 c22) ∧
 ∃ c23 : Bool, w14.cell? ((Addr.mk b1 0 none).add 8) = some (.bool c23) ∧
 ∃ c24 : Bool, w14.cell? ((Addr.mk b1 0 none).add 9) = some (.bool c24) ∧
 K c15 c16 c17 c18 c19 c20 c21 c22 c23 c24 w14

def F.arena_Map_cut (E : Env) (a0 : (Option Addr)) (a1 : Int) (a2 : Int) (K : World → Prop) (w : World) : Prop :=
 NC a0 fun p1 =>
 ∃ x2 : SlV, w.cell? (p1.add 2) = some (.slice x2.base x2.len x2.cap) ∧
 LOOP (SlV × Int × Unit) (⟨none, 0, 0⟩, 0, ()) w fun s3 _ w4 next5 =>
 CND (decide ((s3.2.1 : Int) < ((x2.len : Nat) : Int))) (
 NC x2.base fun p6 =>
 ((0 : Int) ≤ s3.2.1 ∧ (s3.2.1 : Int) < (x2.len : Nat)) ∧
 ∃ c7 : Int, w4.cell? ((p6.add (Int.toNat s3.2.1 * 3)).add 0) = some (.int .u64 c7) ∧
 ∃ c8 : Int, w4.cell? ((p6.add (Int.toNat s3.2.1 * 3)).add 1) = some (.int .u64 c8) ∧
 ∃ c9 : Int, w4.cell? ((p6.add (Int.toNat s3.2.1 * 3)).add 2) = some (.int .i64 c9) ∧
 AL (.cells #[.int .u64 0, .int .u64 0, .int .i64 0] E.t_arena_wide) w4 fun b10 w11 =>
 stCells (Addr.mk b10 0 none) 0 [.int .u64 c7, .int .u64 c8, .int .i64 c9] w11 fun w12 =>
 JOIN (Bool × Unit) (fun J13 =>
 ∃ x16 : Int, w12.cell? ((Addr.mk b10 0 none).add 1) = some (.int .u64 x16) ∧
 CND (decide ((x16 : Int) ≤ a1)) (
 J13 (true, ()) w12
 ) (
 ∃ x17 : Int, w12.cell? (Addr.mk b10 0 none) = some (.int .u64 x17) ∧
 J13 (decide ((x17 : Int) ≥ a2), ()) w12
 )
 ) fun s14 _ w15 =>
 CND (s14.1) (
 ∃ c18 : Int, w15.cell? ((Addr.mk b10 0 none).add 0) = some (.int .u64 c18) ∧
 ∃ c19 : Int, w15.cell? ((Addr.mk b10 0 none).add 1) = some (.int .u64 c19) ∧
 ∃ c20 : Int, w15.cell? ((Addr.mk b10 0 none).add 2) = some (.int .i64 c20) ∧
 AL (.cells ⟨[.int .u64 c18, .int .u64 c19, .int .i64 c20]⟩ E.t_arena_wide) w15 fun b21 w22 =>
 APP E.t_arena_wide 3 24 #[.int .u64 0, .int .u64 0, .int .i64 0] s3.1 ⟨(some (Addr.mk b21 0 none)), 1, 1⟩ w22 fun s23 w24 =>
 next5 (s23, i64 (s3.2.1 + 1), ()) w24
 ) (
 JOIN (SlV × Unit) (fun J25 =>
 ∃ x28 : Int, w15.cell? (Addr.mk b10 0 none) = some (.int .u64 x28) ∧
 CND (decide ((x28 : Int) < a1)) (
 ∃ x29 : Int, w15.cell? (Addr.mk b10 0 none) = some (.int .u64 x29) ∧
 ∃ x30 : Int, w15.cell? ((Addr.mk b10 0 none).add 2) = some (.int .i64 x30) ∧
 AL (.cells ⟨[.int .u64 x29, .int .u64 a1, .int .i64 x30]⟩ E.t_arena_wide) w15 fun b31 w32 =>
 APP E.t_arena_wide 3 24 #[.int .u64 0, .int .u64 0, .int .i64 0] s3.1 ⟨(some (Addr.mk b31 0 none)), 1, 1⟩ w32 fun s33 w34 =>
 J25 (s33, ()) w34
 ) (
 J25 (s3.1, ()) w15
 )
 ) fun s26 _ w27 =>
 ∃ x35 : Int, w27.cell? ((Addr.mk b10 0 none).add 1) = some (.int .u64 x35) ∧
 CND (decide ((x35 : Int) > a2)) (
 ∃ x36 : Int, w27.cell? ((Addr.mk b10 0 none).add 1) = some (.int .u64 x36) ∧
 ∃ x37 : Int, w27.cell? ((Addr.mk b10 0 none).add 2) = some (.int .i64 x37) ∧
 AL (.cells ⟨[.int .u64 a2, .int .u64 x36, .int .i64 x37]⟩ E.t_arena_wide) w27 fun b38 w39 =>
 APP E.t_arena_wide 3 24 #[.int .u64 0, .int .u64 0, .int .i64 0] s26.1 ⟨(some (Addr.mk b38 0 none)), 1, 1⟩ w39 fun s40 w41 =>
 next5 (s40, i64 (s3.2.1 + 1), ()) w41
 ) (
 next5 (s26.1, i64 (s3.2.1 + 1), ()) w27
 )
 )
 ) (
 NC a0 fun p42 =>
 stCells (p42.add 2) 0 [.slice s3.1.base s3.1.len s3.1.cap] w4 fun w43 =>
 NC a0 fun p44 =>
 ∃ x45 : (Option Nat), w43.cell? (p44.add 3) = some (.map x45) ∧
 ∃ es46 : Array MapEntry, mapAt w43 x45 es46 ∧
 CND (decide (((u64 (((es46.size : Nat) : Int))) : Int) < (u64 (a2 - a1)))) (
 NC a0 fun p47 =>
 ∃ x48 : (Option Nat), w43.cell? (p47.add 3) = some (.map x48) ∧
 ∃ cl49, rngAt w43 x48 cl49 ∧
 AL (rngObj x48 cl49) w43 fun b50 w51 =>
 LOOP (Unit) (()) w51 fun s52 _ w53 next54 =>
 JOIN (Bool × Unit) (fun J55 =>
 NEXT b50 w53 (fun w58 =>
 J55 (false, ()) w58
 ) fun k60 v61 w59 =>
 J55 (true, ()) w59
 ) fun s56 _ w57 =>
 JOIN (Bool × Unit) (fun J62 =>
 CND (s56.1) (
 J62 (s56.1, ()) w57
 ) (
 K  w57
 )
 ) fun s63 _ w64 =>
 ENT b50 w64 fun k65 v66 S67 =>
 unInt .u64 k65 fun x68 =>
 JOIN (Bool × Unit) (fun J69 =>
 CND (decide ((x68 : Int) ≥ a1)) (
 J69 (decide ((x68 : Int) < a2), ()) w64
 ) (
 J69 (false, ()) w64
 )
 ) fun s70 _ w71 =>
 CND (s70.1) (
 NC a0 fun p72 =>
 ∃ x73 : (Option Nat), w71.cell? (p72.add 3) = some (.map x73) ∧
 MDEL .u64 x68 x73 w71 fun w74 =>
 next54 (()) w74
 ) (
 next54 (()) w71
 )
 ) (
 LOOP (Int × Unit) (a1, ()) w43 fun s75 _ w76 next77 =>
 CND (decide ((s75.1 : Int) < a2)) (
 NC a0 fun p78 =>
 ∃ x79 : (Option Nat), w76.cell? (p78.add 3) = some (.map x79) ∧
 MDEL .u64 s75.1 x79 w76 fun w80 =>
 next77 (u64 (s75.1 + 1), ()) w80
 ) (
 K  w76
 )
 )
 )

def F.arena_Map_Set (E : Env) (a0 : (Option Addr)) (a1 : Int) (a2 : Int) (a3 : Int) (K : Int → World → Prop) (w : World) : Prop :=
 AL (.cells #[.pointer a0] E.t__arena_Map) w fun b1 w2 =>
 AL (.cells #[.int .i64 a3] E.t_int) w2 fun b3 w4 =>
 JOIN (Bool × Unit) (fun J5 =>
 CND ((a2 : Int) == 0) (
 J5 (true, ()) w4
 ) (
 ∃ x8 : Int, w4.cell? (Addr.mk b3 0 none) = some (.int .i64 x8) ∧
 J5 (decide ((x8 : Int) < 0), ()) w4
 )
 ) fun s6 _ w7 =>
 CND (s6.1) (
 K 1 w7
 ) (
 JOIN (Bool × Unit) (fun J9 =>
 CND (decide ((a1 : Int) ≥ 34359738368)) (
 J9 (true, ()) w7
 ) (
 J9 (decide ((a2 : Int) > (u64 (34359738368 - a1))), ()) w7
 )
 ) fun s10 _ w11 =>
 CND (s10.1) (
 K 10 w11
 ) (
 512 ≠ (0 : Int) ∧
 512 ≠ (0 : Int) ∧
 LET (u64 (Int.tdiv (u64 ((u64 ((u64 (a1 + a2)) + 512)) - 1)) 512) : Int) fun last_12 =>
 ∃ x13 : (Option Addr), w11.cell? (Addr.mk b1 0 none) = some (.pointer x13) ∧
 NC x13 fun p14 =>
 F.stretch_Set_Count E (some p14) (u64 (Int.tdiv a1 512)) last_12 (fun r15 w16 =>
 CND ((r15 : Int) != (u64 (last_12 - (u64 (Int.tdiv a1 512))))) (
 K 10 w16
 ) (
 512 ≠ (0 : Int) ∧
 512 ≠ (0 : Int) ∧
 LET (u64 (Int.tdiv (u64 ((u64 (a1 + 512)) - 1)) 512) : Int) fun from_17 =>
 LET (u64 (Int.tdiv (u64 (a1 + a2)) 512) : Int) fun to_18 =>
 JOIN (Unit) (fun J19 =>
 CND (decide ((from_17 : Int) < to_18)) (
 ∃ x22 : (Option Addr), w16.cell? (Addr.mk b1 0 none) = some (.pointer x22) ∧
 F.arena_Map_cut E x22 from_17 to_18 (fun  w23 =>
 ∃ x24 : Int, w23.cell? (Addr.mk b3 0 none) = some (.int .i64 x24) ∧
 CND (decide ((x24 : Int) > 0)) (
 ∃ x25 : (Option Addr), w23.drew.cell? (Addr.mk b1 0 none) = some (.pointer x25) ∧
 ∃ x26 : (Option Addr), w23.drew.cell? (Addr.mk b1 0 none) = some (.pointer x26) ∧
 NC x26 fun p27 =>
 ∃ x28 : SlV, w23.drew.cell? (p27.add 2) = some (.slice x28.base x28.len x28.cap) ∧
 ∃ x29 : Int, w23.drew.cell? (Addr.mk b3 0 none) = some (.int .i64 x29) ∧
 AL (.cells ⟨[.int .u64 from_17, .int .u64 to_18, .int .i64 x29]⟩ E.t_arena_wide) w23.drew fun b30 w31 =>
 w31.cell? (Addr.mk b3 0 none) = some (.int .i64 x29) ∧
 w31.cell? (p27.add 2) = some (.slice x28.base x28.len x28.cap) ∧
 w31.cell? (Addr.mk b1 0 none) = some (.pointer x26) ∧
 w31.cell? (Addr.mk b1 0 none) = some (.pointer x25) ∧
 APP E.t_arena_wide 3 24 #[.int .u64 0, .int .u64 0, .int .i64 0] x28 ⟨(some (Addr.mk b30 0 none)), 1, 1⟩ w31 fun s32 w33 =>
 w33.cell? (Addr.mk b3 0 none) = some (.int .i64 x29) ∧
 w33.cell? (Addr.mk b1 0 none) = some (.pointer x26) ∧
 w33.cell? (Addr.mk b1 0 none) = some (.pointer x25) ∧
 NC x25 fun p34 =>
 stCells (p34.add 2) 0 [.slice s32.base s32.len s32.cap] w33 fun w35 =>
 J19 (()) w35
 ) (
 J19 (()) w23
 )
 ) w16
 ) (
 J19 (()) w16
 )
 ) fun s20 _ w21 =>
 CND (decide ((from_17 : Int) > to_18)) (
 CAL E.call E.f_arena_Map_Set_1 #[.int .u64 a1, .int .u64 (u64 (a1 + a2)), .pointer (some (Addr.mk b3 0 none)), .pointer (some (Addr.mk b1 0 none))] w21 fun r36 w37 =>
 r36 = .tuple ⟨[]⟩ ∧
 K 0 w37
 ) (
 CAL E.call E.f_arena_Map_Set_1 #[.int .u64 a1, .int .u64 (u64 (from_17 * 512)), .pointer (some (Addr.mk b3 0 none)), .pointer (some (Addr.mk b1 0 none))] w21 fun r38 w39 =>
 r38 = .tuple ⟨[]⟩ ∧
 CAL E.call E.f_arena_Map_Set_1 #[.int .u64 (u64 (to_18 * 512)), .int .u64 (u64 (a1 + a2)), .pointer (some (Addr.mk b3 0 none)), .pointer (some (Addr.mk b1 0 none))] w39 fun r40 w41 =>
 r40 = .tuple ⟨[]⟩ ∧
 K 0 w41
 )
 )
 ) w11
 )
 )

def F.mheap_Heap_keep (E : Env) (a0 : (Option Addr)) (a1 : (Option Addr)) (K : Int → World → Prop) (w : World) : Prop :=
 NC a0 fun p1 =>
 ∃ x2 : (Option Addr), w.cell? (p1.add 3) = some (.pointer x2) ∧
 F.fix_Fix_Take E x2 (fun r3 w4 =>
 NC a0 fun p5 =>
 ∃ x6 : (Option Nat), w4.cell? (p5.add 4) = some (.map x6) ∧
 MUPD .i64 r3 (.pointer a1) x6 w4 fun w7 =>
 F.span_Span_Info E a1 (fun r8 r9 r10 r11 r12 r13 r14 r15 r16 r17 w18 =>
 AL (.cells #[.int .u64 0, .int .i64 0, .int .i64 0, .int .i64 0, .bool false, .int .i64 0, .int .i64 0, .int .i64 0, .bool false, .bool false] E.t_api_Info) w18 fun b19 w20 =>
 stCells (Addr.mk b19 0 none) 0 [.int .u64 r8, .int .i64 r9, .int .i64 r10, .int .i64 r11, .bool r12, .int .i64 r13, .int .i64 r14, .int .i64 r15, .bool r16, .bool r17] w20 fun w21 =>
 NC a0 fun p22 =>
 ∃ x23 : (Option Addr), w21.drew.cell? (p22.add 2) = some (.pointer x23) ∧
 ∃ x24 : Int, w21.drew.cell? (Addr.mk b19 0 none) = some (.int .u64 x24) ∧
 8192 ≠ (0 : Int) ∧
 ∃ x25 : Int, w21.drew.cell? ((Addr.mk b19 0 none).add 1) = some (.int .i64 x25) ∧
 F.arena_Map_Set E x23 (u64 (Int.tdiv x24 8192)) (u64 (x25)) r3 (fun r26 w27 =>
 w27.cell? ((Addr.mk b19 0 none).add 1) = some (.int .i64 x25) ∧
 w27.cell? (Addr.mk b19 0 none) = some (.int .u64 x24) ∧
 NC a0 fun p28 =>
 ∃ x29 : Int, w27.drew.cell? (p28.add 70) = some (.int .u64 x29) ∧
 ∃ x30 : Int, w27.drew.cell? ((Addr.mk b19 0 none).add 1) = some (.int .i64 x30) ∧
 NC a0 fun p31 =>
 stCells (p31.add 70) 0 [.int .u64 (u64 (x29 + (u64 (x30))))] w27.drew fun w32 =>
 K r3 w32
 ) w21.drew
 ) w7
 ) w

def F.mheap_Heap_Alloc (E : Env) (a0 : (Option Addr)) (a1 : Int) (a2 : Int) (a3 : Int) (a4 : Bool) (K : Int → Int → World → Prop) (w : World) : Prop :=
 F.span_New E 0 a2 a3 a4 (fun r1 r2 w3 =>
 CND ((r2 : Int) != 0) (
 K 0 1 w3
 ) (
 F.mheap_Heap_find E a0 a1 a2 (fun r4 r5 w6 =>
 CND ((r5 : Int) != 0) (
 K 0 r5 w6
 ) (
 F.span_New E r4 a2 a3 a4 (fun r7 r8 w9 =>
 F.mheap_Heap_keep E a0 r7 (fun r10 w11 =>
 K r10 0 w11
 ) w9
 ) w6
 )
 ) w3
 )
 ) w

def F.span_Span_Die (E : Env) (a0 : (Option Addr)) (K : Int → World → Prop) (w : World) : Prop :=
 JOIN (Bool × Unit) (fun J1 =>
 NC a0 fun p4 =>
 ∃ x5 : Int, w.cell? (p4.add 2) = some (.int .i64 x5) ∧
 CND ((x5 : Int) == 0) (
 J1 (true, ()) w
 ) (
 NC a0 fun p6 =>
 ∃ x7 : Int, w.cell? (p6.add 7) = some (.int .i64 x7) ∧
 J1 (decide ((x7 : Int) > 0), ()) w
 )
 ) fun s2 _ w3 =>
 CND (s2.1) (
 K 33 w3
 ) (
 NC a0 fun p8 =>
 stCells (p8.add 2) 0 [.int .i64 0] w3 fun w9 =>
 NC a0 fun p10 =>
 stCells (p10.add 7) 0 [.int .i64 0] w9 fun w11 =>
 NC a0 fun p12 =>
 stCells (p12.add 11) 0 [.slice none 0 0] w11 fun w13 =>
 NC a0 fun p14 =>
 stCells (p14.add 12) 0 [.slice none 0 0] w13 fun w15 =>
 K 0 w15
 )

def F.fix_Fix_Live (E : Env) (a0 : (Option Addr)) (a1 : Int) (K : Bool → World → Prop) (w : World) : Prop :=
 CND (decide ((a1 : Int) ≥ 1)) (
 NC a0 fun p1 =>
 ∃ x2 : SlV, w.cell? (p1.add 1) = some (.slice x2.base x2.len x2.cap) ∧
 CND (decide ((a1 : Int) ≤ ((x2.len : Nat) : Int))) (
 NC a0 fun p3 =>
 ∃ x4 : SlV, w.cell? (p3.add 1) = some (.slice x4.base x4.len x4.cap) ∧
 NC x4.base fun p5 =>
 ((0 : Int) ≤ (i64 (a1 - 1)) ∧ ((i64 (a1 - 1)) : Int) < (x4.len : Nat)) ∧
 ∃ x6 : (Option Addr), w.cell? (p5.add (Int.toNat (i64 (a1 - 1)) * 1)) = some (.pointer x6) ∧
 NC x6 fun p7 =>
 ∃ x8 : Bool, w.cell? (p7.add 1) = some (.bool x8) ∧
 K x8 w
 ) (
 K false w
 )
 ) (
 K false w
 )

def F.fix_Fix_Give (E : Env) (a0 : (Option Addr)) (a1 : Int) (K : Int → World → Prop) (w : World) : Prop :=
 F.fix_Fix_Live E a0 a1 (fun r1 w2 =>
 CND (!r1) (
 K 31 w2
 ) (
 NC a0 fun p3 =>
 ∃ x4 : SlV, w2.cell? (p3.add 1) = some (.slice x4.base x4.len x4.cap) ∧
 NC x4.base fun p5 =>
 ((0 : Int) ≤ (i64 (a1 - 1)) ∧ ((i64 (a1 - 1)) : Int) < (x4.len : Nat)) ∧
 ∃ x6 : (Option Addr), w2.cell? (p5.add (Int.toNat (i64 (a1 - 1)) * 1)) = some (.pointer x6) ∧
 NC a0 fun p7 =>
 ∃ x8 : (Option Addr), w2.cell? (p7.add 2) = some (.pointer x8) ∧
 NC x6 fun p9 =>
 stCells (p9.add 1) 0 [.bool false] w2 fun w10 =>
 NC x6 fun p11 =>
 stCells (p11.add 2) 0 [.pointer x8] w10 fun w12 =>
 NC a0 fun p13 =>
 stCells (p13.add 2) 0 [.pointer x6] w12 fun w14 =>
 NC a0 fun p15 =>
 ∃ x16 : Int, w14.cell? (p15.add 3) = some (.int .i64 x16) ∧
 NC a0 fun p17 =>
 stCells (p17.add 3) 0 [.int .i64 (i64 (x16 - 1))] w14 fun w18 =>
 K 0 w18
 )
 ) w

def F.mheap_Heap_Free (E : Env) (a0 : (Option Addr)) (a1 : Int) (K : Int → World → Prop) (w : World) : Prop :=
 NC a0 fun p1 =>
 ∃ x2 : (Option Nat), w.cell? (p1.add 4) = some (.map x2) ∧
 LKP .i64 a1 x2 w (.pointer none) fun v3 ok4 es5 =>
 ∃ x6 : (Option Addr), v3 = .pointer x6 ∧
 CND (!ok4) (
 K 35 w
 ) (
 F.span_Span_Die E x6 (fun r7 w8 =>
 CND ((r7 : Int) != 0) (
 K r7 w8
 ) (
 F.span_Span_Info E x6 (fun r9 r10 r11 r12 r13 r14 r15 r16 r17 r18 w19 =>
 AL (.cells #[.int .u64 0, .int .i64 0, .int .i64 0, .int .i64 0, .bool false, .int .i64 0, .int .i64 0, .int .i64 0, .bool false, .bool false] E.t_api_Info) w19 fun b20 w21 =>
 stCells (Addr.mk b20 0 none) 0 [.int .u64 r9, .int .i64 r10, .int .i64 r11, .int .i64 r12, .bool r13, .int .i64 r14, .int .i64 r15, .int .i64 r16, .bool r17, .bool r18] w21 fun w22 =>
 ∃ x23 : Int, w22.drew.cell? (Addr.mk b20 0 none) = some (.int .u64 x23) ∧
 8192 ≠ (0 : Int) ∧
 ∃ x24 : Int, w22.drew.cell? ((Addr.mk b20 0 none).add 1) = some (.int .i64 x24) ∧
 NC a0 fun p25 =>
 ∃ x26 : (Option Addr), w22.drew.cell? (p25.add 2) = some (.pointer x26) ∧
 F.arena_Map_Set E x26 (u64 (Int.tdiv x23 8192)) (u64 (x24)) 0 (fun r27 w28 =>
 NC a0 fun p29 =>
 ∃ x30 : (Option Addr), w28.cell? (p29.add 1) = some (.pointer x30) ∧
 F.radix_Tree_Give E x30 (u64 (Int.tdiv x23 8192)) (u64 (x24)) (fun r31 w32 =>
 NC a0 fun p33 =>
 ∃ x34 : (Option Addr), w32.cell? (p33.add 3) = some (.pointer x34) ∧
 F.fix_Fix_Give E x34 a1 (fun r35 w36 =>
 NC a0 fun p37 =>
 ∃ x38 : Int, w36.cell? (p37.add 70) = some (.int .u64 x38) ∧
 NC a0 fun p39 =>
 stCells (p39.add 70) 0 [.int .u64 (u64 (x38 - (u64 (x24))))] w36 fun w40 =>
 NC a0 fun p41 =>
 ∃ x42 : (Option Nat), w40.cell? (p41.add 4) = some (.map x42) ∧
 MDEL .i64 a1 x42 w40 fun w43 =>
 K 0 w43
 ) w32
 ) w28
 ) w22.drew
 ) w8
 )
 ) w
 )

def F.scav_New (E : Env) (a0 : (Option Addr)) (a1 : Int) (K : (Option Addr) → World → Prop) (w : World) : Prop :=
 AL (.cells #[.pointer a0, .int .u64 a1] E.t_scav_Pacer) w fun b1 w2 =>
 K (some (Addr.mk b1 0 none)) w2

def F.stretch_Set_Sum (E : Env) (a0 : (Option Addr)) (K : Int → World → Prop) (w : World) : Prop :=
 NC a0 fun p1 =>
 ∃ x2 : Int, w.cell? (p1.add 1) = some (.int .u64 x2) ∧
 K x2 w

def F.radix_Tree_Released (E : Env) (a0 : (Option Addr)) (K : Int → World → Prop) (w : World) : Prop :=
 NC a0 fun p1 =>
 F.stretch_Set_Sum E (some (p1.add 4)) (fun r2 w3 =>
 K r2 w3
 ) w

def F.pcache_Cache_Tell (E : Env) (a0 : (Option Addr)) (K : Int → Int → Int → World → Prop) (w : World) : Prop :=
 F.pcache_Cache_Empty E a0 (fun r1 w2 =>
 CND (r1) (
 K 0 0 0 w2
 ) (
 NC a0 fun p3 =>
 ∃ x4 : Int, w2.drew.cell? p3 = some (.int .u64 x4) ∧
 NC a0 fun p5 =>
 ∃ x6 : Int, w2.drew.cell? (p5.add 1) = some (.int .u64 x6) ∧
 NC a0 fun p7 =>
 ∃ x8 : Int, w2.drew.cell? (p7.add 2) = some (.int .u64 x8) ∧
 K x4 x6 x8 w2.drew
 )
 ) w

def F.arena_Map_Count (E : Env) (a0 : (Option Addr)) (K : Int → World → Prop) (w : World) : Prop :=
 NC a0 fun p1 =>
 F.stretch_Set_Sum E (some p1) (fun r2 w3 =>
 K r2 w3
 ) w

def F.mheap_Heap_Pages (E : Env) (a0 : (Option Addr)) (K : Int → Int → Int → World → Prop) (w : World) : Prop :=
 NC a0 fun p1 =>
 ∃ x2 : (Option Addr), w.cell? (p1.add 1) = some (.pointer x2) ∧
 F.radix_Tree_Released E x2 (fun r3 w4 =>
 NC a0 fun p5 =>
 ∃ c6 : (Option Addr), w4.cell? ((p5.add 5).add 0) = some (.pointer c6) ∧
 ∃ c7 : (Option Addr), w4.cell? ((p5.add 5).add 1) = some (.pointer c7) ∧
 ∃ c8 : (Option Addr), w4.cell? ((p5.add 5).add 2) = some (.pointer c8) ∧
 ∃ c9 : (Option Addr), w4.cell? ((p5.add 5).add 3) = some (.pointer c9) ∧
 ∃ c10 : (Option Addr), w4.cell? ((p5.add 5).add 4) = some (.pointer c10) ∧
 ∃ c11 : (Option Addr), w4.cell? ((p5.add 5).add 5) = some (.pointer c11) ∧
 ∃ c12 : (Option Addr), w4.cell? ((p5.add 5).add 6) = some (.pointer c12) ∧
 ∃ c13 : (Option Addr), w4.cell? ((p5.add 5).add 7) = some (.pointer c13) ∧
 ∃ c14 : (Option Addr), w4.cell? ((p5.add 5).add 8) = some (.pointer c14) ∧
 ∃ c15 : (Option Addr), w4.cell? ((p5.add 5).add 9) = some (.pointer c15) ∧
 ∃ c16 : (Option Addr), w4.cell? ((p5.add 5).add 10) = some (.pointer c16) ∧
 ∃ c17 : (Option Addr), w4.cell? ((p5.add 5).add 11) = some (.pointer c17) ∧
 ∃ c18 : (Option Addr), w4.cell? ((p5.add 5).add 12) = some (.pointer c18) ∧
 ∃ c19 : (Option Addr), w4.cell? ((p5.add 5).add 13) = some (.pointer c19) ∧
 ∃ c20 : (Option Addr), w4.cell? ((p5.add 5).add 14) = some (.pointer c20) ∧
 ∃ c21 : (Option Addr), w4.cell? ((p5.add 5).add 15) = some (.pointer c21) ∧
 ∃ c22 : (Option Addr), w4.cell? ((p5.add 5).add 16) = some (.pointer c22) ∧
 ∃ c23 : (Option Addr), w4.cell? ((p5.add 5).add 17) = some (.pointer c23) ∧
 ∃ c24 : (Option Addr), w4.cell? ((p5.add 5).add 18) = some (.pointer c24) ∧
 ∃ c25 : (Option Addr), w4.cell? ((p5.add 5).add 19) = some (.pointer c25) ∧
 ∃ c26 : (Option Addr), w4.cell? ((p5.add 5).add 20) = some (.pointer c26) ∧
 ∃ c27 : (Option Addr), w4.cell? ((p5.add 5).add 21) = some (.pointer c27) ∧
 ∃ c28 : (Option Addr), w4.cell? ((p5.add 5).add 22) = some (.pointer c28) ∧
 ∃ c29 : (Option Addr), w4.cell? ((p5.add 5).add 23) = some (.pointer c29) ∧
 ∃ c30 : (Option Addr), w4.cell? ((p5.add 5).add 24) = some (.pointer c30) ∧
 ∃ c31 : (Option Addr), w4.cell? ((p5.add 5).add 25) = some (.pointer c31) ∧
 ∃ c32 : (Option Addr), w4.cell? ((p5.add 5).add 26) = some (.pointer c32) ∧
 ∃ c33 : (Option Addr), w4.cell? ((p5.add 5).add 27) = some (.pointer c33) ∧
 ∃ c34 : (Option Addr), w4.cell? ((p5.add 5).add 28) = some (.pointer c34) ∧
 ∃ c35 : (Option Addr), w4.cell? ((p5.add 5).add 29) = some (.pointer c35) ∧
 ∃ c36 : (Option Addr), w4.cell? ((p5.add 5).add 30) = some (.pointer c36) ∧
 ∃ c37 : (Option Addr), w4.cell? ((p5.add 5).add 31) = some (.pointer c37) ∧
 ∃ c38 : (Option Addr), w4.cell? ((p5.add 5).add 32) = some (.pointer c38) ∧
 ∃ c39 : (Option Addr), w4.cell? ((p5.add 5).add 33) = some (.pointer c39) ∧
 ∃ c40 : (Option Addr), w4.cell? ((p5.add 5).add 34) = some (.pointer c40) ∧
 ∃ c41 : (Option Addr), w4.cell? ((p5.add 5).add 35) = some (.pointer c41) ∧
 ∃ c42 : (Option Addr), w4.cell? ((p5.add 5).add 36) = some (.pointer c42) ∧
 ∃ c43 : (Option Addr), w4.cell? ((p5.add 5).add 37) = some (.pointer c43) ∧
 ∃ c44 : (Option Addr), w4.cell? ((p5.add 5).add 38) = some (.pointer c44) ∧
 ∃ c45 : (Option Addr), w4.cell? ((p5.add 5).add 39) = some (.pointer c45) ∧
 ∃ c46 : (Option Addr), w4.cell? ((p5.add 5).add 40) = some (.pointer c46) ∧
 ∃ c47 : (Option Addr), w4.cell? ((p5.add 5).add 41) = some (.pointer c47) ∧
 ∃ c48 : (Option Addr), w4.cell? ((p5.add 5).add 42) = some (.pointer c48) ∧
 ∃ c49 : (Option Addr), w4.cell? ((p5.add 5).add 43) = some (.pointer c49) ∧
 ∃ c50 : (Option Addr), w4.cell? ((p5.add 5).add 44) = some (.pointer c50) ∧
 ∃ c51 : (Option Addr), w4.cell? ((p5.add 5).add 45) = some (.pointer c51) ∧
 ∃ c52 : (Option Addr), w4.cell? ((p5.add 5).add 46) = some (.pointer c52) ∧
 ∃ c53 : (Option Addr), w4.cell? ((p5.add 5).add 47) = some (.pointer c53) ∧
 ∃ c54 : (Option Addr), w4.cell? ((p5.add 5).add 48) = some (.pointer c54) ∧
 ∃ c55 : (Option Addr), w4.cell? ((p5.add 5).add 49) = some (.pointer c55) ∧
 ∃ c56 : (Option Addr), w4.cell? ((p5.add 5).add 50) = some (.pointer c56) ∧
 ∃ c57 : (Option Addr), w4.cell? ((p5.add 5).add 51) = some (.pointer c57) ∧
 ∃ c58 : (Option Addr), w4.cell? ((p5.add 5).add 52) = some (.pointer c58) ∧
 ∃ c59 : (Option Addr), w4.cell? ((p5.add 5).add 53) = some (.pointer c59) ∧
 ∃ c60 : (Option Addr), w4.cell? ((p5.add 5).add 54) = some (.pointer c60) ∧
 ∃ c61 : (Option Addr), w4.cell? ((p5.add 5).add 55) = some (.pointer c61) ∧
 ∃ c62 : (Option Addr), w4.cell? ((p5.add 5).add 56) = some (.pointer c62) ∧
 ∃ c63 : (Option Addr), w4.cell? ((p5.add 5).add 57) = some (.pointer c63) ∧
 ∃ c64 : (Option Addr), w4.cell? ((p5.add 5).add 58) = some (.pointer c64) ∧
 ∃ c65 : (Option Addr), w4.cell? ((p5.add 5).add 59) = some (.pointer c65) ∧
 ∃ c66 : (Option Addr), w4.cell? ((p5.add 5).add 60) = some (.pointer c66) ∧
 ∃ c67 : (Option Addr), w4.cell? ((p5.add 5).add 61) = some (.pointer c67) ∧
 ∃ c68 : (Option Addr), w4.cell? ((p5.add 5).add 62) = some (.pointer c68) ∧
 ∃ c69 : (Option Addr), w4.cell? ((p5.add 5).add 63) = some (.pointer c69) ∧
 LOOP (Int × Int × Unit) (r3, 0, ()) w4 fun s70 _ w71 next72 =>
 CND (decide ((s70.2.1 : Int) < 64)) (
 ((0 : Int) ≤ s70.2.1 ∧ (s70.2.1 : Int) < (64 : Nat)) ∧
 F.pcache_Cache_Tell E (List.getD [c6, c7, c8, c9, c10, c11, c12, c13, c14, c15, c16, c17, c18, c19, c20, c21, c22, c23, c24, c25, c26, c27, c28, c29, c30, c31, c32, c33, c34, c35, c36, c37, c38, c39, c40, c41, c42, c43, c44, c45, c46, c47, c48, c49, c50, c51, c52, c53, c54, c55, c56, c57, c58, c59, c60, c61, c62, c63, c64, c65, c66, c67, c68, c69] (Int.toNat s70.2.1) none) (fun r73 r74 r75 w76 =>
 LOOP (Int × Int × Unit) (s70.1, r75, ()) w76 fun s77 _ w78 next79 =>
 CND ((s77.2.1 : Int) != 0) (
 LET (bitK .u64 0 s77.2.1 (u64 (s77.2.1 - 1)) : Int) fun r_80 =>
 next79 (u64 (s77.1 + 1), r_80, ()) w78
 ) (
 next72 (s77.1, i64 (s70.2.1 + 1), ()) w78
 )
 ) w71
 ) (
 NC a0 fun p81 =>
 ∃ x82 : (Option Addr), w71.drew.cell? (p81.add 2) = some (.pointer x82) ∧
 NC a0 fun p83 =>
 ∃ x84 : Int, w71.drew.cell? (p83.add 70) = some (.int .u64 x84) ∧
 F.arena_Map_Count E x82 (fun r85 w86 =>
 w86.cell? (p83.add 70) = some (.int .u64 x84) ∧
 K (u64 (r85 * 512)) x84 s70.1 w86
 ) w71.drew
 )
 ) w

def F.math_Float64frombits (E : Env) (a0 : Int) (K : Nat → World → Prop) (w : World) : Prop :=
 K (Int.toNat a0) w

def F.ratio_Times (E : Env) (a0 : Int) (a1 : Int) (K : Int → World → Prop) (w : World) : Prop :=
 F.math_Float64frombits E a1 (fun r1 w2 =>
 FRES (fArith .mul (fNear a0) r1) w2 fun x3 w4 =>
 CND ((fOrd x3 4895412794951729152 == some .gt || fOrd x3 4895412794951729152 == some .eq)) (
 K 18446744073709551615 w4
 ) (
 CND ((fOrd x3 4607182418800017408 == some .gt || fOrd x3 4607182418800017408 == some .eq)) (
 ∃ n5 : Int, fInt x3 = some n5 ∧ (IntKind.min .u64 ≤ n5 ∧ n5 ≤ IntKind.max .u64) ∧
 K n5 w4
 ) (
 K 0 w4
 )
 )
 ) w

def F.scav_Pacer_Want (E : Env) (a0 : (Option Addr)) (K : Int → World → Prop) (w : World) : Prop :=
 NC a0 fun p1 =>
 ∃ x2 : (Option Addr), w.cell? p1 = some (.pointer x2) ∧
 F.mheap_Heap_Pages E x2 (fun r3 r4 r5 w6 =>
 NC a0 fun p7 =>
 ∃ x8 : Int, w6.cell? (p7.add 1) = some (.int .u64 x8) ∧
 F.ratio_Times E r4 x8 (fun r9 w10 =>
 CND (decide (((u64 (r3 - r5)) : Int) ≤ (maxI r4 r9))) (
 K 0 w10
 ) (
 LET (u64 ((u64 (r3 - r5)) - (maxI r4 r9)) : Int) fun t11 =>
 K t11 w10
 )
 ) w6
 ) w

def F.radix_Tree_Scavenge (E : Env) (a0 : (Option Addr)) (a1 : Int) (K : Int → Int → World → Prop) (w : World) : Prop :=
 NC a0 fun p1 =>
 F.stretch_Set_All E (some (p1.add 6)) (fun r2 w3 =>
 JOIN (Bool × Unit) (fun J4 =>
 CND ((((r2.len : Nat) : Int) : Int) == 0) (
 J4 (true, ()) w3
 ) (
 J4 ((a1 : Int) == 0, ()) w3
 )
 ) fun s5 _ w6 =>
 CND (s5.1) (
 K 0 0 w6
 ) (
 NC r2.base fun p7 =>
 ((0 : Int) ≤ (i64 (((r2.len : Nat) : Int) - 1)) ∧ ((i64 (((r2.len : Nat) : Int) - 1)) : Int) < (r2.len : Nat)) ∧
 ∃ c8 : Int, w6.cell? ((p7.add (Int.toNat (i64 (((r2.len : Nat) : Int) - 1)) * 2)).add 0) = some (.int .u64 c8) ∧
 ∃ c9 : Int, w6.cell? ((p7.add (Int.toNat (i64 (((r2.len : Nat) : Int) - 1)) * 2)).add 1) = some (.int .u64 c9) ∧
 AL (.cells #[.int .u64 0, .int .u64 0] E.t_stretch_One) w6 fun b10 w11 =>
 stCells (Addr.mk b10 0 none) 0 [.int .u64 c8, .int .u64 c9] w11 fun w12 =>
 ∃ x13 : Int, w12.cell? (Addr.mk b10 0 none) = some (.int .u64 x13) ∧
 ∃ x14 : Int, w12.cell? ((Addr.mk b10 0 none).add 1) = some (.int .u64 x14) ∧
 512 ≠ (0 : Int) ∧
 LET (maxI x13 (u64 ((u64 (Int.tdiv (u64 (x14 - 1)) 512)) * 512)) : Int) fun from_15 =>
 ∃ x16 : Int, w12.cell? ((Addr.mk b10 0 none).add 1) = some (.int .u64 x16) ∧
 LET (minI (u64 (x16 - from_15)) a1 : Int) fun n_17 =>
 ∃ x18 : Int, w12.cell? ((Addr.mk b10 0 none).add 1) = some (.int .u64 x18) ∧
 NC a0 fun p19 =>
 F.stretch_Set_Cut E (some (p19.add 6)) (u64 (x18 - n_17)) (u64 ((u64 (x18 - n_17)) + n_17)) (fun  w20 =>
 NC a0 fun p21 =>
 F.stretch_Set_Add E (some (p21.add 4)) (u64 (x18 - n_17)) (u64 ((u64 (x18 - n_17)) + n_17)) (fun  w22 =>
 K (u64 (x18 - n_17)) n_17 w22
 ) w20
 ) w12
 )
 ) w

def F.vmem_forget_uint64_ (E : Env) (a0 : (Option Nat)) (a1 : Int) (a2 : Int) (K : World → Prop) (w : World) : Prop :=
 ∃ es1 : Array MapEntry, mapAt w a0 es1 ∧
 CND (decide (((u64 (((es1.size : Nat) : Int))) : Int) < (u64 (a2 - a1)))) (
 ∃ cl2, rngAt w a0 cl2 ∧
 AL (rngObj a0 cl2) w fun b3 w4 =>
 LOOP (Unit) (()) w4 fun s5 _ w6 next7 =>
 JOIN (Bool × Unit) (fun J8 =>
 NEXT b3 w6 (fun w11 =>
 J8 (false, ()) w11
 ) fun k13 v14 w12 =>
 J8 (true, ()) w12
 ) fun s9 _ w10 =>
 JOIN (Bool × Unit) (fun J15 =>
 CND (s9.1) (
 J15 (s9.1, ()) w10
 ) (
 K  w10
 )
 ) fun s16 _ w17 =>
 ENT b3 w17 fun k18 v19 S20 =>
 unInt .u64 k18 fun x21 =>
 JOIN (Bool × Unit) (fun J22 =>
 CND (decide ((x21 : Int) ≥ a1)) (
 J22 (decide ((x21 : Int) < a2), ()) w17
 ) (
 J22 (false, ()) w17
 )
 ) fun s23 _ w24 =>
 CND (s23.1) (
 MDEL .u64 x21 a0 w24 fun w25 =>
 next7 (()) w25
 ) (
 next7 (()) w24
 )
 ) (
 LOOP (Int × Unit) (a1, ()) w fun s26 _ w27 next28 =>
 CND (decide ((s26.1 : Int) < a2)) (
 MDEL .u64 s26.1 a0 w27 fun w29 =>
 next28 (u64 (s26.1 + 1), ()) w29
 ) (
 K  w27
 )
 )

def F.vmem_forget___1024_uint64_ (E : Env) (a0 : (Option Nat)) (a1 : Int) (a2 : Int) (K : World → Prop) (w : World) : Prop :=
 ∃ es1 : Array MapEntry, mapAt w a0 es1 ∧
 CND (decide (((u64 (((es1.size : Nat) : Int))) : Int) < (u64 (a2 - a1)))) (
 ∃ cl2, rngAt w a0 cl2 ∧
 AL (rngObj a0 cl2) w fun b3 w4 =>
 LOOP (Unit) (()) w4 fun s5 _ w6 next7 =>
 JOIN (Bool × Unit) (fun J8 =>
 NEXT b3 w6 (fun w11 =>
 J8 (false, ()) w11
 ) fun k13 v14 w12 =>
 J8 (true, ()) w12
 ) fun s9 _ w10 =>
 JOIN (Bool × Unit) (fun J15 =>
 CND (s9.1) (
 J15 (s9.1, ()) w10
 ) (
 K  w10
 )
 ) fun s16 _ w17 =>
 ENT b3 w17 fun k18 v19 S20 =>
 unInt .u64 k18 fun x21 =>
 JOIN (Bool × Unit) (fun J22 =>
 CND (decide ((x21 : Int) ≥ a1)) (
 J22 (decide ((x21 : Int) < a2), ()) w17
 ) (
 J22 (false, ()) w17
 )
 ) fun s23 _ w24 =>
 CND (s23.1) (
 MDEL .u64 x21 a0 w24 fun w25 =>
 next7 (()) w25
 ) (
 next7 (()) w24
 )
 ) (
 LOOP (Int × Unit) (a1, ()) w fun s26 _ w27 next28 =>
 CND (decide ((s26.1 : Int) < a2)) (
 MDEL .u64 s26.1 a0 w27 fun w29 =>
 next28 (u64 (s26.1 + 1), ()) w29
 ) (
 K  w27
 )
 )

def F.vmem_Mem_Release (E : Env) (a0 : (Option Addr)) (a1 : Int) (a2 : Int) (K : Int → World → Prop) (w : World) : Prop :=
 F.vmem_right E a1 a2 (fun r1 w2 =>
 CND (!r1) (
 K 1 w2
 ) (
 NC a0 fun p3 =>
 F.stretch_Set_Count E (some (p3.add 5)) a1 (u64 (a1 + a2)) (fun r4 w5 =>
 CND ((r4 : Int) != a2) (
 K 33 w5
 ) (
 NC a0 fun p6 =>
 F.stretch_Set_Cut E (some (p6.add 5)) a1 (u64 (a1 + a2)) (fun  w7 =>
 NC a0 fun p8 =>
 F.stretch_Set_Add E (some (p8.add 7)) a1 (u64 (a1 + a2)) (fun  w9 =>
 NC a0 fun p10 =>
 ∃ x11 : (Option Nat), w9.cell? (p10.add 9) = some (.map x11) ∧
 F.vmem_forget_uint64_ E x11 a1 (u64 (a1 + a2)) (fun  w12 =>
 NC a0 fun p13 =>
 ∃ x14 : (Option Nat), w12.cell? (p13.add 10) = some (.map x14) ∧
 F.vmem_forget___1024_uint64_ E x14 a1 (u64 (a1 + a2)) (fun  w15 =>
 K 0 w15
 ) w12
 ) w9
 ) w7
 ) w5
 )
 ) w2
 )
 ) w

def F.mheap_Heap_Scavenge (E : Env) (a0 : (Option Addr)) (a1 : Int) (K : Int → World → Prop) (w : World) : Prop :=
 LOOP (Int × Unit) (a1, ()) w fun s1 _ w2 next3 =>
 CND (decide ((s1.1 : Int) > 0)) (
 NC a0 fun p4 =>
 ∃ x5 : (Option Addr), w2.cell? (p4.add 1) = some (.pointer x5) ∧
 F.radix_Tree_Scavenge E x5 s1.1 (fun r6 r7 w8 =>
 CND ((r7 : Int) == 0) (
 K (u64 (a1 - s1.1)) w8
 ) (
 NC a0 fun p9 =>
 ∃ x10 : (Option Addr), w8.cell? p9 = some (.pointer x10) ∧
 F.vmem_Mem_Release E x10 r6 r7 (fun r11 w12 =>
 next3 (u64 (s1.1 - r7), ()) w12
 ) w8
 )
 ) w2
 ) (
 K (u64 (a1 - s1.1)) w2
 )

def F.scav_Pacer_Step (E : Env) (a0 : (Option Addr)) (a1 : Int) (K : Int → World → Prop) (w : World) : Prop :=
 NC a0 fun p1 =>
 ∃ x2 : (Option Addr), w.drew.cell? p1 = some (.pointer x2) ∧
 F.scav_Pacer_Want E a0 (fun r3 w4 =>
 w4.cell? p1 = some (.pointer x2) ∧
 F.mheap_Heap_Scavenge E x2 (minI r3 a1) (fun r5 w6 =>
 K r5 w6
 ) w4
 ) w.drew

def F.scav_Pacer_Limit (E : Env) (a0 : (Option Addr)) (a1 : Int) (K : Int → World → Prop) (w : World) : Prop :=
 NC a0 fun p1 =>
 ∃ x2 : (Option Addr), w.cell? p1 = some (.pointer x2) ∧
 F.mheap_Heap_Pages E x2 (fun r3 r4 r5 w6 =>
 LET (u64 ((u64 (r3 - r5)) * 8192) : Int) fun has_7 =>
 CND (decide ((has_7 : Int) ≤ a1)) (
 K 0 w6
 ) (
 NC a0 fun p8 =>
 ∃ x9 : (Option Addr), w6.cell? p8 = some (.pointer x9) ∧
 8192 ≠ (0 : Int) ∧
 F.mheap_Heap_Scavenge E x9 (u64 (Int.tdiv (u64 ((u64 ((u64 (has_7 - a1)) + 8192)) - 1)) 8192)) (fun r10 w11 =>
 K r10 w11
 ) w6
 )
 ) w

def F.mallowlaw22_awake (E : Env)  (K : Bool → World → Prop) (w : World) : Prop :=
 F.mallowlaw22_fresh E ⟨none, 0, 0⟩ ⟨none, 0, 0⟩ ⟨none, 0, 0⟩ (fun r1 w2 =>
 CND (r1.isNone) (
 K false w2
 ) (
 F.mheap_Heap_Alloc E r1 (-1) 100 0 false (fun r3 r4 w5 =>
 F.mheap_Heap_Alloc E r1 (-1) 1 0 false (fun r6 r7 w8 =>
 JOIN (Bool × Unit) (fun J9 =>
 CND ((r4 : Int) != 0) (
 J9 (true, ()) w8
 ) (
 CND ((r7 : Int) != 0) (
 J9 (true, ()) w8
 ) (
 F.mheap_Heap_Free E r1 r3 (fun r12 w13 =>
 J9 ((r12 : Int) != 0, ()) w13
 ) w8
 )
 )
 ) fun s10 _ w11 =>
 CND (s10.1) (
 K false w11
 ) (
 F.scav_New E r1 4607632778762754458 (fun r14 w15 =>
 CND (!r14.isNone) (
 F.scav_Pacer_Want E r14 (fun r16 w17 =>
 CND ((r16 : Int) == 100) (
 F.scav_Pacer_Step E r14 16 (fun r18 w19 =>
 CND ((r18 : Int) == 16) (
 F.scav_Pacer_Want E r14 (fun r20 w21 =>
 CND ((r20 : Int) == 84) (
 F.scav_Pacer_Limit E r14 0 (fun r22 w23 =>
 K ((r22 : Int) == 84) w23
 ) w21
 ) (
 K false w21
 )
 ) w19
 ) (
 K false w19
 )
 ) w17
 ) (
 K false w17
 )
 ) w15
 ) (
 K false w15
 )
 ) w11
 )
 ) w5
 ) w2
 )
 ) w

def F.mallowlaw22_ScavRates (E : Env) (a0 : Int) (a1 : Int) (a2 : Int) (K : Bool → World → Prop) (w : World) : Prop :=
 JOIN (Bool × Unit) (fun J1 =>
 CND (decide ((a0 : Int) < 1)) (
 J1 (true, ()) w
 ) (
 CND (decide ((a0 : Int) > 300)) (
 J1 (true, ()) w
 ) (
 J1 (decide ((a1 : Int) > 300), ()) w
 )
 )
 ) fun s2 _ w3 =>
 CND (s2.1) (
 K true w3
 ) (
 F.mallowlaw22_fresh E ⟨none, 0, 0⟩ ⟨none, 0, 0⟩ ⟨none, 0, 0⟩ (fun r4 w5 =>
 CND (r4.isNone) (
 K false w5
 ) (
 F.mheap_Heap_Alloc E r4 (-1) a0 0 false (fun r6 r7 w8 =>
 CND ((r7 : Int) != 0) (
 K false w8
 ) (
 JOIN (Unit) (fun J9 =>
 CND (decide ((a1 : Int) > 0)) (
 F.mheap_Heap_Alloc E r4 (-1) a1 0 false (fun r12 r13 w14 =>
 JOIN (Bool × Unit) (fun J15 =>
 CND ((r13 : Int) != 0) (
 J15 (true, ()) w14
 ) (
 F.mheap_Heap_Free E r4 r12 (fun r18 w19 =>
 J15 ((r18 : Int) != 0, ()) w19
 ) w14
 )
 ) fun s16 _ w17 =>
 CND (s16.1) (
 K false w17
 ) (
 J9 (()) w17
 )
 ) w8
 ) (
 J9 (()) w8
 )
 ) fun s10 _ w11 =>
 F.scav_New E r4 a2 (fun r20 w21 =>
 CND (r20.isNone) (
 K false w21
 ) (
 F.scav_Pacer_Want E r20 (fun r22 w23 =>
 JOIN (Bool × Unit) (fun J24 =>
 CND (decide ((a2 : Int) > 9223372036854775808)) (
 J24 (decide ((a2 : Int) > 9223372036854775808), ()) w23
 ) (
 CND (decide (((bitK .u64 0 a2 9223372036854775807) : Int) > 9218868437227405312)) (
 J24 (decide (((bitK .u64 0 a2 9223372036854775807) : Int) > 9218868437227405312), ()) w23
 ) (
 J24 (decide ((a2 : Int) ≤ 4607182418800017408), ()) w23
 )
 )
 ) fun s25 _ w26 =>
 CND (s25.1) (
 CND ((r22 : Int) == a1) (
 F.mallowlaw22_awake E  (fun r27 w28 =>
 K r27 w28
 ) w26
 ) (
 K false w26
 )
 ) (
 CND ((a2 : Int) == 9218868437227405312) (
 CND ((r22 : Int) == 0) (
 F.mallowlaw22_awake E  (fun r29 w30 =>
 K r29 w30
 ) w26
 ) (
 K false w26
 )
 ) (
 CND ((a2 : Int) == 4611686018427387904) (
 CND (((u64 (r22 + a0)) : Int) == a1) (
 CND (decide ((a1 : Int) > a0)) (
 K true w26
 ) (
 CND ((r22 : Int) == 0) (
 CND (decide ((a1 : Int) ≤ a0)) (
 F.mallowlaw22_awake E  (fun r31 w32 =>
 K r31 w32
 ) w26
 ) (
 K false w26
 )
 ) (
 K false w26
 )
 )
 ) (
 CND ((r22 : Int) == 0) (
 CND (decide ((a1 : Int) ≤ a0)) (
 F.mallowlaw22_awake E  (fun r33 w34 =>
 K r33 w34
 ) w26
 ) (
 K false w26
 )
 ) (
 K false w26
 )
 )
 ) (
 CND (decide ((r22 : Int) ≤ a1)) (
 F.mallowlaw22_awake E  (fun r35 w36 =>
 K r35 w36
 ) w26
 ) (
 K false w26
 )
 )
 )
 )
 ) w21
 )
 ) w11
 )
 ) w5
 )
 ) w3
 )

def F.arena_Map_whole (E : Env) (a0 : (Option Addr)) (a1 : Int) (K : Int → World → Prop) (w : World) : Prop :=
 NC a0 fun p1 =>
 ∃ x2 : SlV, w.cell? (p1.add 2) = some (.slice x2.base x2.len x2.cap) ∧
 LOOP (Int × Unit) (0, ()) w fun s3 _ w4 next5 =>
 CND (decide ((s3.1 : Int) < ((x2.len : Nat) : Int))) (
 NC x2.base fun p6 =>
 ((0 : Int) ≤ s3.1 ∧ (s3.1 : Int) < (x2.len : Nat)) ∧
 ∃ c7 : Int, w4.cell? ((p6.add (Int.toNat s3.1 * 3)).add 0) = some (.int .u64 c7) ∧
 ∃ c8 : Int, w4.cell? ((p6.add (Int.toNat s3.1 * 3)).add 1) = some (.int .u64 c8) ∧
 ∃ c9 : Int, w4.cell? ((p6.add (Int.toNat s3.1 * 3)).add 2) = some (.int .i64 c9) ∧
 AL (.cells #[.int .u64 0, .int .u64 0, .int .i64 0] E.t_arena_wide) w4 fun b10 w11 =>
 stCells (Addr.mk b10 0 none) 0 [.int .u64 c7, .int .u64 c8, .int .i64 c9] w11 fun w12 =>
 JOIN (Bool × Unit) (fun J13 =>
 ∃ x16 : Int, w12.cell? (Addr.mk b10 0 none) = some (.int .u64 x16) ∧
 CND (decide ((a1 : Int) ≥ x16)) (
 ∃ x17 : Int, w12.cell? ((Addr.mk b10 0 none).add 1) = some (.int .u64 x17) ∧
 J13 (decide ((a1 : Int) < x17), ()) w12
 ) (
 J13 (false, ()) w12
 )
 ) fun s14 _ w15 =>
 CND (s14.1) (
 ∃ x18 : Int, w15.cell? ((Addr.mk b10 0 none).add 2) = some (.int .i64 x18) ∧
 K x18 w15
 ) (
 next5 (i64 (s3.1 + 1), ()) w15
 )
 ) (
 K 0 w4
 )

def F.arena_Map_leaf (E : Env) (a0 : (Option Addr)) (a1 : Int) (K : (Option Addr) → World → Prop) (w : World) : Prop :=
 NC a0 fun p1 =>
 ∃ x2 : (Option Nat), w.cell? (p1.add 3) = some (.map x2) ∧
 LKP .u64 a1 x2 w (.pointer none) fun v3 ok4 es5 =>
 ∃ x6 : (Option Addr), v3 = .pointer x6 ∧
 CND (x6.isNone) (
 F.arena_Map_whole E a0 a1 (fun r7 w8 =>
 F.arena_Map_cut E a0 a1 (u64 (a1 + 1)) (fun  w9 =>
 AL (.cells (Array.replicate 512 (.int .i64 0)) E.t__512_int) w9 fun b10 w11 =>
 LOOP (Int × Unit) (0, ()) w11 fun s12 _ w13 next14 =>
 CND (decide ((s12.1 : Int) < 512)) (
 ((0 : Int) ≤ s12.1 ∧ (s12.1 : Int) < (512 : Nat)) ∧
 stCells ((Addr.mk b10 0 none).add (Int.toNat s12.1 * 1)) 0 [.int .i64 r7] w13 fun w15 =>
 next14 (i64 (s12.1 + 1), ()) w15
 ) (
 NC a0 fun p16 =>
 ∃ x17 : (Option Nat), w13.cell? (p16.add 3) = some (.map x17) ∧
 MUPD .u64 a1 (.pointer (some (Addr.mk b10 0 none))) x17 w13 fun w18 =>
 K (some (Addr.mk b10 0 none)) w18
 )
 ) w8
 ) w
 ) (
 K x6 w
 )

def F.arena_Map_Set_1 (E : Env) (a0 : Int) (a1 : Int) (a2 : (Option Addr)) (a3 : (Option Addr)) (K : World → Prop) (w : World) : Prop :=
 LOOP (Int × Unit) (a0, ()) w fun s1 _ w2 next3 =>
 CND (decide ((s1.1 : Int) < a1)) (
 NC a3 fun p4 =>
 ∃ x5 : (Option Addr), w2.drew.cell? p4 = some (.pointer x5) ∧
 512 ≠ (0 : Int) ∧
 512 ≠ (0 : Int) ∧
 NC a2 fun p6 =>
 ∃ x7 : Int, w2.drew.cell? p6 = some (.int .i64 x7) ∧
 F.arena_Map_leaf E x5 (u64 (Int.tdiv s1.1 512)) (fun r8 w9 =>
 w9.cell? p6 = some (.int .i64 x7) ∧
 NC r8 fun p10 =>
 ((0 : Int) ≤ (Int.tmod s1.1 512) ∧ ((Int.tmod s1.1 512) : Int) < (512 : Nat)) ∧
 stCells (p10.add (Int.toNat (Int.tmod s1.1 512) * 1)) 0 [.int .i64 x7] w9 fun w11 =>
 next3 (u64 (s1.1 + 1), ()) w11
 ) w2.drew
 ) (
 K  w2
 )

def F.stretch_Set_at_1 (E : Env) (a0 : Int) (a1 : (Option Addr)) (a2 : (Option Addr)) (K : Bool → World → Prop) (w : World) : Prop :=
 NC a1 fun p1 =>
 ∃ x2 : (Option Addr), w.drew.cell? p1 = some (.pointer x2) ∧
 NC x2 fun p3 =>
 ∃ x4 : SlV, w.drew.cell? p3 = some (.slice x4.base x4.len x4.cap) ∧
 NC x4.base fun p5 =>
 ((0 : Int) ≤ a0 ∧ (a0 : Int) < (x4.len : Nat)) ∧
 ∃ x6 : Int, w.drew.cell? ((p5.add (Int.toNat a0 * 2)).add 1) = some (.int .u64 x6) ∧
 NC a2 fun p7 =>
 ∃ x8 : Int, w.drew.cell? p7 = some (.int .u64 x8) ∧
 K (decide ((x6 : Int) > x8)) w.drew

end Go.Sh

