/- The shallow forms of the functions, printed by a program. No further condition. -/
import Derived.Test.YtcmlamembchcdaaGreatDoorSh
set_option linter.all false
set_option maxRecDepth 100000
namespace Go.Sh

structure Env where
 call : Calling
 t_uint64 : Nat
 t_bool : Nat
 t_api_Answers : Nat
 t_vmem_Mem : Nat
 t_map_uint64_api_Sum : Nat
 t_radix_Tree : Nat
 t_arena_Map : Nat
 t_fix_Fix : Nat
 t_pcache_Cache : Nat
 t_mheap_Heap : Nat
 t_stack_Stacks : Nat
 t_api_Info : Nat
 t_span_Span : Nat
 t_stretch_One : Nat
 t__stretch_Set : Nat
 t__mheap_Heap : Nat
 t_api_Errno : Nat
 t_fix_record : Nat
 t__fix_record : Nat
 t_arena_wide : Nat
 t__arena_Map : Nat
 t_int : Nat
 t_slices_xorshift : Nat
 t_vmem_fault : Nat
 t__1024_uint64 : Nat
 t__512_int : Nat
 f_stretch_Set_at_1 : Nat
 f_arena_Map_Set_1 : Nat
 f_mheap_Heap_Spans_1 : Nat
 g_math_bits_deBruijn64tab : Nat

def F.slices_Clone___uint64_uint64_ (E : Env) (a0 : SlV) (K : SlV → World → Prop) (w : World) : Prop :=
 CND (a0.base.isNone) (
 K ⟨none, 0, 0⟩ w
 ) (
 AL (.cells ⟨[]⟩ E.t_uint64) w fun b1 w2 =>
 APP E.t_uint64 1 8 #[.int .u64 0] ⟨(some (Addr.mk b1 0 none)), 0, 0⟩ a0 w2 fun s3 w4 =>
 K s3 w4
 )

def F.slices_Clone___bool_bool_ (E : Env) (a0 : SlV) (K : SlV → World → Prop) (w : World) : Prop :=
 CND (a0.base.isNone) (
 K ⟨none, 0, 0⟩ w
 ) (
 AL (.cells ⟨[]⟩ E.t_bool) w fun b1 w2 =>
 APP E.t_bool 1 1 #[.bool false] ⟨(some (Addr.mk b1 0 none)), 0, 0⟩ a0 w2 fun s3 w4 =>
 K s3 w4
 )

def F.vmem_New (E : Env) (a0_0 : SlV) (a0_1 : SlV) (a0_2 : SlV) (K : (Option Addr) → World → Prop) (w : World) : Prop :=
 AL (.cells #[.slice a0_0.base a0_0.len a0_0.cap, .slice a0_1.base a0_1.len a0_1.cap, .slice a0_2.base a0_2.len a0_2.cap] E.t_api_Answers) w fun b1 w2 =>
 ∃ x3 : SlV, w2.drew.cell? (Addr.mk b1 0 none) = some (.slice x3.base x3.len x3.cap) ∧
 ∃ x4 : SlV, w2.drew.cell? ((Addr.mk b1 0 none).add 1) = some (.slice x4.base x4.len x4.cap) ∧
 ∃ x5 : SlV, w2.drew.cell? ((Addr.mk b1 0 none).add 2) = some (.slice x5.base x5.len x5.cap) ∧
 (
 F.slices_Clone___uint64_uint64_ E x3 (fun r6 w7 =>
 w7.cell? ((Addr.mk b1 0 none).add 2) = some (.slice x5.base x5.len x5.cap) ∧
 w7.cell? ((Addr.mk b1 0 none).add 1) = some (.slice x4.base x4.len x4.cap) ∧
 (
 F.slices_Clone___bool_bool_ E x4 (fun r8 w9 =>
 w9.cell? ((Addr.mk b1 0 none).add 2) = some (.slice x5.base x5.len x5.cap) ∧
 (
 F.slices_Clone___uint64_uint64_ E x5 (fun r10 w11 =>
 (
 AL (.map #[] 0) w11 fun b12 w13 =>
 AL (.map #[] 0) w13 fun b14 w15 =>
 AL (.cells #[.slice r6.base r6.len r6.cap, .slice r8.base r8.len r8.cap, .slice r10.base r10.len r10.cap, .slice none 0 0, .int .u64 0, .slice none 0 0, .int .u64 0, .slice none 0 0, .int .u64 0, .map (some b12), .map (some b14)] E.t_vmem_Mem) w15 fun b16 w17 =>
 K (some (Addr.mk b16 0 none)) w17

 ) ∧ (
 AL (.map #[] 0) w11 fun b18 w19 =>
 AL (.map #[] 0) w19 fun b20 w21 =>
 AL (.cells #[.slice r6.base r6.len r6.cap, .slice r8.base r8.len r8.cap, .slice r10.base r10.len r10.cap, .slice none 0 0, .int .u64 0, .slice none 0 0, .int .u64 0, .slice none 0 0, .int .u64 0, .map (some b20), .map (some b18)] E.t_vmem_Mem) w21 fun b22 w23 =>
 K (some (Addr.mk b22 0 none)) w23
 )
 ) w9

 ) ∧ (
 AL (.map #[] 0) w9 fun b24 w25 =>
 w25.cell? ((Addr.mk b1 0 none).add 2) = some (.slice x5.base x5.len x5.cap) ∧
 (
 F.slices_Clone___uint64_uint64_ E x5 (fun r26 w27 =>
 AL (.map #[] 0) w27 fun b28 w29 =>
 AL (.cells #[.slice r6.base r6.len r6.cap, .slice r8.base r8.len r8.cap, .slice r26.base r26.len r26.cap, .slice none 0 0, .int .u64 0, .slice none 0 0, .int .u64 0, .slice none 0 0, .int .u64 0, .map (some b24), .map (some b28)] E.t_vmem_Mem) w29 fun b30 w31 =>
 K (some (Addr.mk b30 0 none)) w31
 ) w25

 ) ∧ (
 AL (.map #[] 0) w25 fun b32 w33 =>
 w33.cell? ((Addr.mk b1 0 none).add 2) = some (.slice x5.base x5.len x5.cap) ∧
 F.slices_Clone___uint64_uint64_ E x5 (fun r34 w35 =>
 AL (.cells #[.slice r6.base r6.len r6.cap, .slice r8.base r8.len r8.cap, .slice r34.base r34.len r34.cap, .slice none 0 0, .int .u64 0, .slice none 0 0, .int .u64 0, .slice none 0 0, .int .u64 0, .map (some b24), .map (some b32)] E.t_vmem_Mem) w35 fun b36 w37 =>
 K (some (Addr.mk b36 0 none)) w37
 ) w33
 )

 ) ∧ (
 AL (.map #[] 0) w9 fun b38 w39 =>
 w39.cell? ((Addr.mk b1 0 none).add 2) = some (.slice x5.base x5.len x5.cap) ∧
 (
 F.slices_Clone___uint64_uint64_ E x5 (fun r40 w41 =>
 AL (.map #[] 0) w41 fun b42 w43 =>
 AL (.cells #[.slice r6.base r6.len r6.cap, .slice r8.base r8.len r8.cap, .slice r40.base r40.len r40.cap, .slice none 0 0, .int .u64 0, .slice none 0 0, .int .u64 0, .slice none 0 0, .int .u64 0, .map (some b42), .map (some b38)] E.t_vmem_Mem) w43 fun b44 w45 =>
 K (some (Addr.mk b44 0 none)) w45
 ) w39

 ) ∧ (
 AL (.map #[] 0) w39 fun b46 w47 =>
 w47.cell? ((Addr.mk b1 0 none).add 2) = some (.slice x5.base x5.len x5.cap) ∧
 F.slices_Clone___uint64_uint64_ E x5 (fun r48 w49 =>
 AL (.cells #[.slice r6.base r6.len r6.cap, .slice r8.base r8.len r8.cap, .slice r48.base r48.len r48.cap, .slice none 0 0, .int .u64 0, .slice none 0 0, .int .u64 0, .slice none 0 0, .int .u64 0, .map (some b46), .map (some b38)] E.t_vmem_Mem) w49 fun b50 w51 =>
 K (some (Addr.mk b50 0 none)) w51
 ) w47
 )
 )
 ) w7

 ) ∧ (
 AL (.map #[] 0) w7 fun b52 w53 =>
 w53.cell? ((Addr.mk b1 0 none).add 2) = some (.slice x5.base x5.len x5.cap) ∧
 w53.cell? ((Addr.mk b1 0 none).add 1) = some (.slice x4.base x4.len x4.cap) ∧
 (
 F.slices_Clone___bool_bool_ E x4 (fun r54 w55 =>
 w55.cell? ((Addr.mk b1 0 none).add 2) = some (.slice x5.base x5.len x5.cap) ∧
 (
 F.slices_Clone___uint64_uint64_ E x5 (fun r56 w57 =>
 AL (.map #[] 0) w57 fun b58 w59 =>
 AL (.cells #[.slice r6.base r6.len r6.cap, .slice r54.base r54.len r54.cap, .slice r56.base r56.len r56.cap, .slice none 0 0, .int .u64 0, .slice none 0 0, .int .u64 0, .slice none 0 0, .int .u64 0, .map (some b52), .map (some b58)] E.t_vmem_Mem) w59 fun b60 w61 =>
 K (some (Addr.mk b60 0 none)) w61
 ) w55

 ) ∧ (
 AL (.map #[] 0) w55 fun b62 w63 =>
 w63.cell? ((Addr.mk b1 0 none).add 2) = some (.slice x5.base x5.len x5.cap) ∧
 F.slices_Clone___uint64_uint64_ E x5 (fun r64 w65 =>
 AL (.cells #[.slice r6.base r6.len r6.cap, .slice r54.base r54.len r54.cap, .slice r64.base r64.len r64.cap, .slice none 0 0, .int .u64 0, .slice none 0 0, .int .u64 0, .slice none 0 0, .int .u64 0, .map (some b52), .map (some b62)] E.t_vmem_Mem) w65 fun b66 w67 =>
 K (some (Addr.mk b66 0 none)) w67
 ) w63
 )
 ) w53

 ) ∧ (
 AL (.map #[] 0) w53 fun b68 w69 =>
 w69.cell? ((Addr.mk b1 0 none).add 2) = some (.slice x5.base x5.len x5.cap) ∧
 w69.cell? ((Addr.mk b1 0 none).add 1) = some (.slice x4.base x4.len x4.cap) ∧
 F.slices_Clone___bool_bool_ E x4 (fun r70 w71 =>
 w71.cell? ((Addr.mk b1 0 none).add 2) = some (.slice x5.base x5.len x5.cap) ∧
 F.slices_Clone___uint64_uint64_ E x5 (fun r72 w73 =>
 AL (.cells #[.slice r6.base r6.len r6.cap, .slice r70.base r70.len r70.cap, .slice r72.base r72.len r72.cap, .slice none 0 0, .int .u64 0, .slice none 0 0, .int .u64 0, .slice none 0 0, .int .u64 0, .map (some b52), .map (some b68)] E.t_vmem_Mem) w73 fun b74 w75 =>
 K (some (Addr.mk b74 0 none)) w75
 ) w71
 ) w69
 )

 ) ∧ (
 AL (.map #[] 0) w7 fun b76 w77 =>
 w77.cell? ((Addr.mk b1 0 none).add 2) = some (.slice x5.base x5.len x5.cap) ∧
 w77.cell? ((Addr.mk b1 0 none).add 1) = some (.slice x4.base x4.len x4.cap) ∧
 (
 F.slices_Clone___bool_bool_ E x4 (fun r78 w79 =>
 w79.cell? ((Addr.mk b1 0 none).add 2) = some (.slice x5.base x5.len x5.cap) ∧
 (
 F.slices_Clone___uint64_uint64_ E x5 (fun r80 w81 =>
 AL (.map #[] 0) w81 fun b82 w83 =>
 AL (.cells #[.slice r6.base r6.len r6.cap, .slice r78.base r78.len r78.cap, .slice r80.base r80.len r80.cap, .slice none 0 0, .int .u64 0, .slice none 0 0, .int .u64 0, .slice none 0 0, .int .u64 0, .map (some b82), .map (some b76)] E.t_vmem_Mem) w83 fun b84 w85 =>
 K (some (Addr.mk b84 0 none)) w85
 ) w79

 ) ∧ (
 AL (.map #[] 0) w79 fun b86 w87 =>
 w87.cell? ((Addr.mk b1 0 none).add 2) = some (.slice x5.base x5.len x5.cap) ∧
 F.slices_Clone___uint64_uint64_ E x5 (fun r88 w89 =>
 AL (.cells #[.slice r6.base r6.len r6.cap, .slice r78.base r78.len r78.cap, .slice r88.base r88.len r88.cap, .slice none 0 0, .int .u64 0, .slice none 0 0, .int .u64 0, .slice none 0 0, .int .u64 0, .map (some b86), .map (some b76)] E.t_vmem_Mem) w89 fun b90 w91 =>
 K (some (Addr.mk b90 0 none)) w91
 ) w87
 )
 ) w77

 ) ∧ (
 AL (.map #[] 0) w77 fun b92 w93 =>
 w93.cell? ((Addr.mk b1 0 none).add 2) = some (.slice x5.base x5.len x5.cap) ∧
 w93.cell? ((Addr.mk b1 0 none).add 1) = some (.slice x4.base x4.len x4.cap) ∧
 F.slices_Clone___bool_bool_ E x4 (fun r94 w95 =>
 w95.cell? ((Addr.mk b1 0 none).add 2) = some (.slice x5.base x5.len x5.cap) ∧
 F.slices_Clone___uint64_uint64_ E x5 (fun r96 w97 =>
 AL (.cells #[.slice r6.base r6.len r6.cap, .slice r94.base r94.len r94.cap, .slice r96.base r96.len r96.cap, .slice none 0 0, .int .u64 0, .slice none 0 0, .int .u64 0, .slice none 0 0, .int .u64 0, .map (some b92), .map (some b76)] E.t_vmem_Mem) w97 fun b98 w99 =>
 K (some (Addr.mk b98 0 none)) w99
 ) w95
 ) w93
 )
 )
 ) w2.drew

 ) ∧ (
 AL (.map #[] 0) w2.drew fun b100 w101 =>
 w101.cell? ((Addr.mk b1 0 none).add 2) = some (.slice x5.base x5.len x5.cap) ∧
 w101.cell? ((Addr.mk b1 0 none).add 1) = some (.slice x4.base x4.len x4.cap) ∧
 w101.cell? (Addr.mk b1 0 none) = some (.slice x3.base x3.len x3.cap) ∧
 (
 F.slices_Clone___uint64_uint64_ E x3 (fun r102 w103 =>
 w103.cell? ((Addr.mk b1 0 none).add 2) = some (.slice x5.base x5.len x5.cap) ∧
 w103.cell? ((Addr.mk b1 0 none).add 1) = some (.slice x4.base x4.len x4.cap) ∧
 (
 F.slices_Clone___bool_bool_ E x4 (fun r104 w105 =>
 w105.cell? ((Addr.mk b1 0 none).add 2) = some (.slice x5.base x5.len x5.cap) ∧
 (
 F.slices_Clone___uint64_uint64_ E x5 (fun r106 w107 =>
 AL (.map #[] 0) w107 fun b108 w109 =>
 AL (.cells #[.slice r102.base r102.len r102.cap, .slice r104.base r104.len r104.cap, .slice r106.base r106.len r106.cap, .slice none 0 0, .int .u64 0, .slice none 0 0, .int .u64 0, .slice none 0 0, .int .u64 0, .map (some b100), .map (some b108)] E.t_vmem_Mem) w109 fun b110 w111 =>
 K (some (Addr.mk b110 0 none)) w111
 ) w105

 ) ∧ (
 AL (.map #[] 0) w105 fun b112 w113 =>
 w113.cell? ((Addr.mk b1 0 none).add 2) = some (.slice x5.base x5.len x5.cap) ∧
 F.slices_Clone___uint64_uint64_ E x5 (fun r114 w115 =>
 AL (.cells #[.slice r102.base r102.len r102.cap, .slice r104.base r104.len r104.cap, .slice r114.base r114.len r114.cap, .slice none 0 0, .int .u64 0, .slice none 0 0, .int .u64 0, .slice none 0 0, .int .u64 0, .map (some b100), .map (some b112)] E.t_vmem_Mem) w115 fun b116 w117 =>
 K (some (Addr.mk b116 0 none)) w117
 ) w113
 )
 ) w103

 ) ∧ (
 AL (.map #[] 0) w103 fun b118 w119 =>
 w119.cell? ((Addr.mk b1 0 none).add 2) = some (.slice x5.base x5.len x5.cap) ∧
 w119.cell? ((Addr.mk b1 0 none).add 1) = some (.slice x4.base x4.len x4.cap) ∧
 F.slices_Clone___bool_bool_ E x4 (fun r120 w121 =>
 w121.cell? ((Addr.mk b1 0 none).add 2) = some (.slice x5.base x5.len x5.cap) ∧
 F.slices_Clone___uint64_uint64_ E x5 (fun r122 w123 =>
 AL (.cells #[.slice r102.base r102.len r102.cap, .slice r120.base r120.len r120.cap, .slice r122.base r122.len r122.cap, .slice none 0 0, .int .u64 0, .slice none 0 0, .int .u64 0, .slice none 0 0, .int .u64 0, .map (some b100), .map (some b118)] E.t_vmem_Mem) w123 fun b124 w125 =>
 K (some (Addr.mk b124 0 none)) w125
 ) w121
 ) w119
 )
 ) w101

 ) ∧ (
 AL (.map #[] 0) w101 fun b126 w127 =>
 w127.cell? ((Addr.mk b1 0 none).add 2) = some (.slice x5.base x5.len x5.cap) ∧
 w127.cell? ((Addr.mk b1 0 none).add 1) = some (.slice x4.base x4.len x4.cap) ∧
 w127.cell? (Addr.mk b1 0 none) = some (.slice x3.base x3.len x3.cap) ∧
 F.slices_Clone___uint64_uint64_ E x3 (fun r128 w129 =>
 w129.cell? ((Addr.mk b1 0 none).add 2) = some (.slice x5.base x5.len x5.cap) ∧
 w129.cell? ((Addr.mk b1 0 none).add 1) = some (.slice x4.base x4.len x4.cap) ∧
 F.slices_Clone___bool_bool_ E x4 (fun r130 w131 =>
 w131.cell? ((Addr.mk b1 0 none).add 2) = some (.slice x5.base x5.len x5.cap) ∧
 F.slices_Clone___uint64_uint64_ E x5 (fun r132 w133 =>
 AL (.cells #[.slice r128.base r128.len r128.cap, .slice r130.base r130.len r130.cap, .slice r132.base r132.len r132.cap, .slice none 0 0, .int .u64 0, .slice none 0 0, .int .u64 0, .slice none 0 0, .int .u64 0, .map (some b100), .map (some b126)] E.t_vmem_Mem) w133 fun b134 w135 =>
 K (some (Addr.mk b134 0 none)) w135
 ) w131
 ) w129
 ) w127
 )

 ) ∧ (
 AL (.map #[] 0) w2.drew fun b136 w137 =>
 w137.cell? ((Addr.mk b1 0 none).add 2) = some (.slice x5.base x5.len x5.cap) ∧
 w137.cell? ((Addr.mk b1 0 none).add 1) = some (.slice x4.base x4.len x4.cap) ∧
 w137.cell? (Addr.mk b1 0 none) = some (.slice x3.base x3.len x3.cap) ∧
 (
 F.slices_Clone___uint64_uint64_ E x3 (fun r138 w139 =>
 w139.cell? ((Addr.mk b1 0 none).add 2) = some (.slice x5.base x5.len x5.cap) ∧
 w139.cell? ((Addr.mk b1 0 none).add 1) = some (.slice x4.base x4.len x4.cap) ∧
 (
 F.slices_Clone___bool_bool_ E x4 (fun r140 w141 =>
 w141.cell? ((Addr.mk b1 0 none).add 2) = some (.slice x5.base x5.len x5.cap) ∧
 (
 F.slices_Clone___uint64_uint64_ E x5 (fun r142 w143 =>
 AL (.map #[] 0) w143 fun b144 w145 =>
 AL (.cells #[.slice r138.base r138.len r138.cap, .slice r140.base r140.len r140.cap, .slice r142.base r142.len r142.cap, .slice none 0 0, .int .u64 0, .slice none 0 0, .int .u64 0, .slice none 0 0, .int .u64 0, .map (some b144), .map (some b136)] E.t_vmem_Mem) w145 fun b146 w147 =>
 K (some (Addr.mk b146 0 none)) w147
 ) w141

 ) ∧ (
 AL (.map #[] 0) w141 fun b148 w149 =>
 w149.cell? ((Addr.mk b1 0 none).add 2) = some (.slice x5.base x5.len x5.cap) ∧
 F.slices_Clone___uint64_uint64_ E x5 (fun r150 w151 =>
 AL (.cells #[.slice r138.base r138.len r138.cap, .slice r140.base r140.len r140.cap, .slice r150.base r150.len r150.cap, .slice none 0 0, .int .u64 0, .slice none 0 0, .int .u64 0, .slice none 0 0, .int .u64 0, .map (some b148), .map (some b136)] E.t_vmem_Mem) w151 fun b152 w153 =>
 K (some (Addr.mk b152 0 none)) w153
 ) w149
 )
 ) w139

 ) ∧ (
 AL (.map #[] 0) w139 fun b154 w155 =>
 w155.cell? ((Addr.mk b1 0 none).add 2) = some (.slice x5.base x5.len x5.cap) ∧
 w155.cell? ((Addr.mk b1 0 none).add 1) = some (.slice x4.base x4.len x4.cap) ∧
 F.slices_Clone___bool_bool_ E x4 (fun r156 w157 =>
 w157.cell? ((Addr.mk b1 0 none).add 2) = some (.slice x5.base x5.len x5.cap) ∧
 F.slices_Clone___uint64_uint64_ E x5 (fun r158 w159 =>
 AL (.cells #[.slice r138.base r138.len r138.cap, .slice r156.base r156.len r156.cap, .slice r158.base r158.len r158.cap, .slice none 0 0, .int .u64 0, .slice none 0 0, .int .u64 0, .slice none 0 0, .int .u64 0, .map (some b154), .map (some b136)] E.t_vmem_Mem) w159 fun b160 w161 =>
 K (some (Addr.mk b160 0 none)) w161
 ) w157
 ) w155
 )
 ) w137

 ) ∧ (
 AL (.map #[] 0) w137 fun b162 w163 =>
 w163.cell? ((Addr.mk b1 0 none).add 2) = some (.slice x5.base x5.len x5.cap) ∧
 w163.cell? ((Addr.mk b1 0 none).add 1) = some (.slice x4.base x4.len x4.cap) ∧
 w163.cell? (Addr.mk b1 0 none) = some (.slice x3.base x3.len x3.cap) ∧
 F.slices_Clone___uint64_uint64_ E x3 (fun r164 w165 =>
 w165.cell? ((Addr.mk b1 0 none).add 2) = some (.slice x5.base x5.len x5.cap) ∧
 w165.cell? ((Addr.mk b1 0 none).add 1) = some (.slice x4.base x4.len x4.cap) ∧
 F.slices_Clone___bool_bool_ E x4 (fun r166 w167 =>
 w167.cell? ((Addr.mk b1 0 none).add 2) = some (.slice x5.base x5.len x5.cap) ∧
 F.slices_Clone___uint64_uint64_ E x5 (fun r168 w169 =>
 AL (.cells #[.slice r164.base r164.len r164.cap, .slice r166.base r166.len r166.cap, .slice r168.base r168.len r168.cap, .slice none 0 0, .int .u64 0, .slice none 0 0, .int .u64 0, .slice none 0 0, .int .u64 0, .map (some b162), .map (some b136)] E.t_vmem_Mem) w169 fun b170 w171 =>
 K (some (Addr.mk b170 0 none)) w171
 ) w167
 ) w165
 ) w163
 )
 )

def F.radix_Tree_changed (E : Env) (a0 : (Option Addr)) (K : World → Prop) (w : World) : Prop :=
 NC a0 fun p1 =>
 stCells (p1.add 8) 0 [.slice none 0 0] w fun w2 =>
 LOOP (Int × Unit) (0, ()) w2 fun s3 _ w4 next5 =>
 CND (decide ((s3.1 : Int) < 4)) (
 NC a0 fun p6 =>
 ∃ x7 : SlV, w4.cell? (p6.add 8) = some (.slice x7.base x7.len x7.cap) ∧
 AL (.map #[] 0) w4 fun b8 w9 =>
 AL (.cells ⟨[.map (some b8)]⟩ E.t_map_uint64_api_Sum) w9 fun b10 w11 =>
 APP E.t_map_uint64_api_Sum 1 8 #[.map none] x7 ⟨(some (Addr.mk b10 0 none)), 1, 1⟩ w11 fun s12 w13 =>
 NC a0 fun p14 =>
 stCells (p14.add 8) 0 [.slice s12.base s12.len s12.cap] w13 fun w15 =>
 next5 (i64 (s3.1 + 1), ()) w15
 ) (
 K  w4
 )

def F.radix_New (E : Env)  (K : (Option Addr) → World → Prop) (w : World) : Prop :=
 AL (.cells #[.slice none 0 0, .int .u64 0, .slice none 0 0, .int .u64 0, .slice none 0 0, .int .u64 0, .slice none 0 0, .int .u64 0, .slice none 0 0] E.t_radix_Tree) w fun b1 w2 =>
 F.radix_Tree_changed E (some (Addr.mk b1 0 none)) (fun  w3 =>
 K (some (Addr.mk b1 0 none)) w3
 ) w2

def F.arena_New (E : Env)  (K : (Option Addr) → World → Prop) (w : World) : Prop :=
 AL (.map #[] 0) w fun b1 w2 =>
 AL (.cells #[.slice none 0 0, .int .u64 0, .slice none 0 0, .map (some b1)] E.t_arena_Map) w2 fun b3 w4 =>
 K (some (Addr.mk b3 0 none)) w4

def F.fix_New (E : Env) (a0 : Int) (K : (Option Addr) → Int → World → Prop) (w : World) : Prop :=
 JOIN (Bool × Unit) (fun J1 =>
 CND (decide ((a0 : Int) < 1)) (
 J1 (true, ()) w
 ) (
 J1 (decide ((a0 : Int) > 16384), ()) w
 )
 ) fun s2 _ w3 =>
 CND (s2.1) (
 K none 1 w3
 ) (
 AL (.cells #[.int .i64 a0, .slice none 0 0, .pointer none, .int .i64 0] E.t_fix_Fix) w3 fun b4 w5 =>
 K (some (Addr.mk b4 0 none)) 0 w5
 )

def F.pcache_New (E : Env)  (K : (Option Addr) → World → Prop) (w : World) : Prop :=
 AL (.cells #[.int .u64 0, .int .u64 0, .int .u64 0] E.t_pcache_Cache) w fun b1 w2 =>
 K (some (Addr.mk b1 0 none)) w2

def F.mheap_New (E : Env) (a0 : (Option Addr)) (K : (Option Addr) → World → Prop) (w : World) : Prop :=
 F.radix_New E  (fun r1 w2 =>
 F.arena_New E  (fun r3 w4 =>
 AL (.map #[] 0) w4 fun b5 w6 =>
 AL (.cells #[.pointer a0, .pointer r1, .pointer r3, .pointer none, .map (some b5), .pointer none, .pointer none, .pointer none, .pointer none, .pointer none, .pointer none, .pointer none, .pointer none, .pointer none, .pointer none, .pointer none, .pointer none, .pointer none, .pointer none, .pointer none, .pointer none, .pointer none, .pointer none, .pointer none, .pointer none, .pointer none, .pointer none, .pointer none, .pointer none, .pointer none, .pointer none, .pointer none, .pointer none, .pointer none, .pointer none, .pointer none, .pointer none, .pointer none, .pointer none, .pointer none, .pointer none, .pointer none, .pointer none, .pointer none, .pointer none, .pointer none, .pointer none, .pointer none, .pointer none, .pointer none, .pointer none, .pointer none, .pointer none, .pointer none, .pointer none, .pointer none, .pointer none, .pointer none, .pointer none, .pointer none, .pointer none, .pointer none, .pointer none, .pointer none, .pointer none, .pointer none, .pointer none, .pointer none, .pointer none, .int .u64 0, .int .u64 0] E.t_mheap_Heap) w6 fun b7 w8 =>
 F.fix_New E 1 (fun r9 r10 w11 =>
 stCells ((Addr.mk b7 0 none).add 3) 0 [.pointer r9] w11 fun w12 =>
 LOOP (Int × Unit) (0, ()) w12 fun s13 _ w14 next15 =>
 CND (decide ((s13.1 : Int) < 64)) (
 F.pcache_New E  (fun r16 w17 =>
 ((0 : Int) ≤ s13.1 ∧ (s13.1 : Int) < (64 : Nat)) ∧
 stCells (((Addr.mk b7 0 none).add 5).add (Int.toNat s13.1 * 1)) 0 [.pointer r16] w17 fun w18 =>
 next15 (i64 (s13.1 + 1), ()) w18
 ) w14.drew
 ) (
 K (some (Addr.mk b7 0 none)) w14
 )
 ) w8
 ) w2
 ) w

def F.mallowlaw21_fresh (E : Env) (a0_0 : SlV) (a0_1 : SlV) (a0_2 : SlV) (K : (Option Addr) → World → Prop) (w : World) : Prop :=
 AL (.cells #[.slice a0_0.base a0_0.len a0_0.cap, .slice a0_1.base a0_1.len a0_1.cap, .slice a0_2.base a0_2.len a0_2.cap] E.t_api_Answers) w fun b1 w2 =>
 JOIN ((Option Addr) × Unit) (fun J3 =>
 ∃ x6 : SlV, w2.drew.cell? (Addr.mk b1 0 none) = some (.slice x6.base x6.len x6.cap) ∧
 ∃ x7 : SlV, w2.drew.cell? ((Addr.mk b1 0 none).add 1) = some (.slice x7.base x7.len x7.cap) ∧
 ∃ x8 : SlV, w2.drew.cell? ((Addr.mk b1 0 none).add 2) = some (.slice x8.base x8.len x8.cap) ∧
 (
 AL (.cells ⟨[]⟩ E.t_uint64) w2.drew fun b9 w10 =>
 w10.cell? ((Addr.mk b1 0 none).add 2) = some (.slice x8.base x8.len x8.cap) ∧
 w10.cell? ((Addr.mk b1 0 none).add 1) = some (.slice x7.base x7.len x7.cap) ∧
 w10.cell? (Addr.mk b1 0 none) = some (.slice x6.base x6.len x6.cap) ∧
 (
 APP E.t_uint64 1 8 #[.int .u64 0] ⟨(some (Addr.mk b9 0 none)), 0, 0⟩ x6 w10 fun s11 w12 =>
 w12.cell? ((Addr.mk b1 0 none).add 2) = some (.slice x8.base x8.len x8.cap) ∧
 w12.cell? ((Addr.mk b1 0 none).add 1) = some (.slice x7.base x7.len x7.cap) ∧
 (
 AL (.cells ⟨[]⟩ E.t_bool) w12 fun b13 w14 =>
 w14.cell? ((Addr.mk b1 0 none).add 2) = some (.slice x8.base x8.len x8.cap) ∧
 w14.cell? ((Addr.mk b1 0 none).add 1) = some (.slice x7.base x7.len x7.cap) ∧
 (
 APP E.t_bool 1 1 #[.bool false] ⟨(some (Addr.mk b13 0 none)), 0, 0⟩ x7 w14 fun s15 w16 =>
 w16.cell? ((Addr.mk b1 0 none).add 2) = some (.slice x8.base x8.len x8.cap) ∧
 AL (.cells ⟨[]⟩ E.t_uint64) w16 fun b17 w18 =>
 w18.cell? ((Addr.mk b1 0 none).add 2) = some (.slice x8.base x8.len x8.cap) ∧
 APP E.t_uint64 1 8 #[.int .u64 0] ⟨(some (Addr.mk b17 0 none)), 0, 0⟩ x8 w18 fun s19 w20 =>
 F.vmem_New E s11 s15 s19 (fun r21 w22 =>
 J3 (r21, ()) w22
 ) w20

 ) ∧ (
 AL (.cells ⟨[]⟩ E.t_uint64) w14 fun b23 w24 =>
 w24.cell? ((Addr.mk b1 0 none).add 2) = some (.slice x8.base x8.len x8.cap) ∧
 w24.cell? ((Addr.mk b1 0 none).add 1) = some (.slice x7.base x7.len x7.cap) ∧
 APP E.t_bool 1 1 #[.bool false] ⟨(some (Addr.mk b13 0 none)), 0, 0⟩ x7 w24 fun s25 w26 =>
 w26.cell? ((Addr.mk b1 0 none).add 2) = some (.slice x8.base x8.len x8.cap) ∧
 APP E.t_uint64 1 8 #[.int .u64 0] ⟨(some (Addr.mk b23 0 none)), 0, 0⟩ x8 w26 fun s27 w28 =>
 F.vmem_New E s11 s25 s27 (fun r29 w30 =>
 J3 (r29, ()) w30
 ) w28
 )

 ) ∧ (
 AL (.cells ⟨[]⟩ E.t_uint64) w12 fun b31 w32 =>
 w32.cell? ((Addr.mk b1 0 none).add 2) = some (.slice x8.base x8.len x8.cap) ∧
 w32.cell? ((Addr.mk b1 0 none).add 1) = some (.slice x7.base x7.len x7.cap) ∧
 AL (.cells ⟨[]⟩ E.t_bool) w32 fun b33 w34 =>
 w34.cell? ((Addr.mk b1 0 none).add 2) = some (.slice x8.base x8.len x8.cap) ∧
 w34.cell? ((Addr.mk b1 0 none).add 1) = some (.slice x7.base x7.len x7.cap) ∧
 APP E.t_bool 1 1 #[.bool false] ⟨(some (Addr.mk b33 0 none)), 0, 0⟩ x7 w34 fun s35 w36 =>
 w36.cell? ((Addr.mk b1 0 none).add 2) = some (.slice x8.base x8.len x8.cap) ∧
 APP E.t_uint64 1 8 #[.int .u64 0] ⟨(some (Addr.mk b31 0 none)), 0, 0⟩ x8 w36 fun s37 w38 =>
 F.vmem_New E s11 s35 s37 (fun r39 w40 =>
 J3 (r39, ()) w40
 ) w38
 )

 ) ∧ (
 AL (.cells ⟨[]⟩ E.t_bool) w10 fun b41 w42 =>
 w42.cell? ((Addr.mk b1 0 none).add 2) = some (.slice x8.base x8.len x8.cap) ∧
 w42.cell? ((Addr.mk b1 0 none).add 1) = some (.slice x7.base x7.len x7.cap) ∧
 w42.cell? (Addr.mk b1 0 none) = some (.slice x6.base x6.len x6.cap) ∧
 (
 APP E.t_uint64 1 8 #[.int .u64 0] ⟨(some (Addr.mk b9 0 none)), 0, 0⟩ x6 w42 fun s43 w44 =>
 w44.cell? ((Addr.mk b1 0 none).add 2) = some (.slice x8.base x8.len x8.cap) ∧
 w44.cell? ((Addr.mk b1 0 none).add 1) = some (.slice x7.base x7.len x7.cap) ∧
 (
 APP E.t_bool 1 1 #[.bool false] ⟨(some (Addr.mk b41 0 none)), 0, 0⟩ x7 w44 fun s45 w46 =>
 w46.cell? ((Addr.mk b1 0 none).add 2) = some (.slice x8.base x8.len x8.cap) ∧
 AL (.cells ⟨[]⟩ E.t_uint64) w46 fun b47 w48 =>
 w48.cell? ((Addr.mk b1 0 none).add 2) = some (.slice x8.base x8.len x8.cap) ∧
 APP E.t_uint64 1 8 #[.int .u64 0] ⟨(some (Addr.mk b47 0 none)), 0, 0⟩ x8 w48 fun s49 w50 =>
 F.vmem_New E s43 s45 s49 (fun r51 w52 =>
 J3 (r51, ()) w52
 ) w50

 ) ∧ (
 AL (.cells ⟨[]⟩ E.t_uint64) w44 fun b53 w54 =>
 w54.cell? ((Addr.mk b1 0 none).add 2) = some (.slice x8.base x8.len x8.cap) ∧
 w54.cell? ((Addr.mk b1 0 none).add 1) = some (.slice x7.base x7.len x7.cap) ∧
 APP E.t_bool 1 1 #[.bool false] ⟨(some (Addr.mk b41 0 none)), 0, 0⟩ x7 w54 fun s55 w56 =>
 w56.cell? ((Addr.mk b1 0 none).add 2) = some (.slice x8.base x8.len x8.cap) ∧
 APP E.t_uint64 1 8 #[.int .u64 0] ⟨(some (Addr.mk b53 0 none)), 0, 0⟩ x8 w56 fun s57 w58 =>
 F.vmem_New E s43 s55 s57 (fun r59 w60 =>
 J3 (r59, ()) w60
 ) w58
 )

 ) ∧ (
 AL (.cells ⟨[]⟩ E.t_uint64) w42 fun b61 w62 =>
 w62.cell? ((Addr.mk b1 0 none).add 2) = some (.slice x8.base x8.len x8.cap) ∧
 w62.cell? ((Addr.mk b1 0 none).add 1) = some (.slice x7.base x7.len x7.cap) ∧
 w62.cell? (Addr.mk b1 0 none) = some (.slice x6.base x6.len x6.cap) ∧
 APP E.t_uint64 1 8 #[.int .u64 0] ⟨(some (Addr.mk b9 0 none)), 0, 0⟩ x6 w62 fun s63 w64 =>
 w64.cell? ((Addr.mk b1 0 none).add 2) = some (.slice x8.base x8.len x8.cap) ∧
 w64.cell? ((Addr.mk b1 0 none).add 1) = some (.slice x7.base x7.len x7.cap) ∧
 APP E.t_bool 1 1 #[.bool false] ⟨(some (Addr.mk b41 0 none)), 0, 0⟩ x7 w64 fun s65 w66 =>
 w66.cell? ((Addr.mk b1 0 none).add 2) = some (.slice x8.base x8.len x8.cap) ∧
 APP E.t_uint64 1 8 #[.int .u64 0] ⟨(some (Addr.mk b61 0 none)), 0, 0⟩ x8 w66 fun s67 w68 =>
 F.vmem_New E s63 s65 s67 (fun r69 w70 =>
 J3 (r69, ()) w70
 ) w68
 )

 ) ∧ (
 AL (.cells ⟨[]⟩ E.t_uint64) w10 fun b71 w72 =>
 w72.cell? ((Addr.mk b1 0 none).add 2) = some (.slice x8.base x8.len x8.cap) ∧
 w72.cell? ((Addr.mk b1 0 none).add 1) = some (.slice x7.base x7.len x7.cap) ∧
 w72.cell? (Addr.mk b1 0 none) = some (.slice x6.base x6.len x6.cap) ∧
 (
 APP E.t_uint64 1 8 #[.int .u64 0] ⟨(some (Addr.mk b9 0 none)), 0, 0⟩ x6 w72 fun s73 w74 =>
 w74.cell? ((Addr.mk b1 0 none).add 2) = some (.slice x8.base x8.len x8.cap) ∧
 w74.cell? ((Addr.mk b1 0 none).add 1) = some (.slice x7.base x7.len x7.cap) ∧
 AL (.cells ⟨[]⟩ E.t_bool) w74 fun b75 w76 =>
 w76.cell? ((Addr.mk b1 0 none).add 2) = some (.slice x8.base x8.len x8.cap) ∧
 w76.cell? ((Addr.mk b1 0 none).add 1) = some (.slice x7.base x7.len x7.cap) ∧
 APP E.t_bool 1 1 #[.bool false] ⟨(some (Addr.mk b75 0 none)), 0, 0⟩ x7 w76 fun s77 w78 =>
 w78.cell? ((Addr.mk b1 0 none).add 2) = some (.slice x8.base x8.len x8.cap) ∧
 APP E.t_uint64 1 8 #[.int .u64 0] ⟨(some (Addr.mk b71 0 none)), 0, 0⟩ x8 w78 fun s79 w80 =>
 F.vmem_New E s73 s77 s79 (fun r81 w82 =>
 J3 (r81, ()) w82
 ) w80

 ) ∧ (
 AL (.cells ⟨[]⟩ E.t_bool) w72 fun b83 w84 =>
 w84.cell? ((Addr.mk b1 0 none).add 2) = some (.slice x8.base x8.len x8.cap) ∧
 w84.cell? ((Addr.mk b1 0 none).add 1) = some (.slice x7.base x7.len x7.cap) ∧
 w84.cell? (Addr.mk b1 0 none) = some (.slice x6.base x6.len x6.cap) ∧
 APP E.t_uint64 1 8 #[.int .u64 0] ⟨(some (Addr.mk b9 0 none)), 0, 0⟩ x6 w84 fun s85 w86 =>
 w86.cell? ((Addr.mk b1 0 none).add 2) = some (.slice x8.base x8.len x8.cap) ∧
 w86.cell? ((Addr.mk b1 0 none).add 1) = some (.slice x7.base x7.len x7.cap) ∧
 APP E.t_bool 1 1 #[.bool false] ⟨(some (Addr.mk b83 0 none)), 0, 0⟩ x7 w86 fun s87 w88 =>
 w88.cell? ((Addr.mk b1 0 none).add 2) = some (.slice x8.base x8.len x8.cap) ∧
 APP E.t_uint64 1 8 #[.int .u64 0] ⟨(some (Addr.mk b71 0 none)), 0, 0⟩ x8 w88 fun s89 w90 =>
 F.vmem_New E s85 s87 s89 (fun r91 w92 =>
 J3 (r91, ()) w92
 ) w90
 )
 )

 ) ∧ (
 AL (.cells ⟨[]⟩ E.t_bool) w2.drew fun b93 w94 =>
 w94.cell? ((Addr.mk b1 0 none).add 2) = some (.slice x8.base x8.len x8.cap) ∧
 w94.cell? ((Addr.mk b1 0 none).add 1) = some (.slice x7.base x7.len x7.cap) ∧
 w94.cell? (Addr.mk b1 0 none) = some (.slice x6.base x6.len x6.cap) ∧
 (
 AL (.cells ⟨[]⟩ E.t_uint64) w94 fun b95 w96 =>
 w96.cell? ((Addr.mk b1 0 none).add 2) = some (.slice x8.base x8.len x8.cap) ∧
 w96.cell? ((Addr.mk b1 0 none).add 1) = some (.slice x7.base x7.len x7.cap) ∧
 w96.cell? (Addr.mk b1 0 none) = some (.slice x6.base x6.len x6.cap) ∧
 (
 APP E.t_uint64 1 8 #[.int .u64 0] ⟨(some (Addr.mk b95 0 none)), 0, 0⟩ x6 w96 fun s97 w98 =>
 w98.cell? ((Addr.mk b1 0 none).add 2) = some (.slice x8.base x8.len x8.cap) ∧
 w98.cell? ((Addr.mk b1 0 none).add 1) = some (.slice x7.base x7.len x7.cap) ∧
 (
 APP E.t_bool 1 1 #[.bool false] ⟨(some (Addr.mk b93 0 none)), 0, 0⟩ x7 w98 fun s99 w100 =>
 w100.cell? ((Addr.mk b1 0 none).add 2) = some (.slice x8.base x8.len x8.cap) ∧
 AL (.cells ⟨[]⟩ E.t_uint64) w100 fun b101 w102 =>
 w102.cell? ((Addr.mk b1 0 none).add 2) = some (.slice x8.base x8.len x8.cap) ∧
 APP E.t_uint64 1 8 #[.int .u64 0] ⟨(some (Addr.mk b101 0 none)), 0, 0⟩ x8 w102 fun s103 w104 =>
 F.vmem_New E s97 s99 s103 (fun r105 w106 =>
 J3 (r105, ()) w106
 ) w104

 ) ∧ (
 AL (.cells ⟨[]⟩ E.t_uint64) w98 fun b107 w108 =>
 w108.cell? ((Addr.mk b1 0 none).add 2) = some (.slice x8.base x8.len x8.cap) ∧
 w108.cell? ((Addr.mk b1 0 none).add 1) = some (.slice x7.base x7.len x7.cap) ∧
 APP E.t_bool 1 1 #[.bool false] ⟨(some (Addr.mk b93 0 none)), 0, 0⟩ x7 w108 fun s109 w110 =>
 w110.cell? ((Addr.mk b1 0 none).add 2) = some (.slice x8.base x8.len x8.cap) ∧
 APP E.t_uint64 1 8 #[.int .u64 0] ⟨(some (Addr.mk b107 0 none)), 0, 0⟩ x8 w110 fun s111 w112 =>
 F.vmem_New E s97 s109 s111 (fun r113 w114 =>
 J3 (r113, ()) w114
 ) w112
 )

 ) ∧ (
 AL (.cells ⟨[]⟩ E.t_uint64) w96 fun b115 w116 =>
 w116.cell? ((Addr.mk b1 0 none).add 2) = some (.slice x8.base x8.len x8.cap) ∧
 w116.cell? ((Addr.mk b1 0 none).add 1) = some (.slice x7.base x7.len x7.cap) ∧
 w116.cell? (Addr.mk b1 0 none) = some (.slice x6.base x6.len x6.cap) ∧
 APP E.t_uint64 1 8 #[.int .u64 0] ⟨(some (Addr.mk b95 0 none)), 0, 0⟩ x6 w116 fun s117 w118 =>
 w118.cell? ((Addr.mk b1 0 none).add 2) = some (.slice x8.base x8.len x8.cap) ∧
 w118.cell? ((Addr.mk b1 0 none).add 1) = some (.slice x7.base x7.len x7.cap) ∧
 APP E.t_bool 1 1 #[.bool false] ⟨(some (Addr.mk b93 0 none)), 0, 0⟩ x7 w118 fun s119 w120 =>
 w120.cell? ((Addr.mk b1 0 none).add 2) = some (.slice x8.base x8.len x8.cap) ∧
 APP E.t_uint64 1 8 #[.int .u64 0] ⟨(some (Addr.mk b115 0 none)), 0, 0⟩ x8 w120 fun s121 w122 =>
 F.vmem_New E s117 s119 s121 (fun r123 w124 =>
 J3 (r123, ()) w124
 ) w122
 )

 ) ∧ (
 AL (.cells ⟨[]⟩ E.t_uint64) w94 fun b125 w126 =>
 w126.cell? ((Addr.mk b1 0 none).add 2) = some (.slice x8.base x8.len x8.cap) ∧
 w126.cell? ((Addr.mk b1 0 none).add 1) = some (.slice x7.base x7.len x7.cap) ∧
 w126.cell? (Addr.mk b1 0 none) = some (.slice x6.base x6.len x6.cap) ∧
 AL (.cells ⟨[]⟩ E.t_uint64) w126 fun b127 w128 =>
 w128.cell? ((Addr.mk b1 0 none).add 2) = some (.slice x8.base x8.len x8.cap) ∧
 w128.cell? ((Addr.mk b1 0 none).add 1) = some (.slice x7.base x7.len x7.cap) ∧
 w128.cell? (Addr.mk b1 0 none) = some (.slice x6.base x6.len x6.cap) ∧
 APP E.t_uint64 1 8 #[.int .u64 0] ⟨(some (Addr.mk b127 0 none)), 0, 0⟩ x6 w128 fun s129 w130 =>
 w130.cell? ((Addr.mk b1 0 none).add 2) = some (.slice x8.base x8.len x8.cap) ∧
 w130.cell? ((Addr.mk b1 0 none).add 1) = some (.slice x7.base x7.len x7.cap) ∧
 APP E.t_bool 1 1 #[.bool false] ⟨(some (Addr.mk b93 0 none)), 0, 0⟩ x7 w130 fun s131 w132 =>
 w132.cell? ((Addr.mk b1 0 none).add 2) = some (.slice x8.base x8.len x8.cap) ∧
 APP E.t_uint64 1 8 #[.int .u64 0] ⟨(some (Addr.mk b125 0 none)), 0, 0⟩ x8 w132 fun s133 w134 =>
 F.vmem_New E s129 s131 s133 (fun r135 w136 =>
 J3 (r135, ()) w136
 ) w134
 )

 ) ∧ (
 AL (.cells ⟨[]⟩ E.t_uint64) w2.drew fun b137 w138 =>
 w138.cell? ((Addr.mk b1 0 none).add 2) = some (.slice x8.base x8.len x8.cap) ∧
 w138.cell? ((Addr.mk b1 0 none).add 1) = some (.slice x7.base x7.len x7.cap) ∧
 w138.cell? (Addr.mk b1 0 none) = some (.slice x6.base x6.len x6.cap) ∧
 (
 AL (.cells ⟨[]⟩ E.t_uint64) w138 fun b139 w140 =>
 w140.cell? ((Addr.mk b1 0 none).add 2) = some (.slice x8.base x8.len x8.cap) ∧
 w140.cell? ((Addr.mk b1 0 none).add 1) = some (.slice x7.base x7.len x7.cap) ∧
 w140.cell? (Addr.mk b1 0 none) = some (.slice x6.base x6.len x6.cap) ∧
 (
 APP E.t_uint64 1 8 #[.int .u64 0] ⟨(some (Addr.mk b139 0 none)), 0, 0⟩ x6 w140 fun s141 w142 =>
 w142.cell? ((Addr.mk b1 0 none).add 2) = some (.slice x8.base x8.len x8.cap) ∧
 w142.cell? ((Addr.mk b1 0 none).add 1) = some (.slice x7.base x7.len x7.cap) ∧
 AL (.cells ⟨[]⟩ E.t_bool) w142 fun b143 w144 =>
 w144.cell? ((Addr.mk b1 0 none).add 2) = some (.slice x8.base x8.len x8.cap) ∧
 w144.cell? ((Addr.mk b1 0 none).add 1) = some (.slice x7.base x7.len x7.cap) ∧
 APP E.t_bool 1 1 #[.bool false] ⟨(some (Addr.mk b143 0 none)), 0, 0⟩ x7 w144 fun s145 w146 =>
 w146.cell? ((Addr.mk b1 0 none).add 2) = some (.slice x8.base x8.len x8.cap) ∧
 APP E.t_uint64 1 8 #[.int .u64 0] ⟨(some (Addr.mk b137 0 none)), 0, 0⟩ x8 w146 fun s147 w148 =>
 F.vmem_New E s141 s145 s147 (fun r149 w150 =>
 J3 (r149, ()) w150
 ) w148

 ) ∧ (
 AL (.cells ⟨[]⟩ E.t_bool) w140 fun b151 w152 =>
 w152.cell? ((Addr.mk b1 0 none).add 2) = some (.slice x8.base x8.len x8.cap) ∧
 w152.cell? ((Addr.mk b1 0 none).add 1) = some (.slice x7.base x7.len x7.cap) ∧
 w152.cell? (Addr.mk b1 0 none) = some (.slice x6.base x6.len x6.cap) ∧
 APP E.t_uint64 1 8 #[.int .u64 0] ⟨(some (Addr.mk b139 0 none)), 0, 0⟩ x6 w152 fun s153 w154 =>
 w154.cell? ((Addr.mk b1 0 none).add 2) = some (.slice x8.base x8.len x8.cap) ∧
 w154.cell? ((Addr.mk b1 0 none).add 1) = some (.slice x7.base x7.len x7.cap) ∧
 APP E.t_bool 1 1 #[.bool false] ⟨(some (Addr.mk b151 0 none)), 0, 0⟩ x7 w154 fun s155 w156 =>
 w156.cell? ((Addr.mk b1 0 none).add 2) = some (.slice x8.base x8.len x8.cap) ∧
 APP E.t_uint64 1 8 #[.int .u64 0] ⟨(some (Addr.mk b137 0 none)), 0, 0⟩ x8 w156 fun s157 w158 =>
 F.vmem_New E s153 s155 s157 (fun r159 w160 =>
 J3 (r159, ()) w160
 ) w158
 )

 ) ∧ (
 AL (.cells ⟨[]⟩ E.t_bool) w138 fun b161 w162 =>
 w162.cell? ((Addr.mk b1 0 none).add 2) = some (.slice x8.base x8.len x8.cap) ∧
 w162.cell? ((Addr.mk b1 0 none).add 1) = some (.slice x7.base x7.len x7.cap) ∧
 w162.cell? (Addr.mk b1 0 none) = some (.slice x6.base x6.len x6.cap) ∧
 AL (.cells ⟨[]⟩ E.t_uint64) w162 fun b163 w164 =>
 w164.cell? ((Addr.mk b1 0 none).add 2) = some (.slice x8.base x8.len x8.cap) ∧
 w164.cell? ((Addr.mk b1 0 none).add 1) = some (.slice x7.base x7.len x7.cap) ∧
 w164.cell? (Addr.mk b1 0 none) = some (.slice x6.base x6.len x6.cap) ∧
 APP E.t_uint64 1 8 #[.int .u64 0] ⟨(some (Addr.mk b163 0 none)), 0, 0⟩ x6 w164 fun s165 w166 =>
 w166.cell? ((Addr.mk b1 0 none).add 2) = some (.slice x8.base x8.len x8.cap) ∧
 w166.cell? ((Addr.mk b1 0 none).add 1) = some (.slice x7.base x7.len x7.cap) ∧
 APP E.t_bool 1 1 #[.bool false] ⟨(some (Addr.mk b161 0 none)), 0, 0⟩ x7 w166 fun s167 w168 =>
 w168.cell? ((Addr.mk b1 0 none).add 2) = some (.slice x8.base x8.len x8.cap) ∧
 APP E.t_uint64 1 8 #[.int .u64 0] ⟨(some (Addr.mk b137 0 none)), 0, 0⟩ x8 w168 fun s169 w170 =>
 F.vmem_New E s165 s167 s169 (fun r171 w172 =>
 J3 (r171, ()) w172
 ) w170
 )
 )
 ) fun s4 _ w5 =>
 CND (s4.1.isNone) (
 K none w5
 ) (
 F.mheap_New E s4.1 (fun r173 w174 =>
 K r173 w174
 ) w5
 )

def F.stack_New (E : Env) (a0 : (Option Addr)) (K : (Option Addr) → World → Prop) (w : World) : Prop :=
 AL (.map #[] 0) w fun b1 w2 =>
 AL (.cells #[.pointer a0, .slice none 0 0, .slice none 0 0, .slice none 0 0, .slice none 0 0, .slice none 0 0, .slice none 0 0, .slice none 0 0, .slice none 0 0, .slice none 0 0, .slice none 0 0, .slice none 0 0, .slice none 0 0, .slice none 0 0, .slice none 0 0, .slice none 0 0, .slice none 0 0, .slice none 0 0, .slice none 0 0, .slice none 0 0, .slice none 0 0, .slice none 0 0, .slice none 0 0, .slice none 0 0, .slice none 0 0, .slice none 0 0, .slice none 0 0, .slice none 0 0, .slice none 0 0, .slice none 0 0, .slice none 0 0, .slice none 0 0, .slice none 0 0, .slice none 0 0, .slice none 0 0, .slice none 0 0, .slice none 0 0, .slice none 0 0, .slice none 0 0, .slice none 0 0, .slice none 0 0, .slice none 0 0, .slice none 0 0, .slice none 0 0, .slice none 0 0, .slice none 0 0, .slice none 0 0, .slice none 0 0, .slice none 0 0, .slice none 0 0, .slice none 0 0, .slice none 0 0, .slice none 0 0, .slice none 0 0, .slice none 0 0, .slice none 0 0, .slice none 0 0, .slice none 0 0, .slice none 0 0, .slice none 0 0, .slice none 0 0, .slice none 0 0, .slice none 0 0, .slice none 0 0, .slice none 0 0, .slice none 0 0, .slice none 0 0, .slice none 0 0, .slice none 0 0, .slice none 0 0, .slice none 0 0, .slice none 0 0, .slice none 0 0, .slice none 0 0, .slice none 0 0, .slice none 0 0, .slice none 0 0, .slice none 0 0, .slice none 0 0, .slice none 0 0, .slice none 0 0, .slice none 0 0, .slice none 0 0, .slice none 0 0, .slice none 0 0, .slice none 0 0, .slice none 0 0, .slice none 0 0, .slice none 0 0, .slice none 0 0, .slice none 0 0, .slice none 0 0, .slice none 0 0, .slice none 0 0, .slice none 0 0, .slice none 0 0, .slice none 0 0, .slice none 0 0, .slice none 0 0, .slice none 0 0, .slice none 0 0, .slice none 0 0, .slice none 0 0, .slice none 0 0, .slice none 0 0, .slice none 0 0, .slice none 0 0, .slice none 0 0, .slice none 0 0, .slice none 0 0, .slice none 0 0, .slice none 0 0, .slice none 0 0, .slice none 0 0, .slice none 0 0, .slice none 0 0, .slice none 0 0, .slice none 0 0, .slice none 0 0, .slice none 0 0, .slice none 0 0, .slice none 0 0, .slice none 0 0, .slice none 0 0, .slice none 0 0, .slice none 0 0, .slice none 0 0, .slice none 0 0, .slice none 0 0, .slice none 0 0, .slice none 0 0, .slice none 0 0, .slice none 0 0, .slice none 0 0, .slice none 0 0, .slice none 0 0, .slice none 0 0, .slice none 0 0, .slice none 0 0, .slice none 0 0, .slice none 0 0, .slice none 0 0, .slice none 0 0, .slice none 0 0, .slice none 0 0, .slice none 0 0, .slice none 0 0, .slice none 0 0, .slice none 0 0, .slice none 0 0, .slice none 0 0, .slice none 0 0, .slice none 0 0, .slice none 0 0, .slice none 0 0, .slice none 0 0, .slice none 0 0, .slice none 0 0, .slice none 0 0, .slice none 0 0, .slice none 0 0, .slice none 0 0, .slice none 0 0, .slice none 0 0, .slice none 0 0, .slice none 0 0, .slice none 0 0, .slice none 0 0, .slice none 0 0, .slice none 0 0, .slice none 0 0, .slice none 0 0, .slice none 0 0, .slice none 0 0, .slice none 0 0, .slice none 0 0, .slice none 0 0, .slice none 0 0, .slice none 0 0, .slice none 0 0, .slice none 0 0, .slice none 0 0, .slice none 0 0, .slice none 0 0, .slice none 0 0, .slice none 0 0, .slice none 0 0, .slice none 0 0, .slice none 0 0, .slice none 0 0, .slice none 0 0, .slice none 0 0, .slice none 0 0, .slice none 0 0, .slice none 0 0, .slice none 0 0, .slice none 0 0, .slice none 0 0, .slice none 0 0, .slice none 0 0, .slice none 0 0, .slice none 0 0, .slice none 0 0, .slice none 0 0, .slice none 0 0, .slice none 0 0, .slice none 0 0, .slice none 0 0, .slice none 0 0, .slice none 0 0, .slice none 0 0, .slice none 0 0, .slice none 0 0, .slice none 0 0, .slice none 0 0, .slice none 0 0, .slice none 0 0, .slice none 0 0, .slice none 0 0, .slice none 0 0, .slice none 0 0, .slice none 0 0, .slice none 0 0, .slice none 0 0, .slice none 0 0, .slice none 0 0, .slice none 0 0, .slice none 0 0, .slice none 0 0, .slice none 0 0, .slice none 0 0, .slice none 0 0, .slice none 0 0, .slice none 0 0, .slice none 0 0, .slice none 0 0, .slice none 0 0, .slice none 0 0, .slice none 0 0, .slice none 0 0, .slice none 0 0, .slice none 0 0, .slice none 0 0, .slice none 0 0, .slice none 0 0, .slice none 0 0, .slice none 0 0, .slice none 0 0, .slice none 0 0, .slice none 0 0, .slice none 0 0, .slice none 0 0, .slice none 0 0, .slice none 0 0, .slice none 0 0, .slice none 0 0, .slice none 0 0, .map none, .map none, .map none, .map none, .map (some b1)] E.t_stack_Stacks) w2 fun b3 w4 =>
 LOOP (Int × Unit) (0, ()) w4 fun s5 _ w6 next7 =>
 CND (decide ((s5.1 : Int) < 4)) (
 AL (.map #[] 0) w6 fun b8 w9 =>
 ((0 : Int) ≤ s5.1 ∧ (s5.1 : Int) < (4 : Nat)) ∧
 stCells (((Addr.mk b3 0 none).add 257).add (Int.toNat s5.1 * 1)) 0 [.map (some b8)] w9 fun w10 =>
 next7 (i64 (s5.1 + 1), ()) w10
 ) (
 K (some (Addr.mk b3 0 none)) w6
 )

def F.stack_is (E : Env) (a0 : Int) (K : Bool → World → Prop) (w : World) : Prop :=
 CND (decide ((a0 : Int) ≥ 0)) (
 K (decide ((a0 : Int) < 64)) w
 ) (
 K false w
 )

def F.math_bits_TrailingZeros64 (E : Env) (a0 : Int) (K : Int → World → Prop) (w : World) : Prop :=
 CND ((a0 : Int) == 0) (
 K 64 w
 ) (
 (0 : Int) ≤ 58 ∧
 ((0 : Int) ≤ (Int.fdiv (u64 ((bitK .u64 0 a0 (u64 (0 - a0))) * 285870213051353865)) (2 ^ (min (Int.toNat 58) (IntKind.bits .u64)))) ∧ ((Int.fdiv (u64 ((bitK .u64 0 a0 (u64 (0 - a0))) * 285870213051353865)) (2 ^ (min (Int.toNat 58) (IntKind.bits .u64)))) : Int) < (64 : Nat)) ∧
 ∃ x1 : Int, w.cell? ((Addr.mk E.g_math_bits_deBruijn64tab 0 none).add (Int.toNat (Int.fdiv (u64 ((bitK .u64 0 a0 (u64 (0 - a0))) * 285870213051353865)) (2 ^ (min (Int.toNat 58) (IntKind.bits .u64)))) * 1)) = some (.int .u8 x1) ∧
 K (i64 (x1)) w
 )

def F.stack_order (E : Env) (a0 : Int) (K : Int → World → Prop) (w : World) : Prop :=
 2048 ≠ (0 : Int) ∧
 F.math_bits_TrailingZeros64 E (u64 (Int.tdiv a0 2048)) (fun r1 w2 =>
 K r1 w2
 ) w

def F.stack_bytes (E : Env) (a0 : Int) (K : Int → World → Prop) (w : World) : Prop :=
 (0 : Int) ≤ a0 ∧
 LET (u64 (2048 * 2 ^ (min (Int.toNat a0) (IntKind.bits .u64))) : Int) fun t1 =>
 K t1 w

def F.span_Span_Full (E : Env) (a0 : (Option Addr)) (K : Bool → World → Prop) (w : World) : Prop :=
 NC a0 fun p1 =>
 ∃ x2 : Int, w.drew.cell? (p1.add 7) = some (.int .i64 x2) ∧
 NC a0 fun p3 =>
 ∃ x4 : Int, w.drew.cell? (p3.add 6) = some (.int .i64 x4) ∧
 K ((x2 : Int) == x4) w.drew

def F.span_Span_Info (E : Env) (a0 : (Option Addr)) (K : Int → Int → Int → Int → Bool → Int → Int → Int → Bool → Bool → World → Prop) (w : World) : Prop :=
 AL (.cells #[.int .u64 0, .int .i64 0, .int .i64 0, .int .i64 0, .bool false, .int .i64 0, .int .i64 0, .int .i64 0, .bool false, .bool false] E.t_api_Info) w fun b1 w2 =>
 NC a0 fun p3 =>
 ∃ c4 : Int, w2.cell? (p3.add 0) = some (.int .u64 c4) ∧
 ∃ c5 : Int, w2.cell? (p3.add 1) = some (.int .i64 c5) ∧
 ∃ c6 : Int, w2.cell? (p3.add 2) = some (.int .i64 c6) ∧
 ∃ c7 : Int, w2.cell? (p3.add 3) = some (.int .i64 c7) ∧
 ∃ c8 : Bool, w2.cell? (p3.add 4) = some (.bool c8) ∧
 ∃ c9 : Int, w2.cell? (p3.add 5) = some (.int .i64 c9) ∧
 ∃ c10 : Int, w2.cell? (p3.add 6) = some (.int .i64 c10) ∧
 ∃ c11 : Int, w2.cell? (p3.add 7) = some (.int .i64 c11) ∧
 ∃ c12 : Bool, w2.cell? (p3.add 8) = some (.bool c12) ∧
 ∃ c13 : Bool, w2.cell? (p3.add 9) = some (.bool c13) ∧
 stCells (Addr.mk b1 0 none) 0 [.int .u64 c4, .int .i64 c5, .int .i64 c6, .int .i64 c7, .bool c8, .int .i64 c9, .int .i64 c10, .int .i64 c11, .bool c12, .bool c13] w2 fun w14 =>
 ∃ c15 : Int, w14.cell? ((Addr.mk b1 0 none).add 0) = some (.int .u64 c15) ∧
 ∃ c16 : Int, w14.cell? ((Addr.mk b1 0 none).add 1) = some (.int .i64 c16) ∧
 ∃ c17 : Int, w14.cell? ((Addr.mk b1 0 none).add 2) = some (.int .i64 c17) ∧
 ∃ c18 : Int, w14.cell? ((Addr.mk b1 0 none).add 3) = some (.int .i64 c18) ∧
 ∃ c19 : Bool, w14.cell? ((Addr.mk b1 0 none).add 4) = some (.bool c19) ∧
 ∃ c20 : Int, w14.cell? ((Addr.mk b1 0 none).add 5) = some (.int .i64 c20) ∧
 ∃ c21 : Int, w14.cell? ((Addr.mk b1 0 none).add 6) = some (.int .i64 c21) ∧
 ∃ c22 : Int, w14.cell? ((Addr.mk b1 0 none).add 7) = some (.int .i64 c22) ∧
 ∃ c23 : Bool, w14.cell? ((Addr.mk b1 0 none).add 8) = some (.bool c23) ∧
 ∃ c24 : Bool, w14.cell? ((Addr.mk b1 0 none).add 9) = some (.bool c24) ∧
 K c15 c16 c17 c18 c19 c20 c21 c22 c23 c24 w14

def F.span_Manual (E : Env) (a0 : Int) (a1 : Int) (a2 : Int) (K : (Option Addr) → Int → World → Prop) (w : World) : Prop :=
 JOIN (Bool × Unit) (fun J1 =>
 CND ((a1 : Int) == 0) (
 J1 (true, ()) w
 ) (
 CND (decide ((a0 : Int) > 34359738368)) (
 J1 (true, ()) w
 ) (
 CND (decide ((a1 : Int) > (u64 (34359738368 - a0)))) (
 J1 (true, ()) w
 ) (
 CND (decide ((a1 : Int) > 134217728)) (
 J1 (true, ()) w
 ) (
 CND (decide ((a2 : Int) < 8)) (
 J1 (true, ()) w
 ) (
 J1 (decide (((u64 (a2)) : Int) > (u64 (a1 * 8192))), ()) w
 )
 )
 )
 )
 )
 ) fun s2 _ w3 =>
 CND (s2.1) (
 K none 1 w3
 ) (
 a2 ≠ (0 : Int) ∧
 AL (.cells #[.int .u64 (u64 (a0 * 8192)), .int .i64 (i64 (a1)), .int .i64 2, .int .i64 0, .bool false, .int .i64 a2, .int .i64 (i64 (Int.tdiv (i64 ((i64 (a1)) * 8192)) a2)), .int .i64 0, .bool false, .bool false, .int .u32 0, .slice none 0 0, .slice none 0 0, .int .i64 0] E.t_span_Span) w3 fun b4 w5 =>
 K (some (Addr.mk b4 0 none)) 0 w5
 )

def F.mheap_is (E : Env) (a0 : Int) (K : Bool → World → Prop) (w : World) : Prop :=
 CND (decide ((a0 : Int) ≥ 0)) (
 K (decide ((a0 : Int) < 64)) w
 ) (
 K false w
 )

def F.pcache_Cache_Empty (E : Env) (a0 : (Option Addr)) (K : Bool → World → Prop) (w : World) : Prop :=
 NC a0 fun p1 =>
 ∃ x2 : Int, w.cell? (p1.add 1) = some (.int .u64 x2) ∧
 K ((x2 : Int) == 0) w

def F.stretch_Set_All (E : Env) (a0 : (Option Addr)) (K : SlV → World → Prop) (w : World) : Prop :=
 NC a0 fun p1 =>
 ∃ x2 : SlV, w.cell? p1 = some (.slice x2.base x2.len x2.cap) ∧
 K x2 w

def F.radix_Tree_Find (E : Env) (a0 : (Option Addr)) (a1 : Int) (K : Int → Bool → World → Prop) (w : World) : Prop :=
 CND ((a1 : Int) == 0) (
 K 0 false w
 ) (
 NC a0 fun p1 =>
 F.stretch_Set_All E (some (p1.add 2)) (fun r2 w3 =>
 LOOP (Int × Unit) (0, ()) w3 fun s4 _ w5 next6 =>
 CND (decide ((s4.1 : Int) < ((r2.len : Nat) : Int))) (
 NC r2.base fun p7 =>
 ((0 : Int) ≤ s4.1 ∧ (s4.1 : Int) < (r2.len : Nat)) ∧
 ∃ c8 : Int, w5.cell? ((p7.add (Int.toNat s4.1 * 2)).add 0) = some (.int .u64 c8) ∧
 ∃ c9 : Int, w5.cell? ((p7.add (Int.toNat s4.1 * 2)).add 1) = some (.int .u64 c9) ∧
 AL (.cells #[.int .u64 0, .int .u64 0] E.t_stretch_One) w5 fun b10 w11 =>
 stCells (Addr.mk b10 0 none) 0 [.int .u64 c8, .int .u64 c9] w11 fun w12 =>
 ∃ x13 : Int, w12.cell? ((Addr.mk b10 0 none).add 1) = some (.int .u64 x13) ∧
 ∃ x14 : Int, w12.cell? (Addr.mk b10 0 none) = some (.int .u64 x14) ∧
 CND (decide (((u64 (x13 - x14)) : Int) ≥ a1)) (
 ∃ x15 : Int, w12.cell? (Addr.mk b10 0 none) = some (.int .u64 x15) ∧
 K x15 true w12
 ) (
 next6 (i64 (s4.1 + 1), ()) w12
 )
 ) (
 K 0 false w5
 )
 ) w
 )

def F.sort_Search (E : Env) (a0 : Int) (a1 : Value) (K : Int → World → Prop) (w : World) : Prop :=
 LOOP (Int × Int × Unit) (0, a0, ()) w fun s1 _ w2 next3 =>
 CND (decide ((s1.1 : Int) < s1.2.1)) (
 (0 : Int) ≤ 1 ∧
 LET (i64 (Int.fdiv (u64 (i64 (s1.1 + s1.2.1))) (2 ^ (min (Int.toNat 1) (IntKind.bits .u64)))) : Int) fun h_4 =>
 DYN E.call a1 #[.int .i64 h_4] w2 fun r5 w6 =>
 ∃ x7 : Bool, r5 = .bool x7 ∧
 CND (!x7) (
 next3 (i64 (h_4 + 1), s1.2.1, ()) w6
 ) (
 next3 (s1.1, h_4, ()) w6
 )
 ) (
 K s1.1 w2
 )

def F.stretch_Set_at (E : Env) (a0 : (Option Addr)) (a1 : Int) (K : Int → World → Prop) (w : World) : Prop :=
 AL (.cells #[.pointer a0] E.t__stretch_Set) w fun b1 w2 =>
 AL (.cells #[.int .u64 a1] E.t_uint64) w2 fun b3 w4 =>
 ∃ x5 : (Option Addr), w4.cell? (Addr.mk b1 0 none) = some (.pointer x5) ∧
 NC x5 fun p6 =>
 ∃ x7 : SlV, w4.cell? p6 = some (.slice x7.base x7.len x7.cap) ∧
 F.sort_Search E ((x7.len : Nat) : Int) (.func (.func E.f_stretch_Set_at_1) #[] #[.pointer (some (Addr.mk b1 0 none)), .pointer (some (Addr.mk b3 0 none))]) (fun r8 w9 =>
 K r8 w9
 ) w4

def F.stretch_Set_Count (E : Env) (a0 : (Option Addr)) (a1 : Int) (a2 : Int) (K : Int → World → Prop) (w : World) : Prop :=
 F.stretch_Set_at E a0 a1 (fun r1 w2 =>
 LOOP (Int × Int × Unit) (0, r1, ()) w2 fun s3 _ w4 next5 =>
 NC a0 fun p6 =>
 ∃ x7 : SlV, w4.cell? p6 = some (.slice x7.base x7.len x7.cap) ∧
 CND (decide ((s3.2.1 : Int) < ((x7.len : Nat) : Int))) (
 NC a0 fun p8 =>
 ∃ x9 : SlV, w4.cell? p8 = some (.slice x9.base x9.len x9.cap) ∧
 NC x9.base fun p10 =>
 ((0 : Int) ≤ s3.2.1 ∧ (s3.2.1 : Int) < (x9.len : Nat)) ∧
 ∃ x11 : Int, w4.cell? (p10.add (Int.toNat s3.2.1 * 2)) = some (.int .u64 x11) ∧
 CND (decide ((x11 : Int) < a2)) (
 NC a0 fun p12 =>
 ∃ x13 : SlV, w4.drew.cell? p12 = some (.slice x13.base x13.len x13.cap) ∧
 NC x13.base fun p14 =>
 ((0 : Int) ≤ s3.2.1 ∧ (s3.2.1 : Int) < (x13.len : Nat)) ∧
 ∃ x15 : Int, w4.drew.cell? ((p14.add (Int.toNat s3.2.1 * 2)).add 1) = some (.int .u64 x15) ∧
 NC a0 fun p16 =>
 ∃ x17 : SlV, w4.drew.cell? p16 = some (.slice x17.base x17.len x17.cap) ∧
 NC x17.base fun p18 =>
 ((0 : Int) ≤ s3.2.1 ∧ (s3.2.1 : Int) < (x17.len : Nat)) ∧
 ∃ x19 : Int, w4.drew.cell? (p18.add (Int.toNat s3.2.1 * 2)) = some (.int .u64 x19) ∧
 LET (u64 (s3.1 + (u64 ((minI x15 a2) - (maxI x19 a1)))) : Int) fun n_20 =>
 next5 (n_20, i64 (s3.2.1 + 1), ()) w4.drew
 ) (
 K s3.1 w4
 )
 ) (
 K s3.1 w4
 )
 ) w

def F.radix_Tree_looked (E : Env) (a0 : (Option Addr)) (a1 : Int) (a2 : Int) (a3 : Bool) (a4 : Int) (K : Int → World → Prop) (w : World) : Prop :=
 JOIN (Int × Unit) (fun J1 =>
 CND (a3) (
 J1 (a2, ()) w
 ) (
 J1 (0, ()) w
 )
 ) fun s2 _ w3 =>
 JOIN (Bool × Unit) (fun J4 =>
 CND ((a2 : Int) == 0) (
 J4 (true, ()) w3
 ) (
 CND (decide ((a1 : Int) ≥ 34359738368)) (
 J4 (true, ()) w3
 ) (
 CND (decide ((a2 : Int) > (u64 (34359738368 - a1)))) (
 J4 (true, ()) w3
 ) (
 NC a0 fun p7 =>
 F.stretch_Set_Count E (some p7) a1 (u64 (a1 + a2)) (fun r8 w9 =>
 J4 ((r8 : Int) != a2, ()) w9
 ) w3
 )
 )
 )
 ) fun s5 _ w6 =>
 CND (s5.1) (
 K 10 w6
 ) (
 NC a0 fun p10 =>
 F.stretch_Set_Count E (some (p10.add 2)) a1 (u64 (a1 + a2)) (fun r11 w12 =>
 CND ((r11 : Int) != s2.1) (
 K a4 w12
 ) (
 K 0 w12
 )
 ) w6
 )

def F.stretch_Set_Cut (E : Env) (a0 : (Option Addr)) (a1 : Int) (a2 : Int) (K : World → Prop) (w : World) : Prop :=
 CND (decide ((a1 : Int) ≥ a2)) (
 K  w
 ) (
 NC a0 fun p1 =>
 ∃ x2 : Int, w.drew.cell? (p1.add 1) = some (.int .u64 x2) ∧
 F.stretch_Set_Count E a0 a1 a2 (fun r3 w4 =>
 w4.cell? (p1.add 1) = some (.int .u64 x2) ∧
 NC a0 fun p5 =>
 stCells (p5.add 1) 0 [.int .u64 (u64 (x2 - r3))] w4 fun w6 =>
 F.stretch_Set_at E a0 a1 (fun r7 w8 =>
 JOIN (Int × SlV × Unit) (fun J9 =>
 LOOP (Int × SlV × Unit) (r7, ⟨none, 0, 0⟩, ()) w8 fun s12 _ w13 next14 =>
 NC a0 fun p15 =>
 ∃ x16 : SlV, w13.cell? p15 = some (.slice x16.base x16.len x16.cap) ∧
 CND (decide ((s12.1 : Int) < ((x16.len : Nat) : Int))) (
 NC a0 fun p17 =>
 ∃ x18 : SlV, w13.cell? p17 = some (.slice x18.base x18.len x18.cap) ∧
 NC x18.base fun p19 =>
 ((0 : Int) ≤ s12.1 ∧ (s12.1 : Int) < (x18.len : Nat)) ∧
 ∃ x20 : Int, w13.cell? (p19.add (Int.toNat s12.1 * 2)) = some (.int .u64 x20) ∧
 CND (decide ((x20 : Int) < a2)) (
 NC a0 fun p21 =>
 ∃ x22 : SlV, w13.cell? p21 = some (.slice x22.base x22.len x22.cap) ∧
 NC x22.base fun p23 =>
 ((0 : Int) ≤ s12.1 ∧ (s12.1 : Int) < (x22.len : Nat)) ∧
 ∃ c24 : Int, w13.cell? ((p23.add (Int.toNat s12.1 * 2)).add 0) = some (.int .u64 c24) ∧
 ∃ c25 : Int, w13.cell? ((p23.add (Int.toNat s12.1 * 2)).add 1) = some (.int .u64 c25) ∧
 AL (.cells #[.int .u64 0, .int .u64 0] E.t_stretch_One) w13 fun b26 w27 =>
 stCells (Addr.mk b26 0 none) 0 [.int .u64 c24, .int .u64 c25] w27 fun w28 =>
 JOIN (SlV × Unit) (fun J29 =>
 ∃ x32 : Int, w28.cell? (Addr.mk b26 0 none) = some (.int .u64 x32) ∧
 CND (decide ((x32 : Int) < a1)) (
 ∃ x33 : Int, w28.cell? (Addr.mk b26 0 none) = some (.int .u64 x33) ∧
 AL (.cells ⟨[.int .u64 x33, .int .u64 a1]⟩ E.t_stretch_One) w28 fun b34 w35 =>
 APP E.t_stretch_One 2 16 #[.int .u64 0, .int .u64 0] s12.2.1 ⟨(some (Addr.mk b34 0 none)), 1, 1⟩ w35 fun s36 w37 =>
 J29 (s36, ()) w37
 ) (
 J29 (s12.2.1, ()) w28
 )
 ) fun s30 _ w31 =>
 ∃ x38 : Int, w31.cell? ((Addr.mk b26 0 none).add 1) = some (.int .u64 x38) ∧
 CND (decide ((x38 : Int) > a2)) (
 ∃ x39 : Int, w31.cell? ((Addr.mk b26 0 none).add 1) = some (.int .u64 x39) ∧
 AL (.cells ⟨[.int .u64 a2, .int .u64 x39]⟩ E.t_stretch_One) w31 fun b40 w41 =>
 APP E.t_stretch_One 2 16 #[.int .u64 0, .int .u64 0] s30.1 ⟨(some (Addr.mk b40 0 none)), 1, 1⟩ w41 fun s42 w43 =>
 next14 (i64 (s12.1 + 1), s42, ()) w43
 ) (
 next14 (i64 (s12.1 + 1), s30.1, ()) w31
 )
 ) (
 J9 (s12.1, s12.2.1, ()) w13
 )
 ) (
 J9 (s12.1, s12.2.1, ()) w13
 )
 ) fun s10 _ w11 =>
 NC a0 fun p44 =>
 ∃ x45 : SlV, w11.drew.cell? p44 = some (.slice x45.base x45.len x45.cap) ∧
 ((0 : Int) ≤ r7 ∧ (r7 : Int) ≤ (x45.cap : Nat)) ∧
 NC a0 fun p46 =>
 ∃ x47 : SlV, w11.drew.cell? p46 = some (.slice x47.base x47.len x47.cap) ∧
 ((0 : Int) ≤ s10.1 ∧ (s10.1 : Int) ≤ (x47.len : Nat)) ∧
 AL (.cells ⟨[]⟩ E.t_stretch_One) w11.drew fun b48 w49 =>
 w49.cell? p46 = some (.slice x47.base x47.len x47.cap) ∧
 w49.cell? p44 = some (.slice x45.base x45.len x45.cap) ∧
 APP E.t_stretch_One 2 16 #[.int .u64 0, .int .u64 0] ⟨(some (Addr.mk b48 0 none)), 0, 0⟩ ⟨(slB x45.base x45.cap 0 2), (Int.toNat r7), x45.cap⟩ w49 fun s50 w51 =>
 w51.cell? p46 = some (.slice x47.base x47.len x47.cap) ∧
 w51.cell? p44 = some (.slice x45.base x45.len x45.cap) ∧
 APP E.t_stretch_One 2 16 #[.int .u64 0, .int .u64 0] s50 s10.2.1 w51 fun s52 w53 =>
 w53.cell? p46 = some (.slice x47.base x47.len x47.cap) ∧
 w53.cell? p44 = some (.slice x45.base x45.len x45.cap) ∧
 APP E.t_stretch_One 2 16 #[.int .u64 0, .int .u64 0] s52 ⟨(slB x47.base x47.cap (Int.toNat s10.1) 2), (x47.len - (Int.toNat s10.1)), (x47.cap - (Int.toNat s10.1))⟩ w53 fun s54 w55 =>
 w55.cell? p46 = some (.slice x47.base x47.len x47.cap) ∧
 w55.cell? p44 = some (.slice x45.base x45.len x45.cap) ∧
 NC a0 fun p56 =>
 stCells p56 0 [.slice s54.base s54.len s54.cap] w55 fun w57 =>
 K  w57
 ) w6
 ) w.drew
 )

def F.radix_Tree_Take (E : Env) (a0 : (Option Addr)) (a1 : Int) (a2 : Int) (K : Int → Int → World → Prop) (w : World) : Prop :=
 F.radix_Tree_looked E a0 a1 a2 true 32 (fun r1 w2 =>
 CND ((r1 : Int) != 0) (
 K 0 r1 w2
 ) (
 NC a0 fun p3 =>
 F.stretch_Set_Count E (some (p3.add 4)) a1 (u64 (a1 + a2)) (fun r4 w5 =>
 NC a0 fun p6 =>
 F.stretch_Set_Cut E (some (p6.add 2)) a1 (u64 (a1 + a2)) (fun  w7 =>
 NC a0 fun p8 =>
 F.stretch_Set_Cut E (some (p8.add 4)) a1 (u64 (a1 + a2)) (fun  w9 =>
 NC a0 fun p10 =>
 F.stretch_Set_Cut E (some (p10.add 6)) a1 (u64 (a1 + a2)) (fun  w11 =>
 F.radix_Tree_changed E a0 (fun  w12 =>
 K r4 0 w12
 ) w11
 ) w9
 ) w7
 ) w5
 ) w2
 )
 ) w

def F.pcache_Cache_Fill (E : Env) (a0 : (Option Addr)) (a1 : (Option Addr)) (K : Int → World → Prop) (w : World) : Prop :=
 F.radix_Tree_Find E a1 1 (fun r1 r2 w3 =>
 F.pcache_Cache_Empty E a0 (fun r4 w5 =>
 CND (!r4) (
 K 33 w5
 ) (
 CND (!r2) (
 K 30 w5
 ) (
 64 ≠ (0 : Int) ∧
 NC a0 fun p6 =>
 stCells p6 0 [.int .u64 (u64 ((u64 (Int.tdiv r1 64)) * 64))] w5 fun w7 =>
 LOOP (Int × Unit) (0, ()) w7 fun s8 _ w9 next10 =>
 CND (decide ((s8.1 : Int) < 64)) (
 NC a0 fun p11 =>
 ∃ x12 : Int, w9.cell? p11 = some (.int .u64 x12) ∧
 F.radix_Tree_Take E a1 (u64 (x12 + s8.1)) 1 (fun r13 r14 w15 =>
 CND ((r14 : Int) == 0) (
 NC a0 fun p16 =>
 ∃ x17 : Int, w15.cell? (p16.add 1) = some (.int .u64 x17) ∧
 (0 : Int) ≤ s8.1 ∧
 NC a0 fun p18 =>
 stCells (p18.add 1) 0 [.int .u64 (bitK .u64 1 x17 (u64 (1 * 2 ^ (min (Int.toNat s8.1) (IntKind.bits .u64)))))] w15 fun w19 =>
 NC a0 fun p20 =>
 ∃ x21 : Int, w19.cell? (p20.add 2) = some (.int .u64 x21) ∧
 (0 : Int) ≤ s8.1 ∧
 NC a0 fun p22 =>
 stCells (p22.add 2) 0 [.int .u64 (bitK .u64 1 x21 (u64 (r13 * 2 ^ (min (Int.toNat s8.1) (IntKind.bits .u64)))))] w19 fun w23 =>
 next10 (u64 (s8.1 + 1), ()) w23
 ) (
 next10 (u64 (s8.1 + 1), ()) w15
 )
 ) w9
 ) (
 K 0 w9
 )
 )
 )
 ) w3
 ) w

def F.pcache_find (E : Env) (a0 : Int) (a1 : Int) (K : Int → Bool → World → Prop) (w : World) : Prop :=
 LOOP (Int × Int × Int × Unit) (a0, a1, i64 (a1 - 1), ()) w fun s1 _ w2 next3 =>
 CND (decide ((s1.2.2.1 : Int) > 0)) (
 2 ≠ (0 : Int) ∧
 LET (minI s1.2.2.1 (maxI 1 (i64 (Int.tdiv s1.2.1 2))) : Int) fun by_4 =>
 (0 : Int) ≤ by_4 ∧
 LET (bitK .u64 0 s1.1 (Int.fdiv s1.1 (2 ^ (min (Int.toNat by_4) (IntKind.bits .u64)))) : Int) fun w_5 =>
 next3 (w_5, i64 (s1.2.1 - by_4), i64 (s1.2.2.1 - by_4), ()) w2
 ) (
 F.math_bits_TrailingZeros64 E s1.1 (fun r6 w7 =>
 K r6 ((s1.1 : Int) != 0) w7
 ) w2
 )

def F.math_bits_OnesCount64 (E : Env) (a0 : Int) (K : Int → World → Prop) (w : World) : Prop :=
 (0 : Int) ≤ 1 ∧
 LET (u64 ((bitK .u64 0 (Int.fdiv a0 (2 ^ (min (Int.toNat 1) (IntKind.bits .u64)))) 6148914691236517205) + (bitK .u64 0 a0 6148914691236517205)) : Int) fun x_1 =>
 (0 : Int) ≤ 2 ∧
 LET (u64 ((bitK .u64 0 (Int.fdiv x_1 (2 ^ (min (Int.toNat 2) (IntKind.bits .u64)))) 3689348814741910323) + (bitK .u64 0 x_1 3689348814741910323)) : Int) fun x_2 =>
 (0 : Int) ≤ 4 ∧
 LET (bitK .u64 0 (u64 ((Int.fdiv x_2 (2 ^ (min (Int.toNat 4) (IntKind.bits .u64)))) + x_2)) 1085102592571150095 : Int) fun x_3 =>
 (0 : Int) ≤ 8 ∧
 LET (u64 (x_3 + (Int.fdiv x_3 (2 ^ (min (Int.toNat 8) (IntKind.bits .u64))))) : Int) fun x_4 =>
 (0 : Int) ≤ 16 ∧
 LET (u64 (x_4 + (Int.fdiv x_4 (2 ^ (min (Int.toNat 16) (IntKind.bits .u64))))) : Int) fun x_5 =>
 (0 : Int) ≤ 32 ∧
 LET (u64 (x_5 + (Int.fdiv x_5 (2 ^ (min (Int.toNat 32) (IntKind.bits .u64))))) : Int) fun x_6 =>
 LET (bitK .i64 0 (i64 (x_6)) 127 : Int) fun t7 =>
 K t7 w

def F.pcache_Cache_Alloc (E : Env) (a0 : (Option Addr)) (a1 : Int) (K : Int → Int → Int → World → Prop) (w : World) : Prop :=
 JOIN (Bool × Unit) (fun J1 =>
 CND (decide ((a1 : Int) < 1)) (
 J1 (true, ()) w
 ) (
 J1 (decide ((a1 : Int) > 64), ()) w
 )
 ) fun s2 _ w3 =>
 CND (s2.1) (
 K 0 0 1 w3
 ) (
 NC a0 fun p4 =>
 ∃ x5 : Int, w3.cell? (p4.add 1) = some (.int .u64 x5) ∧
 F.pcache_find E x5 a1 (fun r6 r7 w8 =>
 CND (!r7) (
 K 0 0 30 w8
 ) (
 (0 : Int) ≤ (i64 (64 - a1)) ∧
 (0 : Int) ≤ r6 ∧
 LET (u64 ((Int.fdiv 18446744073709551615 (2 ^ (min (Int.toNat (i64 (64 - a1))) (IntKind.bits .u64)))) * 2 ^ (min (Int.toNat r6) (IntKind.bits .u64))) : Int) fun mask_9 =>
 NC a0 fun p10 =>
 ∃ x11 : Int, w8.cell? (p10.add 2) = some (.int .u64 x11) ∧
 F.math_bits_OnesCount64 E (bitK .u64 0 x11 mask_9) (fun r12 w13 =>
 NC a0 fun p14 =>
 ∃ x15 : Int, w13.cell? (p14.add 1) = some (.int .u64 x15) ∧
 NC a0 fun p16 =>
 stCells (p16.add 1) 0 [.int .u64 (bitK .u64 3 x15 mask_9)] w13 fun w17 =>
 NC a0 fun p18 =>
 ∃ x19 : Int, w17.cell? (p18.add 2) = some (.int .u64 x19) ∧
 NC a0 fun p20 =>
 stCells (p20.add 2) 0 [.int .u64 (bitK .u64 3 x19 mask_9)] w17 fun w21 =>
 NC a0 fun p22 =>
 ∃ x23 : Int, w21.cell? p22 = some (.int .u64 x23) ∧
 K (u64 (x23 + (u64 (r6)))) r12 0 w21
 ) w8
 )
 ) w3
 )

def F.radix_Tree_Alloc (E : Env) (a0 : (Option Addr)) (a1 : Int) (K : Int → Int → Int → World → Prop) (w : World) : Prop :=
 CND ((a1 : Int) == 0) (
 K 0 0 1 w
 ) (
 F.radix_Tree_Find E a0 a1 (fun r1 r2 w3 =>
 CND (!r2) (
 K 0 0 30 w3
 ) (
 F.radix_Tree_Take E a0 r1 a1 (fun r4 r5 w6 =>
 K r1 r4 r5 w6
 ) w3
 )
 ) w
 )

def F.mheap_Heap_got (E : Env) (a0 : (Option Addr)) (a1 : Int) (a2 : Int) (K : Int → Bool → World → Prop) (w : World) : Prop :=
 JOIN (Unit) (fun J1 =>
 JOIN (Bool × Unit) (fun J4 =>
 F.mheap_is E a1 (fun r7 w8 =>
 CND (r7) (
 J4 (decide ((a2 : Int) < 16), ()) w8
 ) (
 J4 (false, ()) w8
 )
 ) w
 ) fun s5 _ w6 =>
 CND (s5.1) (
 NC a0 fun p9 =>
 ((0 : Int) ≤ a1 ∧ (a1 : Int) < (64 : Nat)) ∧
 ∃ x10 : (Option Addr), w6.cell? ((p9.add 5).add (Int.toNat a1 * 1)) = some (.pointer x10) ∧
 JOIN (Unit) (fun J11 =>
 F.pcache_Cache_Empty E x10 (fun r14 w15 =>
 CND (r14) (
 NC a0 fun p16 =>
 ∃ x17 : (Option Addr), w15.cell? (p16.add 1) = some (.pointer x17) ∧
 F.pcache_Cache_Fill E x10 x17 (fun r18 w19 =>
 J11 (()) w19
 ) w15
 ) (
 J11 (()) w15
 )
 ) w6
 ) fun s12 _ w13 =>
 F.pcache_Cache_Alloc E x10 (i64 (a2)) (fun r20 r21 r22 w23 =>
 CND ((r22 : Int) == 0) (
 K r20 true w23
 ) (
 J1 (()) w23
 )
 ) w13
 ) (
 J1 (()) w6
 )
 ) fun s2 _ w3 =>
 NC a0 fun p24 =>
 ∃ x25 : (Option Addr), w3.cell? (p24.add 1) = some (.pointer x25) ∧
 F.radix_Tree_Alloc E x25 a2 (fun r26 r27 r28 w29 =>
 K r26 ((r28 : Int) == 0) w29
 ) w3

def F.vmem_used_bool_ (E : Env) (a0 : (Option Addr)) (K : Bool → Bool → World → Prop) (w : World) : Prop :=
 NC a0 fun p1 =>
 ∃ x2 : SlV, w.cell? p1 = some (.slice x2.base x2.len x2.cap) ∧
 CND (decide ((((x2.len : Nat) : Int) : Int) > 0)) (
 NC a0 fun p3 =>
 ∃ x4 : SlV, w.cell? p3 = some (.slice x4.base x4.len x4.cap) ∧
 NC x4.base fun p5 =>
 ((0 : Int) ≤ 0 ∧ (0 : Int) < (x4.len : Nat)) ∧
 ∃ x6 : Bool, w.cell? (p5.add (Int.toNat 0 * 1)) = some (.bool x6) ∧
 NC a0 fun p7 =>
 ∃ x8 : SlV, w.cell? p7 = some (.slice x8.base x8.len x8.cap) ∧
 ((0 : Int) ≤ 1 ∧ (1 : Int) ≤ (x8.len : Nat)) ∧
 NC a0 fun p9 =>
 stCells p9 0 [.slice (slB x8.base x8.cap (Int.toNat 1) 1) (x8.len - (Int.toNat 1)) (x8.cap - (Int.toNat 1))] w fun w10 =>
 K x6 true w10
 ) (
 K false false w
 )

def F.vmem_used_uint64_ (E : Env) (a0 : (Option Addr)) (K : Int → Bool → World → Prop) (w : World) : Prop :=
 NC a0 fun p1 =>
 ∃ x2 : SlV, w.cell? p1 = some (.slice x2.base x2.len x2.cap) ∧
 CND (decide ((((x2.len : Nat) : Int) : Int) > 0)) (
 NC a0 fun p3 =>
 ∃ x4 : SlV, w.cell? p3 = some (.slice x4.base x4.len x4.cap) ∧
 NC x4.base fun p5 =>
 ((0 : Int) ≤ 0 ∧ (0 : Int) < (x4.len : Nat)) ∧
 ∃ x6 : Int, w.cell? (p5.add (Int.toNat 0 * 1)) = some (.int .u64 x6) ∧
 NC a0 fun p7 =>
 ∃ x8 : SlV, w.cell? p7 = some (.slice x8.base x8.len x8.cap) ∧
 ((0 : Int) ≤ 1 ∧ (1 : Int) ≤ (x8.len : Nat)) ∧
 NC a0 fun p9 =>
 stCells p9 0 [.slice (slB x8.base x8.cap (Int.toNat 1) 1) (x8.len - (Int.toNat 1)) (x8.cap - (Int.toNat 1))] w fun w10 =>
 K x6 true w10
 ) (
 K 0 false w
 )

def F.vmem_Mem_fits (E : Env) (a0 : (Option Addr)) (a1 : Int) (a2 : Int) (K : Bool → World → Prop) (w : World) : Prop :=
 512 ≠ (0 : Int) ∧
 CND (((Int.tmod a1 512) : Int) == 0) (
 CND ((a1 : Int) != 0) (
 CND (decide ((a1 : Int) ≤ 34359738368)) (
 CND (decide ((a2 : Int) ≤ (u64 (34359738368 - a1)))) (
 NC a0 fun p1 =>
 F.stretch_Set_Count E (some (p1.add 3)) a1 (u64 (a1 + a2)) (fun r2 w3 =>
 K ((r2 : Int) == 0) w3
 ) w
 ) (
 K false w
 )
 ) (
 K false w
 )
 ) (
 K false w
 )
 ) (
 K false w
 )

def F.vmem_Mem_place (E : Env) (a0 : (Option Addr)) (a1 : Int) (a2 : Int) (K : Int → Bool → World → Prop) (w : World) : Prop :=
 CND (decide ((a1 : Int) > 34359738368)) (
 K 0 false w
 ) (
 512 ≠ (0 : Int) ∧
 LET (maxI (u64 ((u64 (Int.tdiv (u64 ((u64 (a1 + 512)) - 1)) 512)) * 512)) 512 : Int) fun at_1 =>
 JOIN (Int × Unit) (fun J2 =>
 NC a0 fun p5 =>
 F.stretch_Set_All E (some (p5.add 3)) (fun r6 w7 =>
 LOOP (Int × Int × Unit) (at_1, 0, ()) w7 fun s8 _ w9 next10 =>
 CND (decide ((s8.2.1 : Int) < ((r6.len : Nat) : Int))) (
 NC r6.base fun p11 =>
 ((0 : Int) ≤ s8.2.1 ∧ (s8.2.1 : Int) < (r6.len : Nat)) ∧
 ∃ c12 : Int, w9.cell? ((p11.add (Int.toNat s8.2.1 * 2)).add 0) = some (.int .u64 c12) ∧
 ∃ c13 : Int, w9.cell? ((p11.add (Int.toNat s8.2.1 * 2)).add 1) = some (.int .u64 c13) ∧
 AL (.cells #[.int .u64 0, .int .u64 0] E.t_stretch_One) w9 fun b14 w15 =>
 stCells (Addr.mk b14 0 none) 0 [.int .u64 c12, .int .u64 c13] w15 fun w16 =>
 ∃ x17 : Int, w16.cell? ((Addr.mk b14 0 none).add 1) = some (.int .u64 x17) ∧
 CND (decide ((x17 : Int) ≤ s8.1)) (
 next10 (s8.1, i64 (s8.2.1 + 1), ()) w16
 ) (
 JOIN (Unit) (fun J18 =>
 ∃ x21 : Int, w16.cell? (Addr.mk b14 0 none) = some (.int .u64 x21) ∧
 CND (decide ((x21 : Int) ≥ s8.1)) (
 ∃ x22 : Int, w16.cell? (Addr.mk b14 0 none) = some (.int .u64 x22) ∧
 CND (decide (((u64 (x22 - s8.1)) : Int) ≥ a2)) (
 J2 (s8.1, ()) w16
 ) (
 J18 (()) w16
 )
 ) (
 J18 (()) w16
 )
 ) fun s19 _ w20 =>
 ∃ x23 : Int, w20.cell? ((Addr.mk b14 0 none).add 1) = some (.int .u64 x23) ∧
 512 ≠ (0 : Int) ∧
 LET (u64 ((u64 (Int.tdiv (u64 ((u64 (x23 + 512)) - 1)) 512)) * 512) : Int) fun at_24 =>
 next10 (at_24, i64 (s8.2.1 + 1), ()) w20
 )
 ) (
 J2 (s8.1, ()) w9
 )
 ) w
 ) fun s3 _ w4 =>
 F.vmem_Mem_fits E a0 s3.1 a2 (fun r25 w26 =>
 K s3.1 r25 w26
 ) w4
 )

def F.stretch_Set_Add (E : Env) (a0 : (Option Addr)) (a1 : Int) (a2 : Int) (K : World → Prop) (w : World) : Prop :=
 CND (decide ((a1 : Int) ≥ a2)) (
 K  w
 ) (
 F.stretch_Set_Cut E a0 a1 a2 (fun  w1 =>
 NC a0 fun p2 =>
 ∃ x3 : Int, w1.cell? (p2.add 1) = some (.int .u64 x3) ∧
 NC a0 fun p4 =>
 stCells (p4.add 1) 0 [.int .u64 (u64 (x3 + (u64 (a2 - a1))))] w1 fun w5 =>
 F.stretch_Set_at E a0 a1 (fun r6 w7 =>
 AL (.cells #[.int .u64 0, .int .u64 0] E.t_stretch_One) w7 fun b8 w9 =>
 stCells (Addr.mk b8 0 none) 0 [.int .u64 a1, .int .u64 a2] w9 fun w10 =>
 JOIN (Int × Unit) (fun J11 =>
 JOIN (Bool × Unit) (fun J14 =>
 NC a0 fun p17 =>
 ∃ x18 : SlV, w10.cell? p17 = some (.slice x18.base x18.len x18.cap) ∧
 CND (decide ((r6 : Int) < ((x18.len : Nat) : Int))) (
 NC a0 fun p19 =>
 ∃ x20 : SlV, w10.cell? p19 = some (.slice x20.base x20.len x20.cap) ∧
 NC x20.base fun p21 =>
 ((0 : Int) ≤ r6 ∧ (r6 : Int) < (x20.len : Nat)) ∧
 ∃ x22 : Int, w10.cell? (p21.add (Int.toNat r6 * 2)) = some (.int .u64 x22) ∧
 J14 ((x22 : Int) == a2, ()) w10
 ) (
 J14 (false, ()) w10
 )
 ) fun s15 _ w16 =>
 CND (s15.1) (
 NC a0 fun p23 =>
 ∃ x24 : SlV, w16.cell? p23 = some (.slice x24.base x24.len x24.cap) ∧
 NC x24.base fun p25 =>
 ((0 : Int) ≤ r6 ∧ (r6 : Int) < (x24.len : Nat)) ∧
 ∃ x26 : Int, w16.cell? ((p25.add (Int.toNat r6 * 2)).add 1) = some (.int .u64 x26) ∧
 stCells ((Addr.mk b8 0 none).add 1) 0 [.int .u64 x26] w16 fun w27 =>
 J11 (i64 (r6 + 1), ()) w27
 ) (
 J11 (r6, ()) w16
 )
 ) fun s12 _ w13 =>
 JOIN (Int × Unit) (fun J28 =>
 JOIN (Bool × Unit) (fun J31 =>
 CND (decide ((r6 : Int) > 0)) (
 NC a0 fun p34 =>
 ∃ x35 : SlV, w13.cell? p34 = some (.slice x35.base x35.len x35.cap) ∧
 NC x35.base fun p36 =>
 ((0 : Int) ≤ (i64 (r6 - 1)) ∧ ((i64 (r6 - 1)) : Int) < (x35.len : Nat)) ∧
 ∃ x37 : Int, w13.cell? ((p36.add (Int.toNat (i64 (r6 - 1)) * 2)).add 1) = some (.int .u64 x37) ∧
 J31 ((x37 : Int) == a1, ()) w13
 ) (
 J31 (false, ()) w13
 )
 ) fun s32 _ w33 =>
 CND (s32.1) (
 NC a0 fun p38 =>
 ∃ x39 : SlV, w33.cell? p38 = some (.slice x39.base x39.len x39.cap) ∧
 NC x39.base fun p40 =>
 ((0 : Int) ≤ (i64 (r6 - 1)) ∧ ((i64 (r6 - 1)) : Int) < (x39.len : Nat)) ∧
 ∃ x41 : Int, w33.cell? (p40.add (Int.toNat (i64 (r6 - 1)) * 2)) = some (.int .u64 x41) ∧
 stCells (Addr.mk b8 0 none) 0 [.int .u64 x41] w33 fun w42 =>
 J28 (i64 (r6 - 1), ()) w42
 ) (
 J28 (r6, ()) w33
 )
 ) fun s29 _ w30 =>
 NC a0 fun p43 =>
 ∃ x44 : SlV, w30.drew.cell? p43 = some (.slice x44.base x44.len x44.cap) ∧
 ((0 : Int) ≤ s29.1 ∧ (s29.1 : Int) ≤ (x44.cap : Nat)) ∧
 ∃ c45 : Int, w30.drew.cell? ((Addr.mk b8 0 none).add 0) = some (.int .u64 c45) ∧
 ∃ c46 : Int, w30.drew.cell? ((Addr.mk b8 0 none).add 1) = some (.int .u64 c46) ∧
 NC a0 fun p47 =>
 ∃ x48 : SlV, w30.drew.cell? p47 = some (.slice x48.base x48.len x48.cap) ∧
 ((0 : Int) ≤ s12.1 ∧ (s12.1 : Int) ≤ (x48.len : Nat)) ∧
 (
 AL (.cells ⟨[]⟩ E.t_stretch_One) w30.drew fun b49 w50 =>
 w50.cell? p47 = some (.slice x48.base x48.len x48.cap) ∧
 (w50.cell? ((Addr.mk b8 0 none).add 0) = some (.int .u64 c45) ∧ (w50.cell? ((Addr.mk b8 0 none).add 1) = some (.int .u64 c46) ∧ True)) ∧
 w50.cell? p43 = some (.slice x44.base x44.len x44.cap) ∧
 (
 APP E.t_stretch_One 2 16 #[.int .u64 0, .int .u64 0] ⟨(some (Addr.mk b49 0 none)), 0, 0⟩ ⟨(slB x44.base x44.cap 0 2), (Int.toNat s29.1), x44.cap⟩ w50 fun s51 w52 =>
 w52.cell? p47 = some (.slice x48.base x48.len x48.cap) ∧
 (w52.cell? ((Addr.mk b8 0 none).add 0) = some (.int .u64 c45) ∧ (w52.cell? ((Addr.mk b8 0 none).add 1) = some (.int .u64 c46) ∧ True)) ∧
 w52.cell? p43 = some (.slice x44.base x44.len x44.cap) ∧
 AL (.cells ⟨[.int .u64 c45, .int .u64 c46]⟩ E.t_stretch_One) w52 fun b53 w54 =>
 w54.cell? p47 = some (.slice x48.base x48.len x48.cap) ∧
 w54.cell? p43 = some (.slice x44.base x44.len x44.cap) ∧
 APP E.t_stretch_One 2 16 #[.int .u64 0, .int .u64 0] s51 ⟨(some (Addr.mk b53 0 none)), 1, 1⟩ w54 fun s55 w56 =>
 w56.cell? p47 = some (.slice x48.base x48.len x48.cap) ∧
 w56.cell? p43 = some (.slice x44.base x44.len x44.cap) ∧
 APP E.t_stretch_One 2 16 #[.int .u64 0, .int .u64 0] s55 ⟨(slB x48.base x48.cap (Int.toNat s12.1) 2), (x48.len - (Int.toNat s12.1)), (x48.cap - (Int.toNat s12.1))⟩ w56 fun s57 w58 =>
 w58.cell? p47 = some (.slice x48.base x48.len x48.cap) ∧
 w58.cell? p43 = some (.slice x44.base x44.len x44.cap) ∧
 NC a0 fun p59 =>
 stCells p59 0 [.slice s57.base s57.len s57.cap] w58 fun w60 =>
 K  w60

 ) ∧ (
 AL (.cells ⟨[.int .u64 c45, .int .u64 c46]⟩ E.t_stretch_One) w50 fun b61 w62 =>
 w62.cell? p47 = some (.slice x48.base x48.len x48.cap) ∧
 w62.cell? p43 = some (.slice x44.base x44.len x44.cap) ∧
 APP E.t_stretch_One 2 16 #[.int .u64 0, .int .u64 0] ⟨(some (Addr.mk b49 0 none)), 0, 0⟩ ⟨(slB x44.base x44.cap 0 2), (Int.toNat s29.1), x44.cap⟩ w62 fun s63 w64 =>
 w64.cell? p47 = some (.slice x48.base x48.len x48.cap) ∧
 w64.cell? p43 = some (.slice x44.base x44.len x44.cap) ∧
 APP E.t_stretch_One 2 16 #[.int .u64 0, .int .u64 0] s63 ⟨(some (Addr.mk b61 0 none)), 1, 1⟩ w64 fun s65 w66 =>
 w66.cell? p47 = some (.slice x48.base x48.len x48.cap) ∧
 w66.cell? p43 = some (.slice x44.base x44.len x44.cap) ∧
 APP E.t_stretch_One 2 16 #[.int .u64 0, .int .u64 0] s65 ⟨(slB x48.base x48.cap (Int.toNat s12.1) 2), (x48.len - (Int.toNat s12.1)), (x48.cap - (Int.toNat s12.1))⟩ w66 fun s67 w68 =>
 w68.cell? p47 = some (.slice x48.base x48.len x48.cap) ∧
 w68.cell? p43 = some (.slice x44.base x44.len x44.cap) ∧
 NC a0 fun p69 =>
 stCells p69 0 [.slice s67.base s67.len s67.cap] w68 fun w70 =>
 K  w70
 )

 ) ∧ (
 AL (.cells ⟨[.int .u64 c45, .int .u64 c46]⟩ E.t_stretch_One) w30.drew fun b71 w72 =>
 w72.cell? p47 = some (.slice x48.base x48.len x48.cap) ∧
 w72.cell? p43 = some (.slice x44.base x44.len x44.cap) ∧
 AL (.cells ⟨[]⟩ E.t_stretch_One) w72 fun b73 w74 =>
 w74.cell? p47 = some (.slice x48.base x48.len x48.cap) ∧
 w74.cell? p43 = some (.slice x44.base x44.len x44.cap) ∧
 APP E.t_stretch_One 2 16 #[.int .u64 0, .int .u64 0] ⟨(some (Addr.mk b73 0 none)), 0, 0⟩ ⟨(slB x44.base x44.cap 0 2), (Int.toNat s29.1), x44.cap⟩ w74 fun s75 w76 =>
 w76.cell? p47 = some (.slice x48.base x48.len x48.cap) ∧
 w76.cell? p43 = some (.slice x44.base x44.len x44.cap) ∧
 APP E.t_stretch_One 2 16 #[.int .u64 0, .int .u64 0] s75 ⟨(some (Addr.mk b71 0 none)), 1, 1⟩ w76 fun s77 w78 =>
 w78.cell? p47 = some (.slice x48.base x48.len x48.cap) ∧
 w78.cell? p43 = some (.slice x44.base x44.len x44.cap) ∧
 APP E.t_stretch_One 2 16 #[.int .u64 0, .int .u64 0] s77 ⟨(slB x48.base x48.cap (Int.toNat s12.1) 2), (x48.len - (Int.toNat s12.1)), (x48.cap - (Int.toNat s12.1))⟩ w78 fun s79 w80 =>
 w80.cell? p47 = some (.slice x48.base x48.len x48.cap) ∧
 w80.cell? p43 = some (.slice x44.base x44.len x44.cap) ∧
 NC a0 fun p81 =>
 stCells p81 0 [.slice s79.base s79.len s79.cap] w80 fun w82 =>
 K  w82
 )
 ) w5
 ) w
 )

def F.vmem_Mem_Reserve (E : Env) (a0 : (Option Addr)) (a1 : Int) (a2 : Int) (K : Int → Int → World → Prop) (w : World) : Prop :=
 JOIN (Bool × Unit) (fun J1 =>
 CND ((a2 : Int) == 0) (
 J1 (true, ()) w
 ) (
 512 ≠ (0 : Int) ∧
 CND (((Int.tmod a2 512) : Int) != 0) (
 J1 (true, ()) w
 ) (
 J1 (decide ((a2 : Int) > 134217728), ()) w
 )
 )
 ) fun s2 _ w3 =>
 CND (s2.1) (
 K 0 1 w3
 ) (
 NC a0 fun p4 =>
 F.vmem_used_bool_ E (some (p4.add 1)) (fun r5 r6 w7 =>
 CND (r5) (
 K 0 13 w7
 ) (
 NC a0 fun p8 =>
 F.vmem_used_uint64_ E (some p8) (fun r9 r10 w11 =>
 JOIN (Bool × Unit) (fun J12 =>
 CND (r10) (
 F.vmem_Mem_fits E a0 r9 a2 (fun r15 w16 =>
 J12 (r15, ()) w16
 ) w11
 ) (
 J12 (false, ()) w11
 )
 ) fun s13 _ w14 =>
 AL (.cells ⟨[.int .u64 a1, .int .u64 0]⟩ E.t_uint64) w14 fun b17 w18 =>
 LOOP (Int × Bool × Int × Unit) (r9, s13.1, 0, ()) w18 fun s19 _ w20 next21 =>
 CND (decide ((s19.2.2.1 : Int) < 2)) (
 ((0 : Int) ≤ s19.2.2.1 ∧ (s19.2.2.1 : Int) < (2 : Nat)) ∧
 ∃ x22 : Int, w20.cell? ((Addr.mk b17 0 none).add (Int.toNat s19.2.2.1 * 1)) = some (.int .u64 x22) ∧
 CND (!s19.2.1) (
 F.vmem_Mem_place E a0 x22 a2 (fun r23 r24 w25 =>
 next21 (r23, r24, i64 (s19.2.2.1 + 1), ()) w25
 ) w20
 ) (
 next21 (s19.1, s19.2.1, i64 (s19.2.2.1 + 1), ()) w20
 )
 ) (
 CND (!s19.2.1) (
 K 0 13 w20
 ) (
 NC a0 fun p26 =>
 F.stretch_Set_Add E (some (p26.add 3)) s19.1 (u64 (s19.1 + a2)) (fun  w27 =>
 K s19.1 0 w27
 ) w20
 )
 )
 ) w7
 )
 ) w3
 )

def F.radix_Tree_Grow (E : Env) (a0 : (Option Addr)) (a1 : Int) (a2 : Int) (K : Int → World → Prop) (w : World) : Prop :=
 JOIN (Bool × Unit) (fun J1 =>
 CND ((a2 : Int) == 0) (
 J1 (true, ()) w
 ) (
 CND (decide ((a2 : Int) > 262144)) (
 J1 (true, ()) w
 ) (
 CND (decide ((a1 : Int) > 67108864)) (
 J1 (true, ()) w
 ) (
 J1 (decide ((a2 : Int) > (u64 (67108864 - a1))), ()) w
 )
 )
 )
 ) fun s2 _ w3 =>
 CND (s2.1) (
 K 1 w3
 ) (
 LET (u64 ((u64 (a1 + a2)) * 512) : Int) fun to_4 =>
 NC a0 fun p5 =>
 F.stretch_Set_Count E (some p5) (u64 (a1 * 512)) to_4 (fun r6 w7 =>
 CND (decide ((r6 : Int) > 0)) (
 K 34 w7
 ) (
 NC a0 fun p8 =>
 F.stretch_Set_Add E (some p8) (u64 (a1 * 512)) to_4 (fun  w9 =>
 NC a0 fun p10 =>
 F.stretch_Set_Add E (some (p10.add 2)) (u64 (a1 * 512)) to_4 (fun  w11 =>
 NC a0 fun p12 =>
 F.stretch_Set_Add E (some (p12.add 4)) (u64 (a1 * 512)) to_4 (fun  w13 =>
 F.radix_Tree_changed E a0 (fun  w14 =>
 K 0 w14
 ) w13
 ) w11
 ) w9
 ) w7
 )
 ) w3
 )

def F.arena_Map_Many (E : Env) (a0 : (Option Addr)) (a1 : Int) (a2 : Int) (K : World → Prop) (w : World) : Prop :=
 NC a0 fun p1 =>
 F.stretch_Set_Add E (some p1) a1 a2 (fun  w2 =>
 K  w2
 ) w

def F.mheap_Heap_grow (E : Env) (a0 : (Option Addr)) (a1 : Int) (K : Int → World → Prop) (w : World) : Prop :=
 512 ≠ (0 : Int) ∧
 LET (u64 ((u64 (Int.tdiv (u64 ((u64 (a1 + 512)) - 1)) 512)) * 512) : Int) fun n_1 =>
 NC a0 fun p2 =>
 ∃ x3 : (Option Addr), w.drew.cell? p2 = some (.pointer x3) ∧
 NC a0 fun p4 =>
 ∃ x5 : Int, w.drew.cell? (p4.add 69) = some (.int .u64 x5) ∧
 F.vmem_Mem_Reserve E x3 x5 n_1 (fun r6 r7 w8 =>
 CND ((r7 : Int) != 0) (
 K 13 w8
 ) (
 NC a0 fun p9 =>
 stCells (p9.add 69) 0 [.int .u64 (u64 (r6 + n_1))] w8 fun w10 =>
 NC a0 fun p11 =>
 ∃ x12 : (Option Addr), w10.cell? (p11.add 1) = some (.pointer x12) ∧
 512 ≠ (0 : Int) ∧
 512 ≠ (0 : Int) ∧
 F.radix_Tree_Grow E x12 (u64 (Int.tdiv r6 512)) (u64 (Int.tdiv n_1 512)) (fun r13 w14 =>
 NC a0 fun p15 =>
 ∃ x16 : (Option Addr), w14.drew.cell? (p15.add 2) = some (.pointer x16) ∧
 512 ≠ (0 : Int) ∧
 NC a0 fun p17 =>
 ∃ x18 : Int, w14.drew.cell? (p17.add 69) = some (.int .u64 x18) ∧
 512 ≠ (0 : Int) ∧
 F.arena_Map_Many E x16 (u64 (Int.tdiv r6 512)) (u64 (Int.tdiv x18 512)) (fun  w19 =>
 w19.cell? (p17.add 69) = some (.int .u64 x18) ∧
 K 0 w19
 ) w14.drew
 ) w10
 )
 ) w.drew

def F.vmem_right (E : Env) (a0 : Int) (a1 : Int) (K : Bool → World → Prop) (w : World) : Prop :=
 CND ((a1 : Int) != 0) (
 CND (decide ((a0 : Int) ≤ 34359738368)) (
 K (decide ((a1 : Int) ≤ (u64 (34359738368 - a0)))) w
 ) (
 K false w
 )
 ) (
 K false w
 )

def F.stretch_Set_Within (E : Env) (a0 : (Option Addr)) (a1 : Int) (a2 : Int) (K : SlV → World → Prop) (w : World) : Prop :=
 F.stretch_Set_at E a0 a1 (fun r1 w2 =>
 LOOP (SlV × Int × Unit) (⟨none, 0, 0⟩, r1, ()) w2 fun s3 _ w4 next5 =>
 NC a0 fun p6 =>
 ∃ x7 : SlV, w4.cell? p6 = some (.slice x7.base x7.len x7.cap) ∧
 CND (decide ((s3.2.1 : Int) < ((x7.len : Nat) : Int))) (
 NC a0 fun p8 =>
 ∃ x9 : SlV, w4.cell? p8 = some (.slice x9.base x9.len x9.cap) ∧
 NC x9.base fun p10 =>
 ((0 : Int) ≤ s3.2.1 ∧ (s3.2.1 : Int) < (x9.len : Nat)) ∧
 ∃ x11 : Int, w4.cell? (p10.add (Int.toNat s3.2.1 * 2)) = some (.int .u64 x11) ∧
 CND (decide ((x11 : Int) < a2)) (
 NC a0 fun p12 =>
 ∃ x13 : SlV, w4.drew.cell? p12 = some (.slice x13.base x13.len x13.cap) ∧
 NC x13.base fun p14 =>
 ((0 : Int) ≤ s3.2.1 ∧ (s3.2.1 : Int) < (x13.len : Nat)) ∧
 ∃ x15 : Int, w4.drew.cell? (p14.add (Int.toNat s3.2.1 * 2)) = some (.int .u64 x15) ∧
 NC a0 fun p16 =>
 ∃ x17 : SlV, w4.drew.cell? p16 = some (.slice x17.base x17.len x17.cap) ∧
 NC x17.base fun p18 =>
 ((0 : Int) ≤ s3.2.1 ∧ (s3.2.1 : Int) < (x17.len : Nat)) ∧
 ∃ x19 : Int, w4.drew.cell? ((p18.add (Int.toNat s3.2.1 * 2)).add 1) = some (.int .u64 x19) ∧
 AL (.cells ⟨[.int .u64 (maxI x15 a1), .int .u64 (minI x19 a2)]⟩ E.t_stretch_One) w4.drew fun b20 w21 =>
 w21.cell? ((p18.add (Int.toNat s3.2.1 * 2)).add 1) = some (.int .u64 x19) ∧
 w21.cell? p16 = some (.slice x17.base x17.len x17.cap) ∧
 w21.cell? (p14.add (Int.toNat s3.2.1 * 2)) = some (.int .u64 x15) ∧
 w21.cell? p12 = some (.slice x13.base x13.len x13.cap) ∧
 APP E.t_stretch_One 2 16 #[.int .u64 0, .int .u64 0] s3.1 ⟨(some (Addr.mk b20 0 none)), 1, 1⟩ w21 fun s22 w23 =>
 w23.cell? ((p18.add (Int.toNat s3.2.1 * 2)).add 1) = some (.int .u64 x19) ∧
 w23.cell? p16 = some (.slice x17.base x17.len x17.cap) ∧
 w23.cell? (p14.add (Int.toNat s3.2.1 * 2)) = some (.int .u64 x15) ∧
 w23.cell? p12 = some (.slice x13.base x13.len x13.cap) ∧
 next5 (s22, i64 (s3.2.1 + 1), ()) w23
 ) (
 K s3.1 w4
 )
 ) (
 K s3.1 w4
 )
 ) w

def F.vmem_Mem_Commit (E : Env) (a0 : (Option Addr)) (a1 : Int) (a2 : Int) (K : Int → World → Prop) (w : World) : Prop :=
 F.vmem_right E a1 a2 (fun r1 w2 =>
 CND (!r1) (
 K 1 w2
 ) (
 NC a0 fun p3 =>
 F.stretch_Set_Count E (some (p3.add 3)) a1 (u64 (a1 + a2)) (fun r4 w5 =>
 CND ((r4 : Int) != a2) (
 K 33 w5
 ) (
 NC a0 fun p6 =>
 F.stretch_Set_Count E (some (p6.add 5)) a1 (u64 (a1 + a2)) (fun r7 w8 =>
 CND ((r7 : Int) == a2) (
 K 0 w8
 ) (
 NC a0 fun p9 =>
 F.vmem_used_bool_ E (some (p9.add 1)) (fun r10 r11 w12 =>
 CND (r10) (
 K 13 w12
 ) (
 JOIN (Unit) (fun J13 =>
 NC a0 fun p16 =>
 F.stretch_Set_Within E (some (p16.add 7)) a1 (u64 (a1 + a2)) (fun r17 w18 =>
 LOOP (Int × Unit) (0, ()) w18 fun s19 _ w20 next21 =>
 CND (decide ((s19.1 : Int) < ((r17.len : Nat) : Int))) (
 NC r17.base fun p22 =>
 ((0 : Int) ≤ s19.1 ∧ (s19.1 : Int) < (r17.len : Nat)) ∧
 ∃ c23 : Int, w20.cell? ((p22.add (Int.toNat s19.1 * 2)).add 0) = some (.int .u64 c23) ∧
 ∃ c24 : Int, w20.cell? ((p22.add (Int.toNat s19.1 * 2)).add 1) = some (.int .u64 c24) ∧
 AL (.cells #[.int .u64 0, .int .u64 0] E.t_stretch_One) w20 fun b25 w26 =>
 stCells (Addr.mk b25 0 none) 0 [.int .u64 c23, .int .u64 c24] w26 fun w27 =>
 ∃ x28 : Int, w27.cell? (Addr.mk b25 0 none) = some (.int .u64 x28) ∧
 LOOP (Int × Unit) (x28, ()) w27 fun s29 _ w30 next31 =>
 ∃ x32 : Int, w30.cell? ((Addr.mk b25 0 none).add 1) = some (.int .u64 x32) ∧
 CND (decide ((s29.1 : Int) < x32)) (
 NC a0 fun p33 =>
 ∃ x34 : SlV, w30.cell? (p33.add 2) = some (.slice x34.base x34.len x34.cap) ∧
 CND ((((x34.len : Nat) : Int) : Int) == 0) (
 J13 (()) w30
 ) (
 NC a0 fun p35 =>
 F.vmem_used_uint64_ E (some (p35.add 2)) (fun r36 r37 w38 =>
 CND ((r36 : Int) != 0) (
 NC a0 fun p39 =>
 ∃ x40 : (Option Nat), w38.cell? (p39.add 9) = some (.map x40) ∧
 MUPD .u64 s29.1 (.int .u64 r36) x40 w38 fun w41 =>
 next31 (u64 (s29.1 + 1), ()) w41
 ) (
 next31 (u64 (s29.1 + 1), ()) w38
 )
 ) w30
 )
 ) (
 next21 (i64 (s19.1 + 1), ()) w30
 )
 ) (
 J13 (()) w20
 )
 ) w12
 ) fun s14 _ w15 =>
 NC a0 fun p42 =>
 F.stretch_Set_Cut E (some (p42.add 7)) a1 (u64 (a1 + a2)) (fun  w43 =>
 NC a0 fun p44 =>
 F.stretch_Set_Add E (some (p44.add 5)) a1 (u64 (a1 + a2)) (fun  w45 =>
 K 0 w45
 ) w43
 ) w15
 )
 ) w8
 )
 ) w5
 )
 ) w2
 )
 ) w

def F.vmem_Mem_Ready (E : Env) (a0 : (Option Addr)) (a1 : Int) (a2 : Int) (K : SlV → World → Prop) (w : World) : Prop :=
 NC a0 fun p1 =>
 F.stretch_Set_Within E (some (p1.add 5)) a1 a2 (fun r2 w3 =>
 K r2 w3
 ) w

def F.radix_Tree_freed (E : Env) (a0 : (Option Addr)) (a1 : Int) (a2 : Int) (a3 : (Option Addr)) (K : Int → World → Prop) (w : World) : Prop :=
 F.radix_Tree_looked E a0 a1 a2 false 31 (fun r1 w2 =>
 CND ((r1 : Int) != 0) (
 K r1 w2
 ) (
 NC a0 fun p3 =>
 F.stretch_Set_Add E (some (p3.add 2)) a1 (u64 (a1 + a2)) (fun  w4 =>
 F.stretch_Set_Add E a3 a1 (u64 (a1 + a2)) (fun  w5 =>
 F.radix_Tree_changed E a0 (fun  w6 =>
 K 0 w6
 ) w5
 ) w4
 ) w2
 )
 ) w

def F.radix_Tree_Back (E : Env) (a0 : (Option Addr)) (a1 : Int) (a2 : Int) (K : Int → World → Prop) (w : World) : Prop :=
 NC a0 fun p1 =>
 F.radix_Tree_freed E a0 a1 a2 (some (p1.add 4)) (fun r2 w3 =>
 K r2 w3
 ) w

def F.radix_Tree_Give (E : Env) (a0 : (Option Addr)) (a1 : Int) (a2 : Int) (K : Int → World → Prop) (w : World) : Prop :=
 NC a0 fun p1 =>
 F.radix_Tree_freed E a0 a1 a2 (some (p1.add 6)) (fun r2 w3 =>
 K r2 w3
 ) w

def F.mheap_Heap_back (E : Env) (a0 : (Option Addr)) (a1 : Int) (a2 : Int) (K : World → Prop) (w : World) : Prop :=
 NC a0 fun p1 =>
 ∃ x2 : (Option Addr), w.cell? p1 = some (.pointer x2) ∧
 F.vmem_Mem_Ready E x2 a1 (u64 (a1 + a2)) (fun r3 w4 =>
 LOOP (Int × Int × Unit) (a1, 0, ()) w4 fun s5 _ w6 next7 =>
 CND (decide ((s5.2.1 : Int) < ((r3.len : Nat) : Int))) (
 NC r3.base fun p8 =>
 ((0 : Int) ≤ s5.2.1 ∧ (s5.2.1 : Int) < (r3.len : Nat)) ∧
 ∃ c9 : Int, w6.cell? ((p8.add (Int.toNat s5.2.1 * 2)).add 0) = some (.int .u64 c9) ∧
 ∃ c10 : Int, w6.cell? ((p8.add (Int.toNat s5.2.1 * 2)).add 1) = some (.int .u64 c10) ∧
 AL (.cells #[.int .u64 0, .int .u64 0] E.t_stretch_One) w6 fun b11 w12 =>
 stCells (Addr.mk b11 0 none) 0 [.int .u64 c9, .int .u64 c10] w12 fun w13 =>
 NC a0 fun p14 =>
 ∃ x15 : (Option Addr), w13.drew.cell? (p14.add 1) = some (.pointer x15) ∧
 ∃ x16 : Int, w13.drew.cell? (Addr.mk b11 0 none) = some (.int .u64 x16) ∧
 F.radix_Tree_Back E x15 s5.1 (u64 (x16 - s5.1)) (fun r17 w18 =>
 w18.cell? (Addr.mk b11 0 none) = some (.int .u64 x16) ∧
 NC a0 fun p19 =>
 ∃ x20 : (Option Addr), w18.drew.cell? (p19.add 1) = some (.pointer x20) ∧
 ∃ x21 : Int, w18.drew.cell? (Addr.mk b11 0 none) = some (.int .u64 x21) ∧
 ∃ x22 : Int, w18.drew.cell? ((Addr.mk b11 0 none).add 1) = some (.int .u64 x22) ∧
 ∃ x23 : Int, w18.drew.cell? (Addr.mk b11 0 none) = some (.int .u64 x23) ∧
 F.radix_Tree_Give E x20 x21 (u64 (x22 - x23)) (fun r24 w25 =>
 w25.cell? (Addr.mk b11 0 none) = some (.int .u64 x23) ∧
 w25.cell? ((Addr.mk b11 0 none).add 1) = some (.int .u64 x22) ∧
 ∃ x26 : Int, w25.cell? ((Addr.mk b11 0 none).add 1) = some (.int .u64 x26) ∧
 next7 (x26, i64 (s5.2.1 + 1), ()) w25
 ) w18.drew
 ) w13.drew
 ) (
 NC a0 fun p27 =>
 ∃ x28 : (Option Addr), w6.cell? (p27.add 1) = some (.pointer x28) ∧
 F.radix_Tree_Back E x28 s5.1 (u64 ((u64 (a1 + a2)) - s5.1)) (fun r29 w30 =>
 K  w30
 ) w6
 )
 ) w

def F.mheap_Heap_find_1 (E : Env) (a0 : (Option Addr)) (a1 : (Option Addr)) (a2 : (Option Addr)) (a3 : (Option Addr)) (K : World → Prop) (w : World) : Prop :=
 NC a0 fun p1 =>
 ∃ x2 : Int, w.cell? p1 = some (.int .i64 x2) ∧
 CND ((x2 : Int) != 0) (
 NC a1 fun p3 =>
 ∃ x4 : (Option Addr), w.cell? p3 = some (.pointer x4) ∧
 NC a2 fun p5 =>
 ∃ x6 : Int, w.cell? p5 = some (.int .u64 x6) ∧
 NC a3 fun p7 =>
 ∃ x8 : Int, w.cell? p7 = some (.int .u64 x8) ∧
 F.mheap_Heap_back E x4 x6 x8 (fun  w9 =>
 K  w9
 ) w
 ) (
 K  w
 )

def F.mheap_Heap_find (E : Env) (a0 : (Option Addr)) (a1 : Int) (a2 : Int) (K : Int → Int → World → Prop) (w : World) : Prop :=
 AL (.cells #[.pointer a0] E.t__mheap_Heap) w fun b1 w2 =>
 AL (.cells #[.int .u64 a2] E.t_uint64) w2 fun b3 w4 =>
 AL (.cells #[.int .i64 0] E.t_api_Errno) w4 fun b5 w6 =>
 ∃ x7 : (Option Addr), w6.cell? (Addr.mk b1 0 none) = some (.pointer x7) ∧
 ∃ x8 : Int, w6.cell? (Addr.mk b3 0 none) = some (.int .u64 x8) ∧
 F.mheap_Heap_got E x7 a1 x8 (fun r9 r10 w11 =>
 JOIN (Int × Unit) (fun J12 =>
 CND (!r10) (
 ∃ x15 : (Option Addr), w11.cell? (Addr.mk b1 0 none) = some (.pointer x15) ∧
 ∃ x16 : Int, w11.cell? (Addr.mk b3 0 none) = some (.int .u64 x16) ∧
 F.mheap_Heap_grow E x15 x16 (fun r17 w18 =>
 stCells (Addr.mk b5 0 none) 0 [.int .i64 r17] w18 fun w19 =>
 ∃ x20 : Int, w19.cell? (Addr.mk b5 0 none) = some (.int .i64 x20) ∧
 CND ((x20 : Int) != 0) (
 ∃ x21 : Int, w19.drew.cell? (Addr.mk b5 0 none) = some (.int .i64 x21) ∧
 stCells (Addr.mk b5 0 none) 0 [.int .i64 x21] w19.drew fun w22 =>
 ∃ x23 : Int, w22.cell? (Addr.mk b5 0 none) = some (.int .i64 x23) ∧
 K 0 x23 w22
 ) (
 ∃ x24 : (Option Addr), w19.drew.cell? (Addr.mk b1 0 none) = some (.pointer x24) ∧
 NC x24 fun p25 =>
 ∃ x26 : (Option Addr), w19.drew.cell? (p25.add 1) = some (.pointer x26) ∧
 ∃ x27 : Int, w19.drew.cell? (Addr.mk b3 0 none) = some (.int .u64 x27) ∧
 F.radix_Tree_Alloc E x26 x27 (fun r28 r29 r30 w31 =>
 w31.cell? (Addr.mk b1 0 none) = some (.pointer x24) ∧
 J12 (r28, ()) w31
 ) w19.drew
 )
 ) w11
 ) (
 J12 (r9, ()) w11
 )
 ) fun s13 _ w14 =>
 AL (.cells #[.int .u64 0] E.t_uint64) w14 fun b32 w33 =>
 stCells (Addr.mk b32 0 none) 0 [.int .u64 s13.1] w33 fun w34 =>
 ∃ x35 : (Option Addr), w34.drew.cell? (Addr.mk b1 0 none) = some (.pointer x35) ∧
 NC x35 fun p36 =>
 ∃ x37 : (Option Addr), w34.drew.cell? p36 = some (.pointer x37) ∧
 ∃ x38 : Int, w34.drew.cell? (Addr.mk b3 0 none) = some (.int .u64 x38) ∧
 F.vmem_Mem_Commit E x37 s13.1 x38 (fun r39 w40 =>
 w40.cell? (Addr.mk b1 0 none) = some (.pointer x35) ∧
 CND ((r39 : Int) != 0) (
 stCells (Addr.mk b5 0 none) 0 [.int .i64 13] w40 fun w41 =>
 F.mheap_Heap_find_1 E (some (Addr.mk b5 0 none)) (some (Addr.mk b1 0 none)) (some (Addr.mk b32 0 none)) (some (Addr.mk b3 0 none)) (fun w42 =>
 ∃ x43 : Int, w42.cell? (Addr.mk b5 0 none) = some (.int .i64 x43) ∧
 K 0 x43 w42
 ) w41
 ) (
 stCells (Addr.mk b5 0 none) 0 [.int .i64 0] w40 fun w44 =>
 F.mheap_Heap_find_1 E (some (Addr.mk b5 0 none)) (some (Addr.mk b1 0 none)) (some (Addr.mk b32 0 none)) (some (Addr.mk b3 0 none)) (fun w45 =>
 ∃ x46 : Int, w45.cell? (Addr.mk b5 0 none) = some (.int .i64 x46) ∧
 K s13.1 x46 w45
 ) w44
 )
 ) w34.drew
 ) w6

def F.fix_Fix_Take (E : Env) (a0 : (Option Addr)) (K : Int → World → Prop) (w : World) : Prop :=
 NC a0 fun p1 =>
 ∃ x2 : (Option Addr), w.cell? (p1.add 2) = some (.pointer x2) ∧
 JOIN ((Option Addr) × Unit) (fun J3 =>
 CND (x2.isNone) (
 NC a0 fun p6 =>
 ∃ x7 : SlV, w.cell? (p6.add 1) = some (.slice x7.base x7.len x7.cap) ∧
 AL (.cells #[.int .i64 (i64 (((x7.len : Nat) : Int) + 1)), .bool false, .pointer none] E.t_fix_record) w fun b8 w9 =>
 NC a0 fun p10 =>
 ∃ x11 : SlV, w9.cell? (p10.add 1) = some (.slice x11.base x11.len x11.cap) ∧
 AL (.cells ⟨[.pointer (some (Addr.mk b8 0 none))]⟩ E.t__fix_record) w9 fun b12 w13 =>
 APP E.t__fix_record 1 8 #[.pointer none] x11 ⟨(some (Addr.mk b12 0 none)), 1, 1⟩ w13 fun s14 w15 =>
 NC a0 fun p16 =>
 stCells (p16.add 1) 0 [.slice s14.base s14.len s14.cap] w15 fun w17 =>
 J3 ((some (Addr.mk b8 0 none)), ()) w17
 ) (
 NC x2 fun p18 =>
 ∃ x19 : (Option Addr), w.cell? (p18.add 2) = some (.pointer x19) ∧
 NC a0 fun p20 =>
 stCells (p20.add 2) 0 [.pointer x19] w fun w21 =>
 J3 (x2, ()) w21
 )
 ) fun s4 _ w5 =>
 NC s4.1 fun p22 =>
 stCells (p22.add 1) 0 [.bool true] w5 fun w23 =>
 NC s4.1 fun p24 =>
 stCells (p24.add 2) 0 [.pointer none] w23 fun w25 =>
 NC a0 fun p26 =>
 ∃ x27 : Int, w25.cell? (p26.add 3) = some (.int .i64 x27) ∧
 NC a0 fun p28 =>
 stCells (p28.add 3) 0 [.int .i64 (i64 (x27 + 1))] w25 fun w29 =>
 NC s4.1 fun p30 =>
 ∃ x31 : Int, w29.cell? p30 = some (.int .i64 x31) ∧
 K x31 w29

def F.arena_Map_cut (E : Env) (a0 : (Option Addr)) (a1 : Int) (a2 : Int) (K : World → Prop) (w : World) : Prop :=
 NC a0 fun p1 =>
 ∃ x2 : SlV, w.cell? (p1.add 2) = some (.slice x2.base x2.len x2.cap) ∧
 LOOP (SlV × Int × Unit) (⟨none, 0, 0⟩, 0, ()) w fun s3 _ w4 next5 =>
 CND (decide ((s3.2.1 : Int) < ((x2.len : Nat) : Int))) (
 NC x2.base fun p6 =>
 ((0 : Int) ≤ s3.2.1 ∧ (s3.2.1 : Int) < (x2.len : Nat)) ∧
 ∃ c7 : Int, w4.cell? ((p6.add (Int.toNat s3.2.1 * 3)).add 0) = some (.int .u64 c7) ∧
 ∃ c8 : Int, w4.cell? ((p6.add (Int.toNat s3.2.1 * 3)).add 1) = some (.int .u64 c8) ∧
 ∃ c9 : Int, w4.cell? ((p6.add (Int.toNat s3.2.1 * 3)).add 2) = some (.int .i64 c9) ∧
 AL (.cells #[.int .u64 0, .int .u64 0, .int .i64 0] E.t_arena_wide) w4 fun b10 w11 =>
 stCells (Addr.mk b10 0 none) 0 [.int .u64 c7, .int .u64 c8, .int .i64 c9] w11 fun w12 =>
 JOIN (Bool × Unit) (fun J13 =>
 ∃ x16 : Int, w12.cell? ((Addr.mk b10 0 none).add 1) = some (.int .u64 x16) ∧
 CND (decide ((x16 : Int) ≤ a1)) (
 J13 (true, ()) w12
 ) (
 ∃ x17 : Int, w12.cell? (Addr.mk b10 0 none) = some (.int .u64 x17) ∧
 J13 (decide ((x17 : Int) ≥ a2), ()) w12
 )
 ) fun s14 _ w15 =>
 CND (s14.1) (
 ∃ c18 : Int, w15.cell? ((Addr.mk b10 0 none).add 0) = some (.int .u64 c18) ∧
 ∃ c19 : Int, w15.cell? ((Addr.mk b10 0 none).add 1) = some (.int .u64 c19) ∧
 ∃ c20 : Int, w15.cell? ((Addr.mk b10 0 none).add 2) = some (.int .i64 c20) ∧
 AL (.cells ⟨[.int .u64 c18, .int .u64 c19, .int .i64 c20]⟩ E.t_arena_wide) w15 fun b21 w22 =>
 APP E.t_arena_wide 3 24 #[.int .u64 0, .int .u64 0, .int .i64 0] s3.1 ⟨(some (Addr.mk b21 0 none)), 1, 1⟩ w22 fun s23 w24 =>
 next5 (s23, i64 (s3.2.1 + 1), ()) w24
 ) (
 JOIN (SlV × Unit) (fun J25 =>
 ∃ x28 : Int, w15.cell? (Addr.mk b10 0 none) = some (.int .u64 x28) ∧
 CND (decide ((x28 : Int) < a1)) (
 ∃ x29 : Int, w15.cell? (Addr.mk b10 0 none) = some (.int .u64 x29) ∧
 ∃ x30 : Int, w15.cell? ((Addr.mk b10 0 none).add 2) = some (.int .i64 x30) ∧
 AL (.cells ⟨[.int .u64 x29, .int .u64 a1, .int .i64 x30]⟩ E.t_arena_wide) w15 fun b31 w32 =>
 APP E.t_arena_wide 3 24 #[.int .u64 0, .int .u64 0, .int .i64 0] s3.1 ⟨(some (Addr.mk b31 0 none)), 1, 1⟩ w32 fun s33 w34 =>
 J25 (s33, ()) w34
 ) (
 J25 (s3.1, ()) w15
 )
 ) fun s26 _ w27 =>
 ∃ x35 : Int, w27.cell? ((Addr.mk b10 0 none).add 1) = some (.int .u64 x35) ∧
 CND (decide ((x35 : Int) > a2)) (
 ∃ x36 : Int, w27.cell? ((Addr.mk b10 0 none).add 1) = some (.int .u64 x36) ∧
 ∃ x37 : Int, w27.cell? ((Addr.mk b10 0 none).add 2) = some (.int .i64 x37) ∧
 AL (.cells ⟨[.int .u64 a2, .int .u64 x36, .int .i64 x37]⟩ E.t_arena_wide) w27 fun b38 w39 =>
 APP E.t_arena_wide 3 24 #[.int .u64 0, .int .u64 0, .int .i64 0] s26.1 ⟨(some (Addr.mk b38 0 none)), 1, 1⟩ w39 fun s40 w41 =>
 next5 (s40, i64 (s3.2.1 + 1), ()) w41
 ) (
 next5 (s26.1, i64 (s3.2.1 + 1), ()) w27
 )
 )
 ) (
 NC a0 fun p42 =>
 stCells (p42.add 2) 0 [.slice s3.1.base s3.1.len s3.1.cap] w4 fun w43 =>
 NC a0 fun p44 =>
 ∃ x45 : (Option Nat), w43.cell? (p44.add 3) = some (.map x45) ∧
 ∃ es46 : Array MapEntry, mapAt w43 x45 es46 ∧
 CND (decide (((u64 (((es46.size : Nat) : Int))) : Int) < (u64 (a2 - a1)))) (
 NC a0 fun p47 =>
 ∃ x48 : (Option Nat), w43.cell? (p47.add 3) = some (.map x48) ∧
 ∃ cl49, rngAt w43 x48 cl49 ∧
 AL (rngObj x48 cl49) w43 fun b50 w51 =>
 LOOP (Unit) (()) w51 fun s52 _ w53 next54 =>
 JOIN (Bool × Unit) (fun J55 =>
 NEXT b50 w53 (fun w58 =>
 J55 (false, ()) w58
 ) fun k60 v61 w59 =>
 J55 (true, ()) w59
 ) fun s56 _ w57 =>
 JOIN (Bool × Unit) (fun J62 =>
 CND (s56.1) (
 J62 (s56.1, ()) w57
 ) (
 K  w57
 )
 ) fun s63 _ w64 =>
 ENT b50 w64 fun k65 v66 S67 =>
 unInt .u64 k65 fun x68 =>
 JOIN (Bool × Unit) (fun J69 =>
 CND (decide ((x68 : Int) ≥ a1)) (
 J69 (decide ((x68 : Int) < a2), ()) w64
 ) (
 J69 (false, ()) w64
 )
 ) fun s70 _ w71 =>
 CND (s70.1) (
 NC a0 fun p72 =>
 ∃ x73 : (Option Nat), w71.cell? (p72.add 3) = some (.map x73) ∧
 MDEL .u64 x68 x73 w71 fun w74 =>
 next54 (()) w74
 ) (
 next54 (()) w71
 )
 ) (
 LOOP (Int × Unit) (a1, ()) w43 fun s75 _ w76 next77 =>
 CND (decide ((s75.1 : Int) < a2)) (
 NC a0 fun p78 =>
 ∃ x79 : (Option Nat), w76.cell? (p78.add 3) = some (.map x79) ∧
 MDEL .u64 s75.1 x79 w76 fun w80 =>
 next77 (u64 (s75.1 + 1), ()) w80
 ) (
 K  w76
 )
 )
 )

def F.arena_Map_Set (E : Env) (a0 : (Option Addr)) (a1 : Int) (a2 : Int) (a3 : Int) (K : Int → World → Prop) (w : World) : Prop :=
 AL (.cells #[.pointer a0] E.t__arena_Map) w fun b1 w2 =>
 AL (.cells #[.int .i64 a3] E.t_int) w2 fun b3 w4 =>
 JOIN (Bool × Unit) (fun J5 =>
 CND ((a2 : Int) == 0) (
 J5 (true, ()) w4
 ) (
 ∃ x8 : Int, w4.cell? (Addr.mk b3 0 none) = some (.int .i64 x8) ∧
 J5 (decide ((x8 : Int) < 0), ()) w4
 )
 ) fun s6 _ w7 =>
 CND (s6.1) (
 K 1 w7
 ) (
 JOIN (Bool × Unit) (fun J9 =>
 CND (decide ((a1 : Int) ≥ 34359738368)) (
 J9 (true, ()) w7
 ) (
 J9 (decide ((a2 : Int) > (u64 (34359738368 - a1))), ()) w7
 )
 ) fun s10 _ w11 =>
 CND (s10.1) (
 K 10 w11
 ) (
 512 ≠ (0 : Int) ∧
 512 ≠ (0 : Int) ∧
 LET (u64 (Int.tdiv (u64 ((u64 ((u64 (a1 + a2)) + 512)) - 1)) 512) : Int) fun last_12 =>
 ∃ x13 : (Option Addr), w11.cell? (Addr.mk b1 0 none) = some (.pointer x13) ∧
 NC x13 fun p14 =>
 F.stretch_Set_Count E (some p14) (u64 (Int.tdiv a1 512)) last_12 (fun r15 w16 =>
 CND ((r15 : Int) != (u64 (last_12 - (u64 (Int.tdiv a1 512))))) (
 K 10 w16
 ) (
 512 ≠ (0 : Int) ∧
 512 ≠ (0 : Int) ∧
 LET (u64 (Int.tdiv (u64 ((u64 (a1 + 512)) - 1)) 512) : Int) fun from_17 =>
 LET (u64 (Int.tdiv (u64 (a1 + a2)) 512) : Int) fun to_18 =>
 JOIN (Unit) (fun J19 =>
 CND (decide ((from_17 : Int) < to_18)) (
 ∃ x22 : (Option Addr), w16.cell? (Addr.mk b1 0 none) = some (.pointer x22) ∧
 F.arena_Map_cut E x22 from_17 to_18 (fun  w23 =>
 ∃ x24 : Int, w23.cell? (Addr.mk b3 0 none) = some (.int .i64 x24) ∧
 CND (decide ((x24 : Int) > 0)) (
 ∃ x25 : (Option Addr), w23.drew.cell? (Addr.mk b1 0 none) = some (.pointer x25) ∧
 ∃ x26 : (Option Addr), w23.drew.cell? (Addr.mk b1 0 none) = some (.pointer x26) ∧
 NC x26 fun p27 =>
 ∃ x28 : SlV, w23.drew.cell? (p27.add 2) = some (.slice x28.base x28.len x28.cap) ∧
 ∃ x29 : Int, w23.drew.cell? (Addr.mk b3 0 none) = some (.int .i64 x29) ∧
 AL (.cells ⟨[.int .u64 from_17, .int .u64 to_18, .int .i64 x29]⟩ E.t_arena_wide) w23.drew fun b30 w31 =>
 w31.cell? (Addr.mk b3 0 none) = some (.int .i64 x29) ∧
 w31.cell? (p27.add 2) = some (.slice x28.base x28.len x28.cap) ∧
 w31.cell? (Addr.mk b1 0 none) = some (.pointer x26) ∧
 w31.cell? (Addr.mk b1 0 none) = some (.pointer x25) ∧
 APP E.t_arena_wide 3 24 #[.int .u64 0, .int .u64 0, .int .i64 0] x28 ⟨(some (Addr.mk b30 0 none)), 1, 1⟩ w31 fun s32 w33 =>
 w33.cell? (Addr.mk b3 0 none) = some (.int .i64 x29) ∧
 w33.cell? (Addr.mk b1 0 none) = some (.pointer x26) ∧
 w33.cell? (Addr.mk b1 0 none) = some (.pointer x25) ∧
 NC x25 fun p34 =>
 stCells (p34.add 2) 0 [.slice s32.base s32.len s32.cap] w33 fun w35 =>
 J19 (()) w35
 ) (
 J19 (()) w23
 )
 ) w16
 ) (
 J19 (()) w16
 )
 ) fun s20 _ w21 =>
 CND (decide ((from_17 : Int) > to_18)) (
 CAL E.call E.f_arena_Map_Set_1 #[.int .u64 a1, .int .u64 (u64 (a1 + a2)), .pointer (some (Addr.mk b3 0 none)), .pointer (some (Addr.mk b1 0 none))] w21 fun r36 w37 =>
 r36 = .tuple ⟨[]⟩ ∧
 K 0 w37
 ) (
 CAL E.call E.f_arena_Map_Set_1 #[.int .u64 a1, .int .u64 (u64 (from_17 * 512)), .pointer (some (Addr.mk b3 0 none)), .pointer (some (Addr.mk b1 0 none))] w21 fun r38 w39 =>
 r38 = .tuple ⟨[]⟩ ∧
 CAL E.call E.f_arena_Map_Set_1 #[.int .u64 (u64 (to_18 * 512)), .int .u64 (u64 (a1 + a2)), .pointer (some (Addr.mk b3 0 none)), .pointer (some (Addr.mk b1 0 none))] w39 fun r40 w41 =>
 r40 = .tuple ⟨[]⟩ ∧
 K 0 w41
 )
 )
 ) w11
 )
 )

def F.mheap_Heap_keep (E : Env) (a0 : (Option Addr)) (a1 : (Option Addr)) (K : Int → World → Prop) (w : World) : Prop :=
 NC a0 fun p1 =>
 ∃ x2 : (Option Addr), w.cell? (p1.add 3) = some (.pointer x2) ∧
 F.fix_Fix_Take E x2 (fun r3 w4 =>
 NC a0 fun p5 =>
 ∃ x6 : (Option Nat), w4.cell? (p5.add 4) = some (.map x6) ∧
 MUPD .i64 r3 (.pointer a1) x6 w4 fun w7 =>
 F.span_Span_Info E a1 (fun r8 r9 r10 r11 r12 r13 r14 r15 r16 r17 w18 =>
 AL (.cells #[.int .u64 0, .int .i64 0, .int .i64 0, .int .i64 0, .bool false, .int .i64 0, .int .i64 0, .int .i64 0, .bool false, .bool false] E.t_api_Info) w18 fun b19 w20 =>
 stCells (Addr.mk b19 0 none) 0 [.int .u64 r8, .int .i64 r9, .int .i64 r10, .int .i64 r11, .bool r12, .int .i64 r13, .int .i64 r14, .int .i64 r15, .bool r16, .bool r17] w20 fun w21 =>
 NC a0 fun p22 =>
 ∃ x23 : (Option Addr), w21.drew.cell? (p22.add 2) = some (.pointer x23) ∧
 ∃ x24 : Int, w21.drew.cell? (Addr.mk b19 0 none) = some (.int .u64 x24) ∧
 8192 ≠ (0 : Int) ∧
 ∃ x25 : Int, w21.drew.cell? ((Addr.mk b19 0 none).add 1) = some (.int .i64 x25) ∧
 F.arena_Map_Set E x23 (u64 (Int.tdiv x24 8192)) (u64 (x25)) r3 (fun r26 w27 =>
 w27.cell? ((Addr.mk b19 0 none).add 1) = some (.int .i64 x25) ∧
 w27.cell? (Addr.mk b19 0 none) = some (.int .u64 x24) ∧
 NC a0 fun p28 =>
 ∃ x29 : Int, w27.drew.cell? (p28.add 70) = some (.int .u64 x29) ∧
 ∃ x30 : Int, w27.drew.cell? ((Addr.mk b19 0 none).add 1) = some (.int .i64 x30) ∧
 NC a0 fun p31 =>
 stCells (p31.add 70) 0 [.int .u64 (u64 (x29 + (u64 (x30))))] w27.drew fun w32 =>
 K r3 w32
 ) w21.drew
 ) w7
 ) w

def F.mheap_Heap_Manual (E : Env) (a0 : (Option Addr)) (a1 : Int) (a2 : Int) (K : Int → Int → World → Prop) (w : World) : Prop :=
 F.span_Manual E 0 a1 a2 (fun r1 r2 w3 =>
 CND ((r2 : Int) != 0) (
 K 0 1 w3
 ) (
 F.mheap_Heap_find E a0 (-1) a1 (fun r4 r5 w6 =>
 CND ((r5 : Int) != 0) (
 K 0 r5 w6
 ) (
 F.span_Manual E r4 a1 a2 (fun r7 r8 w9 =>
 F.mheap_Heap_keep E a0 r7 (fun r10 w11 =>
 K r10 0 w11
 ) w9
 ) w6
 )
 ) w3
 )
 ) w

def F.mheap_Heap_Span (E : Env) (a0 : (Option Addr)) (a1 : Int) (K : (Option Addr) → Int → World → Prop) (w : World) : Prop :=
 NC a0 fun p1 =>
 ∃ x2 : (Option Nat), w.cell? (p1.add 4) = some (.map x2) ∧
 LKP .i64 a1 x2 w (.pointer none) fun v3 ok4 es5 =>
 ∃ x6 : (Option Addr), v3 = .pointer x6 ∧
 CND (!ok4) (
 K none 35 w
 ) (
 K x6 0 w
 )

def F._span_row_free (E : Env) (a0 : SlV) (a1 : Int) (K : Int → World → Prop) (w : World) : Prop :=
 (0 : Int) ≤ 6 ∧
 LET (Int.fdiv a1 (2 ^ (min (Int.toNat 6) (IntKind.bits .i64))) : Int) fun k_1 =>
 LOOP (Int × Unit) (k_1, ()) w fun s2 _ w3 next4 =>
 CND (decide ((s2.1 : Int) < ((a0.len : Nat) : Int))) (
 NC a0.base fun p5 =>
 ((0 : Int) ≤ s2.1 ∧ (s2.1 : Int) < (a0.len : Nat)) ∧
 ∃ x6 : Int, w3.cell? (p5.add (Int.toNat s2.1 * 1)) = some (.int .u64 x6) ∧
 JOIN (Int × Unit) (fun J7 =>
 (0 : Int) ≤ 6 ∧
 CND ((s2.1 : Int) == (Int.fdiv a1 (2 ^ (min (Int.toNat 6) (IntKind.bits .i64))))) (
 (0 : Int) ≤ (bitK .i64 0 a1 63) ∧
 LET (bitK .u64 1 x6 (u64 ((u64 (1 * 2 ^ (min (Int.toNat (bitK .i64 0 a1 63)) (IntKind.bits .u64)))) - 1)) : Int) fun w_10 =>
 J7 (w_10, ()) w3
 ) (
 J7 (x6, ()) w3
 )
 ) fun s8 _ w9 =>
 CND ((s8.1 : Int) != 18446744073709551615) (
 (0 : Int) ≤ 6 ∧
 F.math_bits_TrailingZeros64 E (bitK .u64 2 18446744073709551615 s8.1) (fun r11 w12 =>
 LET (i64 ((i64 (s2.1 * 2 ^ (min (Int.toNat 6) (IntKind.bits .i64)))) + r11) : Int) fun t13 =>
 K t13 w12
 ) w9
 ) (
 next4 (i64 (s2.1 + 1), ()) w9
 )
 ) (
 (0 : Int) ≤ 6 ∧
 LET (maxI a1 (i64 (((a0.len : Nat) : Int) * 2 ^ (min (Int.toNat 6) (IntKind.bits .i64)))) : Int) fun t14 =>
 K t14 w3
 )

def F.span_row_set (E : Env) (a0 : (Option Addr)) (a1 : Int) (K : World → Prop) (w : World) : Prop :=
 LOOP (Unit) (()) w fun s1 _ w2 next3 =>
 (0 : Int) ≤ 6 ∧
 NC a0 fun p4 =>
 ∃ x5 : SlV, w2.cell? p4 = some (.slice x5.base x5.len x5.cap) ∧
 CND (decide (((Int.fdiv a1 (2 ^ (min (Int.toNat 6) (IntKind.bits .i64)))) : Int) ≥ ((x5.len : Nat) : Int))) (
 NC a0 fun p6 =>
 ∃ x7 : SlV, w2.cell? p6 = some (.slice x7.base x7.len x7.cap) ∧
 AL (.cells ⟨[.int .u64 0]⟩ E.t_uint64) w2 fun b8 w9 =>
 APP E.t_uint64 1 8 #[.int .u64 0] x7 ⟨(some (Addr.mk b8 0 none)), 1, 1⟩ w9 fun s10 w11 =>
 NC a0 fun p12 =>
 stCells p12 0 [.slice s10.base s10.len s10.cap] w11 fun w13 =>
 next3 (()) w13
 ) (
 NC a0 fun p14 =>
 ∃ x15 : SlV, w2.drew.cell? p14 = some (.slice x15.base x15.len x15.cap) ∧
 (0 : Int) ≤ 6 ∧
 NC x15.base fun p16 =>
 ((0 : Int) ≤ (Int.fdiv a1 (2 ^ (min (Int.toNat 6) (IntKind.bits .i64)))) ∧ ((Int.fdiv a1 (2 ^ (min (Int.toNat 6) (IntKind.bits .i64)))) : Int) < (x15.len : Nat)) ∧
 ∃ x17 : Int, w2.drew.cell? (p16.add (Int.toNat (Int.fdiv a1 (2 ^ (min (Int.toNat 6) (IntKind.bits .i64)))) * 1)) = some (.int .u64 x17) ∧
 (0 : Int) ≤ (bitK .i64 0 a1 63) ∧
 NC x15.base fun p18 =>
 ((0 : Int) ≤ (Int.fdiv a1 (2 ^ (min (Int.toNat 6) (IntKind.bits .i64)))) ∧ ((Int.fdiv a1 (2 ^ (min (Int.toNat 6) (IntKind.bits .i64)))) : Int) < (x15.len : Nat)) ∧
 stCells (p18.add (Int.toNat (Int.fdiv a1 (2 ^ (min (Int.toNat 6) (IntKind.bits .i64)))) * 1)) 0 [.int .u64 (bitK .u64 1 x17 (u64 (1 * 2 ^ (min (Int.toNat (bitK .i64 0 a1 63)) (IntKind.bits .u64)))))] w2.drew fun w19 =>
 K  w19
 )

def F.span_Span_Next (E : Env) (a0 : (Option Addr)) (K : Int → Int → World → Prop) (w : World) : Prop :=
 NC a0 fun p1 =>
 ∃ x2 : Int, w.cell? (p1.add 2) = some (.int .i64 x2) ∧
 CND ((x2 : Int) == 0) (
 K 0 33 w
 ) (
 NC a0 fun p3 =>
 ∃ x4 : SlV, w.drew.cell? (p3.add 11) = some (.slice x4.base x4.len x4.cap) ∧
 NC a0 fun p5 =>
 ∃ x6 : Int, w.drew.cell? (p5.add 13) = some (.int .i64 x6) ∧
 F._span_row_free E x4 x6 (fun r7 w8 =>
 NC a0 fun p9 =>
 ∃ x10 : Int, w8.cell? (p9.add 6) = some (.int .i64 x10) ∧
 CND (decide ((r7 : Int) ≥ x10)) (
 K 0 30 w8
 ) (
 NC a0 fun p11 =>
 F.span_row_set E (some (p11.add 11)) r7 (fun  w12 =>
 NC a0 fun p13 =>
 ∃ x14 : Int, w12.cell? (p13.add 7) = some (.int .i64 x14) ∧
 NC a0 fun p15 =>
 stCells (p15.add 7) 0 [.int .i64 (i64 (x14 + 1))] w12 fun w16 =>
 NC a0 fun p17 =>
 stCells (p17.add 13) 0 [.int .i64 (i64 (r7 + 1))] w16 fun w18 =>
 K r7 0 w18
 ) w8
 )
 ) w.drew
 )

def F.span_Span_there (E : Env) (a0 : (Option Addr)) (a1 : Int) (K : Bool → World → Prop) (w : World) : Prop :=
 CND (decide ((a1 : Int) ≥ 0)) (
 NC a0 fun p1 =>
 ∃ x2 : Int, w.cell? (p1.add 6) = some (.int .i64 x2) ∧
 K (decide ((a1 : Int) < x2)) w
 ) (
 K false w
 )

def F.span_Span_Slot (E : Env) (a0 : (Option Addr)) (a1 : Int) (K : Int → Int → World → Prop) (w : World) : Prop :=
 F.span_Span_there E a0 a1 (fun r1 w2 =>
 CND (!r1) (
 K 0 1 w2
 ) (
 NC a0 fun p3 =>
 ∃ x4 : Int, w2.drew.cell? p3 = some (.int .u64 x4) ∧
 NC a0 fun p5 =>
 ∃ x6 : Int, w2.drew.cell? (p5.add 5) = some (.int .i64 x6) ∧
 LET (u64 (x4 + (u64 ((u64 (a1)) * (u64 (x6))))) : Int) fun t7 =>
 K t7 0 w2.drew
 )
 ) w

def F.stack_Stacks_take (E : Env) (a0 : (Option Addr)) (a1 : Int) (K : Int → Int → World → Prop) (w : World) : Prop :=
 NC a0 fun p1 =>
 ((0 : Int) ≤ a1 ∧ (a1 : Int) < (4 : Nat)) ∧
 ∃ x2 : (Option Nat), w.cell? ((p1.add 257).add (Int.toNat a1 * 1)) = some (.map x2) ∧
 ∃ cl3, rngAt w x2 cl3 ∧
 AL (rngObj x2 cl3) w fun b4 w5 =>
 LOOP ((Option Addr) × Unit) (none, ()) w5 fun s6 _ w7 next8 =>
 JOIN (Bool × Unit) (fun J9 =>
 NEXT b4 w7 (fun w12 =>
 J9 (false, ()) w12
 ) fun k14 v15 w13 =>
 J9 (true, ()) w13
 ) fun s10 _ w11 =>
 JOIN (Bool × Unit) (fun J16 =>
 CND (s10.1) (
 J16 (s10.1, ()) w11
 ) (
 JOIN ((Option Addr) × Unit) (fun J19 =>
 CND (s6.1.isNone) (
 NC a0 fun p22 =>
 ∃ x23 : (Option Addr), w11.drew.cell? p22 = some (.pointer x23) ∧
 F.stack_bytes E a1 (fun r24 w25 =>
 w25.cell? p22 = some (.pointer x23) ∧
 F.mheap_Heap_Manual E x23 4 (i64 (r24)) (fun r26 r27 w28 =>
 CND ((r27 : Int) != 0) (
 K 0 r27 w28
 ) (
 NC a0 fun p29 =>
 ∃ x30 : (Option Addr), w28.cell? p29 = some (.pointer x30) ∧
 F.mheap_Heap_Span E x30 r26 (fun r31 r32 w33 =>
 NC a0 fun p34 =>
 ((0 : Int) ≤ a1 ∧ (a1 : Int) < (4 : Nat)) ∧
 ∃ x35 : (Option Nat), w33.cell? ((p34.add 257).add (Int.toNat a1 * 1)) = some (.map x35) ∧
 MUPD .i64 r26 (.pointer r31) x35 w33 fun w36 =>
 J19 (r31, ()) w36
 ) w28
 )
 ) w25
 ) w11.drew
 ) (
 J19 (s6.1, ()) w11
 )
 ) fun s20 _ w21 =>
 F.span_Span_Next E s20.1 (fun r37 r38 w39 =>
 F.span_Span_Slot E s20.1 r37 (fun r40 r41 w42 =>
 K r40 0 w42
 ) w39
 ) w21
 )
 ) fun s17 _ w18 =>
 ENT b4 w18 fun k43 v44 S45 =>
 unPtr v44 fun x46 =>
 JOIN (Bool × Unit) (fun J47 =>
 F.span_Span_Full E x46 (fun r50 w51 =>
 CND (!r50) (
 CND (s6.1.isNone) (
 J47 (true, ()) w51
 ) (
 F.span_Span_Info E x46 (fun r52 r53 r54 r55 r56 r57 r58 r59 r60 r61 w62 =>
 F.span_Span_Info E s6.1 (fun r63 r64 r65 r66 r67 r68 r69 r70 r71 r72 w73 =>
 J47 (decide ((r52 : Int) < r63), ()) w73
 ) w62
 ) w51
 )
 ) (
 J47 (false, ()) w51
 )
 ) w18
 ) fun s48 _ w49 =>
 CND (s48.1) (
 next8 (x46, ()) w49
 ) (
 next8 (s6.1, ()) w49
 )

def F.stack_row_pop (E : Env) (a0 : (Option Addr)) (K : Int → World → Prop) (w : World) : Prop :=
 NC a0 fun p1 =>
 ∃ x2 : SlV, w.cell? p1 = some (.slice x2.base x2.len x2.cap) ∧
 LET (i64 (((x2.len : Nat) : Int) - 1) : Int) fun n_3 =>
 NC a0 fun p4 =>
 ∃ x5 : SlV, w.cell? p4 = some (.slice x5.base x5.len x5.cap) ∧
 NC x5.base fun p6 =>
 ((0 : Int) ≤ n_3 ∧ (n_3 : Int) < (x5.len : Nat)) ∧
 ∃ x7 : Int, w.cell? (p6.add (Int.toNat n_3 * 1)) = some (.int .u64 x7) ∧
 NC a0 fun p8 =>
 ∃ x9 : SlV, w.cell? p8 = some (.slice x9.base x9.len x9.cap) ∧
 ((0 : Int) ≤ n_3 ∧ (n_3 : Int) ≤ (x9.cap : Nat)) ∧
 NC a0 fun p10 =>
 stCells p10 0 [.slice (slB x9.base x9.cap 0 1) (Int.toNat n_3) x9.cap] w fun w11 =>
 K x7 w11

def F.stack_Stacks_small (E : Env) (a0 : (Option Addr)) (a1 : Int) (a2 : Int) (K : Int → Int → World → Prop) (w : World) : Prop :=
 NC a0 fun p1 =>
 ((0 : Int) ≤ a1 ∧ (a1 : Int) < (64 : Nat)) ∧
 ((0 : Int) ≤ a2 ∧ (a2 : Int) < (4 : Nat)) ∧
 JOIN (Unit) (fun J2 =>
 ∃ x5 : SlV, w.cell? (((p1.add 1).add (Int.toNat a1 * 4)).add (Int.toNat a2 * 1)) = some (.slice x5.base x5.len x5.cap) ∧
 CND ((((x5.len : Nat) : Int) : Int) == 0) (
 F.stack_bytes E a2 (fun r6 w7 =>
 r6 ≠ (0 : Int) ∧
 LOOP (Int × Unit) (0, ()) w7 fun s8 _ w9 next10 =>
 CND (decide ((s8.1 : Int) < (u64 (Int.tdiv 16384 r6)))) (
 F.stack_Stacks_take E a0 a2 (fun r11 r12 w13 =>
 CND ((r12 : Int) != 0) (
 J2 (()) w13
 ) (
 ∃ x14 : SlV, w13.cell? (((p1.add 1).add (Int.toNat a1 * 4)).add (Int.toNat a2 * 1)) = some (.slice x14.base x14.len x14.cap) ∧
 AL (.cells ⟨[.int .u64 r11]⟩ E.t_uint64) w13 fun b15 w16 =>
 APP E.t_uint64 1 8 #[.int .u64 0] x14 ⟨(some (Addr.mk b15 0 none)), 1, 1⟩ w16 fun s17 w18 =>
 stCells (((p1.add 1).add (Int.toNat a1 * 4)).add (Int.toNat a2 * 1)) 0 [.slice s17.base s17.len s17.cap] w18 fun w19 =>
 next10 (u64 (s8.1 + 1), ()) w19
 )
 ) w9
 ) (
 J2 (()) w9
 )
 ) w
 ) (
 J2 (()) w
 )
 ) fun s3 _ w4 =>
 ∃ x20 : SlV, w4.cell? (((p1.add 1).add (Int.toNat a1 * 4)).add (Int.toNat a2 * 1)) = some (.slice x20.base x20.len x20.cap) ∧
 CND ((((x20.len : Nat) : Int) : Int) == 0) (
 K 0 13 w4
 ) (
 F.stack_row_pop E (some (((p1.add 1).add (Int.toNat a1 * 4)).add (Int.toNat a2 * 1))) (fun r21 w22 =>
 K r21 0 w22
 ) w4
 )

def F.stack_Stacks_large (E : Env) (a0 : (Option Addr)) (a1 : Int) (K : Int → Int → World → Prop) (w : World) : Prop :=
 NC a0 fun p1 =>
 ∃ x2 : (Option Addr), w.cell? p1 = some (.pointer x2) ∧
 8192 ≠ (0 : Int) ∧
 F.mheap_Heap_Manual E x2 (u64 (Int.tdiv a1 8192)) (i64 (a1)) (fun r3 r4 w5 =>
 CND ((r4 : Int) != 0) (
 K 0 r4 w5
 ) (
 NC a0 fun p6 =>
 ∃ x7 : (Option Addr), w5.cell? p6 = some (.pointer x7) ∧
 F.mheap_Heap_Span E x7 r3 (fun r8 r9 w10 =>
 F.span_Span_Next E r8 (fun r11 r12 w13 =>
 F.span_Span_Info E r8 (fun r14 r15 r16 r17 r18 r19 r20 r21 r22 r23 w24 =>
 K r14 0 w24
 ) w13
 ) w10
 ) w5
 )
 ) w

def F.stack_Stacks_Alloc (E : Env) (a0 : (Option Addr)) (a1 : Int) (a2 : Int) (K : Int → Int → World → Prop) (w : World) : Prop :=
 JOIN (Bool × Unit) (fun J1 =>
 F.stack_is E a1 (fun r4 w5 =>
 CND (!r4) (
 J1 (true, ()) w5
 ) (
 CND (decide ((a2 : Int) < 2048)) (
 J1 (true, ()) w5
 ) (
 CND (decide ((a2 : Int) > 67108864)) (
 J1 (true, ()) w5
 ) (
 J1 (((bitK .u64 0 a2 (u64 (a2 - 1))) : Int) != 0, ()) w5
 )
 )
 )
 ) w
 ) fun s2 _ w3 =>
 CND (s2.1) (
 K 0 1 w3
 ) (
 JOIN (Int × Int × Unit) (fun J6 =>
 F.stack_order E a2 (fun r9 w10 =>
 CND (decide ((r9 : Int) < 4)) (
 F.stack_Stacks_small E a0 a1 r9 (fun r11 r12 w13 =>
 J6 (r11, r12, ()) w13
 ) w10
 ) (
 F.stack_Stacks_large E a0 a2 (fun r14 r15 w16 =>
 J6 (r14, r15, ()) w16
 ) w10
 )
 ) w3
 ) fun s7 _ w8 =>
 CND ((s7.2.1 : Int) == 0) (
 NC a0 fun p17 =>
 ∃ x18 : (Option Nat), w8.cell? (p17.add 261) = some (.map x18) ∧
 MUPD .u64 s7.1 (.int .u64 a2) x18 w8 fun w19 =>
 K s7.1 s7.2.1 w19
 ) (
 K s7.1 s7.2.1 w8
 )
 )

def F.math_bits_Len32 (E : Env) (a0 : Int) (K : Int → World → Prop) (w : World) : Prop :=
 JOIN (Int × Int × Unit) (fun J1 =>
 CND (decide ((a0 : Int) ≥ 65536)) (
 (0 : Int) ≤ 16 ∧
 LET (Int.fdiv a0 (2 ^ (min (Int.toNat 16) (IntKind.bits .u32))) : Int) fun x_4 =>
 J1 (x_4, 16, ()) w
 ) (
 J1 (a0, 0, ()) w
 )
 ) fun s2 _ w3 =>
 JOIN (Int × Int × Unit) (fun J5 =>
 CND (decide ((s2.1 : Int) ≥ 256)) (
 (0 : Int) ≤ 8 ∧
 LET (Int.fdiv s2.1 (2 ^ (min (Int.toNat 8) (IntKind.bits .u32))) : Int) fun x_8 =>
 J5 (x_8, i64 (s2.2.1 + 8), ()) w3
 ) (
 J5 (s2.1, s2.2.1, ()) w3
 )
 ) fun s6 _ w7 =>
 STRI ⟨#[0, 1, 2, 2, 3, 3, 3, 3, 4, 4, 4, 4, 4, 4, 4, 4, 5, 5, 5, 5, 5, 5, 5, 5, 5, 5, 5, 5, 5, 5, 5, 5, 6, 6, 6, 6, 6, 6, 6, 6, 6, 6, 6, 6, 6, 6, 6, 6, 6, 6, 6, 6, 6, 6, 6, 6, 6, 6, 6, 6, 6, 6, 6, 6, 7, 7, 7, 7, 7, 7, 7, 7, 7, 7, 7, 7, 7, 7, 7, 7, 7, 7, 7, 7, 7, 7, 7, 7, 7, 7, 7, 7, 7, 7, 7, 7, 7, 7, 7, 7, 7, 7, 7, 7, 7, 7, 7, 7, 7, 7, 7, 7, 7, 7, 7, 7, 7, 7, 7, 7, 7, 7, 7, 7, 7, 7, 7, 7, 8, 8, 8, 8, 8, 8, 8, 8, 8, 8, 8, 8, 8, 8, 8, 8, 8, 8, 8, 8, 8, 8, 8, 8, 8, 8, 8, 8, 8, 8, 8, 8, 8, 8, 8, 8, 8, 8, 8, 8, 8, 8, 8, 8, 8, 8, 8, 8, 8, 8, 8, 8, 8, 8, 8, 8, 8, 8, 8, 8, 8, 8, 8, 8, 8, 8, 8, 8, 8, 8, 8, 8, 8, 8, 8, 8, 8, 8, 8, 8, 8, 8, 8, 8, 8, 8, 8, 8, 8, 8, 8, 8, 8, 8, 8, 8, 8, 8, 8, 8, 8, 8, 8, 8, 8, 8, 8, 8, 8, 8, 8, 8, 8, 8, 8, 8, 8, 8, 8, 8, 8, 8, 8, 8, 8, 8, 8, 8]⟩ (IntKind.wrap .u8 (s6.1)) fun b9 =>
 LET (i64 (s6.2.1 + (i64 (b9))) : Int) fun n_10 =>
 K n_10 w7

def F.math_bits_Len64 (E : Env) (a0 : Int) (K : Int → World → Prop) (w : World) : Prop :=
 JOIN (Int × Int × Unit) (fun J1 =>
 CND (decide ((a0 : Int) ≥ 4294967296)) (
 (0 : Int) ≤ 32 ∧
 LET (Int.fdiv a0 (2 ^ (min (Int.toNat 32) (IntKind.bits .u64))) : Int) fun x_4 =>
 J1 (x_4, 32, ()) w
 ) (
 J1 (a0, 0, ()) w
 )
 ) fun s2 _ w3 =>
 JOIN (Int × Int × Unit) (fun J5 =>
 CND (decide ((s2.1 : Int) ≥ 65536)) (
 (0 : Int) ≤ 16 ∧
 LET (Int.fdiv s2.1 (2 ^ (min (Int.toNat 16) (IntKind.bits .u64))) : Int) fun x_8 =>
 J5 (x_8, i64 (s2.2.1 + 16), ()) w3
 ) (
 J5 (s2.1, s2.2.1, ()) w3
 )
 ) fun s6 _ w7 =>
 JOIN (Int × Int × Unit) (fun J9 =>
 CND (decide ((s6.1 : Int) ≥ 256)) (
 (0 : Int) ≤ 8 ∧
 LET (Int.fdiv s6.1 (2 ^ (min (Int.toNat 8) (IntKind.bits .u64))) : Int) fun x_12 =>
 J9 (x_12, i64 (s6.2.1 + 8), ()) w7
 ) (
 J9 (s6.1, s6.2.1, ()) w7
 )
 ) fun s10 _ w11 =>
 STRI ⟨#[0, 1, 2, 2, 3, 3, 3, 3, 4, 4, 4, 4, 4, 4, 4, 4, 5, 5, 5, 5, 5, 5, 5, 5, 5, 5, 5, 5, 5, 5, 5, 5, 6, 6, 6, 6, 6, 6, 6, 6, 6, 6, 6, 6, 6, 6, 6, 6, 6, 6, 6, 6, 6, 6, 6, 6, 6, 6, 6, 6, 6, 6, 6, 6, 7, 7, 7, 7, 7, 7, 7, 7, 7, 7, 7, 7, 7, 7, 7, 7, 7, 7, 7, 7, 7, 7, 7, 7, 7, 7, 7, 7, 7, 7, 7, 7, 7, 7, 7, 7, 7, 7, 7, 7, 7, 7, 7, 7, 7, 7, 7, 7, 7, 7, 7, 7, 7, 7, 7, 7, 7, 7, 7, 7, 7, 7, 7, 7, 8, 8, 8, 8, 8, 8, 8, 8, 8, 8, 8, 8, 8, 8, 8, 8, 8, 8, 8, 8, 8, 8, 8, 8, 8, 8, 8, 8, 8, 8, 8, 8, 8, 8, 8, 8, 8, 8, 8, 8, 8, 8, 8, 8, 8, 8, 8, 8, 8, 8, 8, 8, 8, 8, 8, 8, 8, 8, 8, 8, 8, 8, 8, 8, 8, 8, 8, 8, 8, 8, 8, 8, 8, 8, 8, 8, 8, 8, 8, 8, 8, 8, 8, 8, 8, 8, 8, 8, 8, 8, 8, 8, 8, 8, 8, 8, 8, 8, 8, 8, 8, 8, 8, 8, 8, 8, 8, 8, 8, 8, 8, 8, 8, 8, 8, 8, 8, 8, 8, 8, 8, 8, 8, 8, 8, 8, 8, 8]⟩ (IntKind.wrap .u8 (s10.1)) fun b13 =>
 LET (i64 (s10.2.1 + (i64 (b13))) : Int) fun n_14 =>
 K n_14 w11

def F.math_bits_Len (E : Env) (a0 : Int) (K : Int → World → Prop) (w : World) : Prop :=
 F.math_bits_Len64 E a0 (fun r1 w2 =>
 K r1 w2
 ) w

def F.slices_insertionSortCmpFunc_int_ (E : Env) (a0 : SlV) (a1 : Int) (a2 : Int) (a3 : Value) (K : World → Prop) (w : World) : Prop :=
 LOOP (Int × Unit) (i64 (a1 + 1), ()) w fun s1 _ w2 next3 =>
 CND (decide ((s1.1 : Int) < a2)) (
 LOOP (Int × Unit) (s1.1, ()) w2 fun s4 _ w5 next6 =>
 CND (decide ((s4.1 : Int) > a1)) (
 NC a0.base fun p7 =>
 ((0 : Int) ≤ s4.1 ∧ (s4.1 : Int) < (a0.len : Nat)) ∧
 ∃ x8 : Int, w5.drew.cell? (p7.add (Int.toNat s4.1 * 1)) = some (.int .i64 x8) ∧
 NC a0.base fun p9 =>
 ((0 : Int) ≤ (i64 (s4.1 - 1)) ∧ ((i64 (s4.1 - 1)) : Int) < (a0.len : Nat)) ∧
 ∃ x10 : Int, w5.drew.cell? (p9.add (Int.toNat (i64 (s4.1 - 1)) * 1)) = some (.int .i64 x10) ∧
 DYN E.call a3 #[.int .i64 x8, .int .i64 x10] w5.drew fun r11 w12 =>
 ∃ x13 : Int, r11 = .int .i64 x13 ∧
 CND (decide ((x13 : Int) < 0)) (
 NC a0.base fun p14 =>
 ((0 : Int) ≤ (i64 (s4.1 - 1)) ∧ ((i64 (s4.1 - 1)) : Int) < (a0.len : Nat)) ∧
 ∃ x15 : Int, w12.drew.cell? (p14.add (Int.toNat (i64 (s4.1 - 1)) * 1)) = some (.int .i64 x15) ∧
 NC a0.base fun p16 =>
 ((0 : Int) ≤ s4.1 ∧ (s4.1 : Int) < (a0.len : Nat)) ∧
 ∃ x17 : Int, w12.drew.cell? (p16.add (Int.toNat s4.1 * 1)) = some (.int .i64 x17) ∧
 NC a0.base fun p18 =>
 ((0 : Int) ≤ s4.1 ∧ (s4.1 : Int) < (a0.len : Nat)) ∧
 stCells (p18.add (Int.toNat s4.1 * 1)) 0 [.int .i64 x15] w12.drew fun w19 =>
 NC a0.base fun p20 =>
 ((0 : Int) ≤ (i64 (s4.1 - 1)) ∧ ((i64 (s4.1 - 1)) : Int) < (a0.len : Nat)) ∧
 stCells (p20.add (Int.toNat (i64 (s4.1 - 1)) * 1)) 0 [.int .i64 x17] w19 fun w21 =>
 next6 (i64 (s4.1 - 1), ()) w21
 ) (
 next3 (i64 (s1.1 + 1), ()) w12
 )
 ) (
 next3 (i64 (s1.1 + 1), ()) w5.drew
 )
 ) (
 K  w2
 )

def F.slices_siftDownCmpFunc_int_ (E : Env) (a0 : SlV) (a1 : Int) (a2 : Int) (a3 : Int) (a4 : Value) (K : World → Prop) (w : World) : Prop :=
 LOOP (Int × Unit) (a1, ()) w fun s1 _ w2 next3 =>
 LET (i64 ((i64 (2 * s1.1)) + 1) : Int) fun child_4 =>
 CND (decide ((child_4 : Int) ≥ a2)) (
 K  w2
 ) (
 JOIN (Int × Unit) (fun J5 =>
 JOIN (Bool × Unit) (fun J8 =>
 CND (decide (((i64 (child_4 + 1)) : Int) < a2)) (
 NC a0.base fun p11 =>
 ((0 : Int) ≤ (i64 (a3 + child_4)) ∧ ((i64 (a3 + child_4)) : Int) < (a0.len : Nat)) ∧
 ∃ x12 : Int, w2.drew.cell? (p11.add (Int.toNat (i64 (a3 + child_4)) * 1)) = some (.int .i64 x12) ∧
 NC a0.base fun p13 =>
 ((0 : Int) ≤ (i64 ((i64 (a3 + child_4)) + 1)) ∧ ((i64 ((i64 (a3 + child_4)) + 1)) : Int) < (a0.len : Nat)) ∧
 ∃ x14 : Int, w2.drew.cell? (p13.add (Int.toNat (i64 ((i64 (a3 + child_4)) + 1)) * 1)) = some (.int .i64 x14) ∧
 DYN E.call a4 #[.int .i64 x12, .int .i64 x14] w2.drew fun r15 w16 =>
 ∃ x17 : Int, r15 = .int .i64 x17 ∧
 J8 (decide ((x17 : Int) < 0), ()) w16
 ) (
 J8 (false, ()) w2.drew
 )
 ) fun s9 _ w10 =>
 CND (s9.1) (
 J5 (i64 (child_4 + 1), ()) w10
 ) (
 J5 (child_4, ()) w10
 )
 ) fun s6 _ w7 =>
 NC a0.base fun p18 =>
 ((0 : Int) ≤ (i64 (a3 + s1.1)) ∧ ((i64 (a3 + s1.1)) : Int) < (a0.len : Nat)) ∧
 ∃ x19 : Int, w7.drew.cell? (p18.add (Int.toNat (i64 (a3 + s1.1)) * 1)) = some (.int .i64 x19) ∧
 NC a0.base fun p20 =>
 ((0 : Int) ≤ (i64 (a3 + s6.1)) ∧ ((i64 (a3 + s6.1)) : Int) < (a0.len : Nat)) ∧
 ∃ x21 : Int, w7.drew.cell? (p20.add (Int.toNat (i64 (a3 + s6.1)) * 1)) = some (.int .i64 x21) ∧
 DYN E.call a4 #[.int .i64 x19, .int .i64 x21] w7.drew fun r22 w23 =>
 ∃ x24 : Int, r22 = .int .i64 x24 ∧
 CND (!(decide ((x24 : Int) < 0))) (
 K  w23
 ) (
 NC a0.base fun p25 =>
 ((0 : Int) ≤ (i64 (a3 + s6.1)) ∧ ((i64 (a3 + s6.1)) : Int) < (a0.len : Nat)) ∧
 ∃ x26 : Int, w23.drew.cell? (p25.add (Int.toNat (i64 (a3 + s6.1)) * 1)) = some (.int .i64 x26) ∧
 NC a0.base fun p27 =>
 ((0 : Int) ≤ (i64 (a3 + s1.1)) ∧ ((i64 (a3 + s1.1)) : Int) < (a0.len : Nat)) ∧
 ∃ x28 : Int, w23.drew.cell? (p27.add (Int.toNat (i64 (a3 + s1.1)) * 1)) = some (.int .i64 x28) ∧
 NC a0.base fun p29 =>
 ((0 : Int) ≤ (i64 (a3 + s1.1)) ∧ ((i64 (a3 + s1.1)) : Int) < (a0.len : Nat)) ∧
 stCells (p29.add (Int.toNat (i64 (a3 + s1.1)) * 1)) 0 [.int .i64 x26] w23.drew fun w30 =>
 NC a0.base fun p31 =>
 ((0 : Int) ≤ (i64 (a3 + s6.1)) ∧ ((i64 (a3 + s6.1)) : Int) < (a0.len : Nat)) ∧
 stCells (p31.add (Int.toNat (i64 (a3 + s6.1)) * 1)) 0 [.int .i64 x28] w30 fun w32 =>
 next3 (s6.1, ()) w32
 )
 )

def F.slices_heapSortCmpFunc_int_ (E : Env) (a0 : SlV) (a1 : Int) (a2 : Int) (a3 : Value) (K : World → Prop) (w : World) : Prop :=
 2 ≠ (0 : Int) ∧
 LET (i64 (Int.tdiv (i64 ((i64 (a2 - a1)) - 1)) 2) : Int) fun i_1 =>
 LOOP (Int × Unit) (i_1, ()) w fun s2 _ w3 next4 =>
 CND (decide ((s2.1 : Int) ≥ 0)) (
 F.slices_siftDownCmpFunc_int_ E a0 s2.1 (i64 (a2 - a1)) a1 a3 (fun  w5 =>
 next4 (i64 (s2.1 - 1), ()) w5
 ) w3
 ) (
 LET (i64 ((i64 (a2 - a1)) - 1) : Int) fun i_6 =>
 LOOP (Int × Unit) (i_6, ()) w3 fun s7 _ w8 next9 =>
 CND (decide ((s7.1 : Int) ≥ 0)) (
 NC a0.base fun p10 =>
 ((0 : Int) ≤ (i64 (a1 + s7.1)) ∧ ((i64 (a1 + s7.1)) : Int) < (a0.len : Nat)) ∧
 ∃ x11 : Int, w8.drew.cell? (p10.add (Int.toNat (i64 (a1 + s7.1)) * 1)) = some (.int .i64 x11) ∧
 NC a0.base fun p12 =>
 ((0 : Int) ≤ a1 ∧ (a1 : Int) < (a0.len : Nat)) ∧
 ∃ x13 : Int, w8.drew.cell? (p12.add (Int.toNat a1 * 1)) = some (.int .i64 x13) ∧
 NC a0.base fun p14 =>
 ((0 : Int) ≤ a1 ∧ (a1 : Int) < (a0.len : Nat)) ∧
 stCells (p14.add (Int.toNat a1 * 1)) 0 [.int .i64 x11] w8.drew fun w15 =>
 NC a0.base fun p16 =>
 ((0 : Int) ≤ (i64 (a1 + s7.1)) ∧ ((i64 (a1 + s7.1)) : Int) < (a0.len : Nat)) ∧
 stCells (p16.add (Int.toNat (i64 (a1 + s7.1)) * 1)) 0 [.int .i64 x13] w15 fun w17 =>
 F.slices_siftDownCmpFunc_int_ E a0 0 s7.1 a1 a3 (fun  w18 =>
 next9 (i64 (s7.1 - 1), ()) w18
 ) w17
 ) (
 K  w8
 )
 )

def F.slices_nextPowerOfTwo (E : Env) (a0 : Int) (K : Int → World → Prop) (w : World) : Prop :=
 F.math_bits_Len E (u64 (a0)) (fun r1 w2 =>
 (0 : Int) ≤ r1 ∧
 LET (u64 (1 * 2 ^ (min (Int.toNat r1) (IntKind.bits .u64))) : Int) fun t3 =>
 K t3 w2
 ) w

def F.slices_xorshift_Next (E : Env) (a0 : (Option Addr)) (K : Int → World → Prop) (w : World) : Prop :=
 NC a0 fun p1 =>
 ∃ x2 : Int, w.drew.cell? p1 = some (.int .u64 x2) ∧
 NC a0 fun p3 =>
 ∃ x4 : Int, w.drew.cell? p3 = some (.int .u64 x4) ∧
 (0 : Int) ≤ 13 ∧
 NC a0 fun p5 =>
 stCells p5 0 [.int .u64 (bitK .u64 2 x2 (u64 (x4 * 2 ^ (min (Int.toNat 13) (IntKind.bits .u64)))))] w.drew fun w6 =>
 NC a0 fun p7 =>
 ∃ x8 : Int, w6.drew.cell? p7 = some (.int .u64 x8) ∧
 NC a0 fun p9 =>
 ∃ x10 : Int, w6.drew.cell? p9 = some (.int .u64 x10) ∧
 (0 : Int) ≤ 7 ∧
 NC a0 fun p11 =>
 stCells p11 0 [.int .u64 (bitK .u64 2 x8 (Int.fdiv x10 (2 ^ (min (Int.toNat 7) (IntKind.bits .u64)))))] w6.drew fun w12 =>
 NC a0 fun p13 =>
 ∃ x14 : Int, w12.drew.cell? p13 = some (.int .u64 x14) ∧
 NC a0 fun p15 =>
 ∃ x16 : Int, w12.drew.cell? p15 = some (.int .u64 x16) ∧
 (0 : Int) ≤ 17 ∧
 NC a0 fun p17 =>
 stCells p17 0 [.int .u64 (bitK .u64 2 x14 (u64 (x16 * 2 ^ (min (Int.toNat 17) (IntKind.bits .u64)))))] w12.drew fun w18 =>
 NC a0 fun p19 =>
 ∃ x20 : Int, w18.cell? p19 = some (.int .u64 x20) ∧
 K x20 w18

def F.slices_breakPatternsCmpFunc_int_ (E : Env) (a0 : SlV) (a1 : Int) (a2 : Int) (a3 : Value) (K : World → Prop) (w : World) : Prop :=
 CND (decide (((i64 (a2 - a1)) : Int) ≥ 8)) (
 AL (.cells #[.int .u64 0] E.t_slices_xorshift) w fun b1 w2 =>
 stCells (Addr.mk b1 0 none) 0 [.int .u64 (u64 (i64 (a2 - a1)))] w2 fun w3 =>
 F.slices_nextPowerOfTwo E (i64 (a2 - a1)) (fun r4 w5 =>
 4 ≠ (0 : Int) ∧
 LET (i64 ((i64 (a1 + (i64 ((i64 (Int.tdiv (i64 (a2 - a1)) 4)) * 2)))) - 1) : Int) fun idx_6 =>
 LOOP (Int × Unit) (idx_6, ()) w5 fun s7 _ w8 next9 =>
 4 ≠ (0 : Int) ∧
 CND (decide ((s7.1 : Int) ≤ (i64 ((i64 (a1 + (i64 ((i64 (Int.tdiv (i64 (a2 - a1)) 4)) * 2)))) + 1)))) (
 F.slices_xorshift_Next E (some (Addr.mk b1 0 none)) (fun r10 w11 =>
 LET (i64 (bitK .u64 0 r10 (u64 (r4 - 1))) : Int) fun other_12 =>
 JOIN (Int × Unit) (fun J13 =>
 CND (decide ((other_12 : Int) ≥ (i64 (a2 - a1)))) (
 LET (i64 (other_12 - (i64 (a2 - a1))) : Int) fun other_16 =>
 J13 (other_16, ()) w11
 ) (
 J13 (other_12, ()) w11
 )
 ) fun s14 _ w15 =>
 NC a0.base fun p17 =>
 ((0 : Int) ≤ (i64 (a1 + s14.1)) ∧ ((i64 (a1 + s14.1)) : Int) < (a0.len : Nat)) ∧
 ∃ x18 : Int, w15.drew.cell? (p17.add (Int.toNat (i64 (a1 + s14.1)) * 1)) = some (.int .i64 x18) ∧
 NC a0.base fun p19 =>
 ((0 : Int) ≤ s7.1 ∧ (s7.1 : Int) < (a0.len : Nat)) ∧
 ∃ x20 : Int, w15.drew.cell? (p19.add (Int.toNat s7.1 * 1)) = some (.int .i64 x20) ∧
 NC a0.base fun p21 =>
 ((0 : Int) ≤ s7.1 ∧ (s7.1 : Int) < (a0.len : Nat)) ∧
 stCells (p21.add (Int.toNat s7.1 * 1)) 0 [.int .i64 x18] w15.drew fun w22 =>
 NC a0.base fun p23 =>
 ((0 : Int) ≤ (i64 (a1 + s14.1)) ∧ ((i64 (a1 + s14.1)) : Int) < (a0.len : Nat)) ∧
 stCells (p23.add (Int.toNat (i64 (a1 + s14.1)) * 1)) 0 [.int .i64 x20] w22 fun w24 =>
 next9 (i64 (s7.1 + 1), ()) w24
 ) w8
 ) (
 K  w8
 )
 ) w3
 ) (
 K  w
 )

def F.slices_order2CmpFunc_int_ (E : Env) (a0 : SlV) (a1 : Int) (a2 : Int) (a3 : (Option Addr)) (a4 : Value) (K : Int → Int → World → Prop) (w : World) : Prop :=
 NC a0.base fun p1 =>
 ((0 : Int) ≤ a2 ∧ (a2 : Int) < (a0.len : Nat)) ∧
 ∃ x2 : Int, w.drew.cell? (p1.add (Int.toNat a2 * 1)) = some (.int .i64 x2) ∧
 NC a0.base fun p3 =>
 ((0 : Int) ≤ a1 ∧ (a1 : Int) < (a0.len : Nat)) ∧
 ∃ x4 : Int, w.drew.cell? (p3.add (Int.toNat a1 * 1)) = some (.int .i64 x4) ∧
 DYN E.call a4 #[.int .i64 x2, .int .i64 x4] w.drew fun r5 w6 =>
 ∃ x7 : Int, r5 = .int .i64 x7 ∧
 CND (decide ((x7 : Int) < 0)) (
 NC a3 fun p8 =>
 ∃ x9 : Int, w6.cell? p8 = some (.int .i64 x9) ∧
 NC a3 fun p10 =>
 stCells p10 0 [.int .i64 (i64 (x9 + 1))] w6 fun w11 =>
 K a2 a1 w11
 ) (
 K a1 a2 w6
 )

def F.slices_medianCmpFunc_int_ (E : Env) (a0 : SlV) (a1 : Int) (a2 : Int) (a3 : Int) (a4 : (Option Addr)) (a5 : Value) (K : Int → World → Prop) (w : World) : Prop :=
 F.slices_order2CmpFunc_int_ E a0 a1 a2 a4 a5 (fun r1 r2 w3 =>
 F.slices_order2CmpFunc_int_ E a0 r2 a3 a4 a5 (fun r4 r5 w6 =>
 F.slices_order2CmpFunc_int_ E a0 r1 r4 a4 a5 (fun r7 r8 w9 =>
 K r8 w9
 ) w6
 ) w3
 ) w

def F.slices_medianAdjacentCmpFunc_int_ (E : Env) (a0 : SlV) (a1 : Int) (a2 : (Option Addr)) (a3 : Value) (K : Int → World → Prop) (w : World) : Prop :=
 F.slices_medianCmpFunc_int_ E a0 (i64 (a1 - 1)) a1 (i64 (a1 + 1)) a2 a3 (fun r1 w2 =>
 K r1 w2
 ) w

def F.slices_choosePivotCmpFunc_int_ (E : Env) (a0 : SlV) (a1 : Int) (a2 : Int) (a3 : Value) (K : Int → Int → World → Prop) (w : World) : Prop :=
 AL (.cells #[.int .i64 0] E.t_int) w fun b1 w2 =>
 4 ≠ (0 : Int) ∧
 LET (i64 (a1 + (i64 ((i64 (Int.tdiv (i64 (a2 - a1)) 4)) * 1))) : Int) fun i_3 =>
 4 ≠ (0 : Int) ∧
 LET (i64 (a1 + (i64 ((i64 (Int.tdiv (i64 (a2 - a1)) 4)) * 2))) : Int) fun j_4 =>
 4 ≠ (0 : Int) ∧
 LET (i64 (a1 + (i64 ((i64 (Int.tdiv (i64 (a2 - a1)) 4)) * 3))) : Int) fun k_5 =>
 JOIN (Int × Unit) (fun J6 =>
 CND (decide (((i64 (a2 - a1)) : Int) ≥ 8)) (
 JOIN (Int × Int × Int × Unit) (fun J9 =>
 CND (decide (((i64 (a2 - a1)) : Int) ≥ 50)) (
 F.slices_medianAdjacentCmpFunc_int_ E a0 i_3 (some (Addr.mk b1 0 none)) a3 (fun r12 w13 =>
 F.slices_medianAdjacentCmpFunc_int_ E a0 j_4 (some (Addr.mk b1 0 none)) a3 (fun r14 w15 =>
 F.slices_medianAdjacentCmpFunc_int_ E a0 k_5 (some (Addr.mk b1 0 none)) a3 (fun r16 w17 =>
 J9 (r12, r14, r16, ()) w17
 ) w15
 ) w13
 ) w2
 ) (
 J9 (i_3, j_4, k_5, ()) w2
 )
 ) fun s10 _ w11 =>
 F.slices_medianCmpFunc_int_ E a0 s10.1 s10.2.1 s10.2.2.1 (some (Addr.mk b1 0 none)) a3 (fun r18 w19 =>
 J6 (r18, ()) w19
 ) w11
 ) (
 J6 (j_4, ()) w2
 )
 ) fun s7 _ w8 =>
 ∃ x20 : Int, w8.cell? (Addr.mk b1 0 none) = some (.int .i64 x20) ∧
 CND ((x20 : Int) == 0) (
 K s7.1 1 w8
 ) (
 CND ((x20 : Int) == 12) (
 K s7.1 2 w8
 ) (
 K s7.1 0 w8
 )
 )

def F.slices_reverseRangeCmpFunc_int_ (E : Env) (a0 : SlV) (a1 : Int) (a2 : Int) (a3 : Value) (K : World → Prop) (w : World) : Prop :=
 LOOP (Int × Int × Unit) (a1, i64 (a2 - 1), ()) w fun s1 _ w2 next3 =>
 CND (decide ((s1.1 : Int) < s1.2.1)) (
 NC a0.base fun p4 =>
 ((0 : Int) ≤ s1.2.1 ∧ (s1.2.1 : Int) < (a0.len : Nat)) ∧
 ∃ x5 : Int, w2.drew.cell? (p4.add (Int.toNat s1.2.1 * 1)) = some (.int .i64 x5) ∧
 NC a0.base fun p6 =>
 ((0 : Int) ≤ s1.1 ∧ (s1.1 : Int) < (a0.len : Nat)) ∧
 ∃ x7 : Int, w2.drew.cell? (p6.add (Int.toNat s1.1 * 1)) = some (.int .i64 x7) ∧
 NC a0.base fun p8 =>
 ((0 : Int) ≤ s1.1 ∧ (s1.1 : Int) < (a0.len : Nat)) ∧
 stCells (p8.add (Int.toNat s1.1 * 1)) 0 [.int .i64 x5] w2.drew fun w9 =>
 NC a0.base fun p10 =>
 ((0 : Int) ≤ s1.2.1 ∧ (s1.2.1 : Int) < (a0.len : Nat)) ∧
 stCells (p10.add (Int.toNat s1.2.1 * 1)) 0 [.int .i64 x7] w9 fun w11 =>
 next3 (i64 (s1.1 + 1), i64 (s1.2.1 - 1), ()) w11
 ) (
 K  w2
 )

def F.slices_partialInsertionSortCmpFunc_int_ (E : Env) (a0 : SlV) (a1 : Int) (a2 : Int) (a3 : Value) (K : Bool → World → Prop) (w : World) : Prop :=
 LOOP (Int × Int × Unit) (i64 (a1 + 1), 0, ()) w fun s1 _ w2 next3 =>
 CND (decide ((s1.2.1 : Int) < 5)) (
 JOIN (Int × Unit) (fun J4 =>
 LOOP (Int × Unit) (s1.1, ()) w2 fun s7 _ w8 next9 =>
 CND (decide ((s7.1 : Int) < a2)) (
 NC a0.base fun p10 =>
 ((0 : Int) ≤ s7.1 ∧ (s7.1 : Int) < (a0.len : Nat)) ∧
 ∃ x11 : Int, w8.drew.cell? (p10.add (Int.toNat s7.1 * 1)) = some (.int .i64 x11) ∧
 NC a0.base fun p12 =>
 ((0 : Int) ≤ (i64 (s7.1 - 1)) ∧ ((i64 (s7.1 - 1)) : Int) < (a0.len : Nat)) ∧
 ∃ x13 : Int, w8.drew.cell? (p12.add (Int.toNat (i64 (s7.1 - 1)) * 1)) = some (.int .i64 x13) ∧
 DYN E.call a3 #[.int .i64 x11, .int .i64 x13] w8.drew fun r14 w15 =>
 ∃ x16 : Int, r14 = .int .i64 x16 ∧
 CND (!(decide ((x16 : Int) < 0))) (
 next9 (i64 (s7.1 + 1), ()) w15
 ) (
 J4 (s7.1, ()) w15
 )
 ) (
 J4 (s7.1, ()) w8.drew
 )
 ) fun s5 _ w6 =>
 CND ((s5.1 : Int) == a2) (
 K true w6
 ) (
 CND (decide (((i64 (a2 - a1)) : Int) < 50)) (
 K false w6
 ) (
 NC a0.base fun p17 =>
 ((0 : Int) ≤ (i64 (s5.1 - 1)) ∧ ((i64 (s5.1 - 1)) : Int) < (a0.len : Nat)) ∧
 ∃ x18 : Int, w6.drew.cell? (p17.add (Int.toNat (i64 (s5.1 - 1)) * 1)) = some (.int .i64 x18) ∧
 NC a0.base fun p19 =>
 ((0 : Int) ≤ s5.1 ∧ (s5.1 : Int) < (a0.len : Nat)) ∧
 ∃ x20 : Int, w6.drew.cell? (p19.add (Int.toNat s5.1 * 1)) = some (.int .i64 x20) ∧
 NC a0.base fun p21 =>
 ((0 : Int) ≤ s5.1 ∧ (s5.1 : Int) < (a0.len : Nat)) ∧
 stCells (p21.add (Int.toNat s5.1 * 1)) 0 [.int .i64 x18] w6.drew fun w22 =>
 NC a0.base fun p23 =>
 ((0 : Int) ≤ (i64 (s5.1 - 1)) ∧ ((i64 (s5.1 - 1)) : Int) < (a0.len : Nat)) ∧
 stCells (p23.add (Int.toNat (i64 (s5.1 - 1)) * 1)) 0 [.int .i64 x20] w22 fun w24 =>
 JOIN (Unit) (fun J25 =>
 CND (decide (((i64 (s5.1 - a1)) : Int) ≥ 2)) (
 LOOP (Int × Unit) (i64 (s5.1 - 1), ()) w24 fun s28 _ w29 next30 =>
 CND (decide ((s28.1 : Int) ≥ 1)) (
 NC a0.base fun p31 =>
 ((0 : Int) ≤ s28.1 ∧ (s28.1 : Int) < (a0.len : Nat)) ∧
 ∃ x32 : Int, w29.drew.cell? (p31.add (Int.toNat s28.1 * 1)) = some (.int .i64 x32) ∧
 NC a0.base fun p33 =>
 ((0 : Int) ≤ (i64 (s28.1 - 1)) ∧ ((i64 (s28.1 - 1)) : Int) < (a0.len : Nat)) ∧
 ∃ x34 : Int, w29.drew.cell? (p33.add (Int.toNat (i64 (s28.1 - 1)) * 1)) = some (.int .i64 x34) ∧
 DYN E.call a3 #[.int .i64 x32, .int .i64 x34] w29.drew fun r35 w36 =>
 ∃ x37 : Int, r35 = .int .i64 x37 ∧
 CND (!(decide ((x37 : Int) < 0))) (
 J25 (()) w36
 ) (
 NC a0.base fun p38 =>
 ((0 : Int) ≤ (i64 (s28.1 - 1)) ∧ ((i64 (s28.1 - 1)) : Int) < (a0.len : Nat)) ∧
 ∃ x39 : Int, w36.drew.cell? (p38.add (Int.toNat (i64 (s28.1 - 1)) * 1)) = some (.int .i64 x39) ∧
 NC a0.base fun p40 =>
 ((0 : Int) ≤ s28.1 ∧ (s28.1 : Int) < (a0.len : Nat)) ∧
 ∃ x41 : Int, w36.drew.cell? (p40.add (Int.toNat s28.1 * 1)) = some (.int .i64 x41) ∧
 NC a0.base fun p42 =>
 ((0 : Int) ≤ s28.1 ∧ (s28.1 : Int) < (a0.len : Nat)) ∧
 stCells (p42.add (Int.toNat s28.1 * 1)) 0 [.int .i64 x39] w36.drew fun w43 =>
 NC a0.base fun p44 =>
 ((0 : Int) ≤ (i64 (s28.1 - 1)) ∧ ((i64 (s28.1 - 1)) : Int) < (a0.len : Nat)) ∧
 stCells (p44.add (Int.toNat (i64 (s28.1 - 1)) * 1)) 0 [.int .i64 x41] w43 fun w45 =>
 next30 (i64 (s28.1 - 1), ()) w45
 )
 ) (
 J25 (()) w29
 )
 ) (
 J25 (()) w24
 )
 ) fun s26 _ w27 =>
 CND (decide (((i64 (a2 - s5.1)) : Int) ≥ 2)) (
 LOOP (Int × Unit) (i64 (s5.1 + 1), ()) w27 fun s46 _ w47 next48 =>
 CND (decide ((s46.1 : Int) < a2)) (
 NC a0.base fun p49 =>
 ((0 : Int) ≤ s46.1 ∧ (s46.1 : Int) < (a0.len : Nat)) ∧
 ∃ x50 : Int, w47.drew.cell? (p49.add (Int.toNat s46.1 * 1)) = some (.int .i64 x50) ∧
 NC a0.base fun p51 =>
 ((0 : Int) ≤ (i64 (s46.1 - 1)) ∧ ((i64 (s46.1 - 1)) : Int) < (a0.len : Nat)) ∧
 ∃ x52 : Int, w47.drew.cell? (p51.add (Int.toNat (i64 (s46.1 - 1)) * 1)) = some (.int .i64 x52) ∧
 DYN E.call a3 #[.int .i64 x50, .int .i64 x52] w47.drew fun r53 w54 =>
 ∃ x55 : Int, r53 = .int .i64 x55 ∧
 CND (!(decide ((x55 : Int) < 0))) (
 next3 (s5.1, i64 (s1.2.1 + 1), ()) w54
 ) (
 NC a0.base fun p56 =>
 ((0 : Int) ≤ (i64 (s46.1 - 1)) ∧ ((i64 (s46.1 - 1)) : Int) < (a0.len : Nat)) ∧
 ∃ x57 : Int, w54.drew.cell? (p56.add (Int.toNat (i64 (s46.1 - 1)) * 1)) = some (.int .i64 x57) ∧
 NC a0.base fun p58 =>
 ((0 : Int) ≤ s46.1 ∧ (s46.1 : Int) < (a0.len : Nat)) ∧
 ∃ x59 : Int, w54.drew.cell? (p58.add (Int.toNat s46.1 * 1)) = some (.int .i64 x59) ∧
 NC a0.base fun p60 =>
 ((0 : Int) ≤ s46.1 ∧ (s46.1 : Int) < (a0.len : Nat)) ∧
 stCells (p60.add (Int.toNat s46.1 * 1)) 0 [.int .i64 x57] w54.drew fun w61 =>
 NC a0.base fun p62 =>
 ((0 : Int) ≤ (i64 (s46.1 - 1)) ∧ ((i64 (s46.1 - 1)) : Int) < (a0.len : Nat)) ∧
 stCells (p62.add (Int.toNat (i64 (s46.1 - 1)) * 1)) 0 [.int .i64 x59] w61 fun w63 =>
 next48 (i64 (s46.1 + 1), ()) w63
 )
 ) (
 next3 (s5.1, i64 (s1.2.1 + 1), ()) w47
 )
 ) (
 next3 (s5.1, i64 (s1.2.1 + 1), ()) w27
 )
 )
 )
 ) (
 K false w2
 )

def F.slices_partitionEqualCmpFunc_int_ (E : Env) (a0 : SlV) (a1 : Int) (a2 : Int) (a3 : Int) (a4 : Value) (K : Int → World → Prop) (w : World) : Prop :=
 NC a0.base fun p1 =>
 ((0 : Int) ≤ a3 ∧ (a3 : Int) < (a0.len : Nat)) ∧
 ∃ x2 : Int, w.drew.cell? (p1.add (Int.toNat a3 * 1)) = some (.int .i64 x2) ∧
 NC a0.base fun p3 =>
 ((0 : Int) ≤ a1 ∧ (a1 : Int) < (a0.len : Nat)) ∧
 ∃ x4 : Int, w.drew.cell? (p3.add (Int.toNat a1 * 1)) = some (.int .i64 x4) ∧
 NC a0.base fun p5 =>
 ((0 : Int) ≤ a1 ∧ (a1 : Int) < (a0.len : Nat)) ∧
 stCells (p5.add (Int.toNat a1 * 1)) 0 [.int .i64 x2] w.drew fun w6 =>
 NC a0.base fun p7 =>
 ((0 : Int) ≤ a3 ∧ (a3 : Int) < (a0.len : Nat)) ∧
 stCells (p7.add (Int.toNat a3 * 1)) 0 [.int .i64 x4] w6 fun w8 =>
 LOOP (Int × Int × Unit) (i64 (a1 + 1), i64 (a2 - 1), ()) w8 fun s9 _ w10 next11 =>
 JOIN (Int × Unit) (fun J12 =>
 LOOP (Int × Int × Unit) (s9.1, s9.2.1, ()) w10 fun s15 _ w16 next17 =>
 CND (decide ((s15.1 : Int) ≤ s15.2.1)) (
 NC a0.base fun p18 =>
 ((0 : Int) ≤ a1 ∧ (a1 : Int) < (a0.len : Nat)) ∧
 ∃ x19 : Int, w16.drew.cell? (p18.add (Int.toNat a1 * 1)) = some (.int .i64 x19) ∧
 NC a0.base fun p20 =>
 ((0 : Int) ≤ s15.1 ∧ (s15.1 : Int) < (a0.len : Nat)) ∧
 ∃ x21 : Int, w16.drew.cell? (p20.add (Int.toNat s15.1 * 1)) = some (.int .i64 x21) ∧
 DYN E.call a4 #[.int .i64 x19, .int .i64 x21] w16.drew fun r22 w23 =>
 ∃ x24 : Int, r22 = .int .i64 x24 ∧
 CND (!(decide ((x24 : Int) < 0))) (
 next17 (i64 (s15.1 + 1), s15.2.1, ()) w23
 ) (
 J12 (s15.1, ()) w23
 )
 ) (
 J12 (s15.1, ()) w16.drew
 )
 ) fun s13 _ w14 =>
 JOIN (Int × Unit) (fun J25 =>
 LOOP (Int × Unit) (s9.2.1, ()) w14 fun s28 _ w29 next30 =>
 CND (decide ((s13.1 : Int) ≤ s28.1)) (
 NC a0.base fun p31 =>
 ((0 : Int) ≤ a1 ∧ (a1 : Int) < (a0.len : Nat)) ∧
 ∃ x32 : Int, w29.drew.cell? (p31.add (Int.toNat a1 * 1)) = some (.int .i64 x32) ∧
 NC a0.base fun p33 =>
 ((0 : Int) ≤ s28.1 ∧ (s28.1 : Int) < (a0.len : Nat)) ∧
 ∃ x34 : Int, w29.drew.cell? (p33.add (Int.toNat s28.1 * 1)) = some (.int .i64 x34) ∧
 DYN E.call a4 #[.int .i64 x32, .int .i64 x34] w29.drew fun r35 w36 =>
 ∃ x37 : Int, r35 = .int .i64 x37 ∧
 CND (decide ((x37 : Int) < 0)) (
 next30 (i64 (s28.1 - 1), ()) w36
 ) (
 J25 (s28.1, ()) w36
 )
 ) (
 J25 (s28.1, ()) w29.drew
 )
 ) fun s26 _ w27 =>
 CND (decide ((s13.1 : Int) > s26.1)) (
 K s13.1 w27
 ) (
 NC a0.base fun p38 =>
 ((0 : Int) ≤ s26.1 ∧ (s26.1 : Int) < (a0.len : Nat)) ∧
 ∃ x39 : Int, w27.drew.cell? (p38.add (Int.toNat s26.1 * 1)) = some (.int .i64 x39) ∧
 NC a0.base fun p40 =>
 ((0 : Int) ≤ s13.1 ∧ (s13.1 : Int) < (a0.len : Nat)) ∧
 ∃ x41 : Int, w27.drew.cell? (p40.add (Int.toNat s13.1 * 1)) = some (.int .i64 x41) ∧
 NC a0.base fun p42 =>
 ((0 : Int) ≤ s13.1 ∧ (s13.1 : Int) < (a0.len : Nat)) ∧
 stCells (p42.add (Int.toNat s13.1 * 1)) 0 [.int .i64 x39] w27.drew fun w43 =>
 NC a0.base fun p44 =>
 ((0 : Int) ≤ s26.1 ∧ (s26.1 : Int) < (a0.len : Nat)) ∧
 stCells (p44.add (Int.toNat s26.1 * 1)) 0 [.int .i64 x41] w43 fun w45 =>
 next11 (i64 (s13.1 + 1), i64 (s26.1 - 1), ()) w45
 )

def F.slices_partitionCmpFunc_int_ (E : Env) (a0 : SlV) (a1 : Int) (a2 : Int) (a3 : Int) (a4 : Value) (K : Int → Bool → World → Prop) (w : World) : Prop :=
 NC a0.base fun p1 =>
 ((0 : Int) ≤ a3 ∧ (a3 : Int) < (a0.len : Nat)) ∧
 ∃ x2 : Int, w.drew.cell? (p1.add (Int.toNat a3 * 1)) = some (.int .i64 x2) ∧
 NC a0.base fun p3 =>
 ((0 : Int) ≤ a1 ∧ (a1 : Int) < (a0.len : Nat)) ∧
 ∃ x4 : Int, w.drew.cell? (p3.add (Int.toNat a1 * 1)) = some (.int .i64 x4) ∧
 NC a0.base fun p5 =>
 ((0 : Int) ≤ a1 ∧ (a1 : Int) < (a0.len : Nat)) ∧
 stCells (p5.add (Int.toNat a1 * 1)) 0 [.int .i64 x2] w.drew fun w6 =>
 NC a0.base fun p7 =>
 ((0 : Int) ≤ a3 ∧ (a3 : Int) < (a0.len : Nat)) ∧
 stCells (p7.add (Int.toNat a3 * 1)) 0 [.int .i64 x4] w6 fun w8 =>
 JOIN (Int × Unit) (fun J9 =>
 LOOP (Int × Unit) (i64 (a1 + 1), ()) w8 fun s12 _ w13 next14 =>
 CND (decide ((s12.1 : Int) ≤ (i64 (a2 - 1)))) (
 NC a0.base fun p15 =>
 ((0 : Int) ≤ s12.1 ∧ (s12.1 : Int) < (a0.len : Nat)) ∧
 ∃ x16 : Int, w13.drew.cell? (p15.add (Int.toNat s12.1 * 1)) = some (.int .i64 x16) ∧
 NC a0.base fun p17 =>
 ((0 : Int) ≤ a1 ∧ (a1 : Int) < (a0.len : Nat)) ∧
 ∃ x18 : Int, w13.drew.cell? (p17.add (Int.toNat a1 * 1)) = some (.int .i64 x18) ∧
 DYN E.call a4 #[.int .i64 x16, .int .i64 x18] w13.drew fun r19 w20 =>
 ∃ x21 : Int, r19 = .int .i64 x21 ∧
 CND (decide ((x21 : Int) < 0)) (
 next14 (i64 (s12.1 + 1), ()) w20
 ) (
 J9 (s12.1, ()) w20
 )
 ) (
 J9 (s12.1, ()) w13.drew
 )
 ) fun s10 _ w11 =>
 JOIN (Int × Unit) (fun J22 =>
 LOOP (Int × Unit) (i64 (a2 - 1), ()) w11 fun s25 _ w26 next27 =>
 CND (decide ((s10.1 : Int) ≤ s25.1)) (
 NC a0.base fun p28 =>
 ((0 : Int) ≤ s25.1 ∧ (s25.1 : Int) < (a0.len : Nat)) ∧
 ∃ x29 : Int, w26.drew.cell? (p28.add (Int.toNat s25.1 * 1)) = some (.int .i64 x29) ∧
 NC a0.base fun p30 =>
 ((0 : Int) ≤ a1 ∧ (a1 : Int) < (a0.len : Nat)) ∧
 ∃ x31 : Int, w26.drew.cell? (p30.add (Int.toNat a1 * 1)) = some (.int .i64 x31) ∧
 DYN E.call a4 #[.int .i64 x29, .int .i64 x31] w26.drew fun r32 w33 =>
 ∃ x34 : Int, r32 = .int .i64 x34 ∧
 CND (!(decide ((x34 : Int) < 0))) (
 next27 (i64 (s25.1 - 1), ()) w33
 ) (
 J22 (s25.1, ()) w33
 )
 ) (
 J22 (s25.1, ()) w26.drew
 )
 ) fun s23 _ w24 =>
 CND (decide ((s10.1 : Int) > s23.1)) (
 NC a0.base fun p35 =>
 ((0 : Int) ≤ a1 ∧ (a1 : Int) < (a0.len : Nat)) ∧
 ∃ x36 : Int, w24.drew.cell? (p35.add (Int.toNat a1 * 1)) = some (.int .i64 x36) ∧
 NC a0.base fun p37 =>
 ((0 : Int) ≤ s23.1 ∧ (s23.1 : Int) < (a0.len : Nat)) ∧
 ∃ x38 : Int, w24.drew.cell? (p37.add (Int.toNat s23.1 * 1)) = some (.int .i64 x38) ∧
 NC a0.base fun p39 =>
 ((0 : Int) ≤ s23.1 ∧ (s23.1 : Int) < (a0.len : Nat)) ∧
 stCells (p39.add (Int.toNat s23.1 * 1)) 0 [.int .i64 x36] w24.drew fun w40 =>
 NC a0.base fun p41 =>
 ((0 : Int) ≤ a1 ∧ (a1 : Int) < (a0.len : Nat)) ∧
 stCells (p41.add (Int.toNat a1 * 1)) 0 [.int .i64 x38] w40 fun w42 =>
 K s23.1 true w42
 ) (
 NC a0.base fun p43 =>
 ((0 : Int) ≤ s23.1 ∧ (s23.1 : Int) < (a0.len : Nat)) ∧
 ∃ x44 : Int, w24.drew.cell? (p43.add (Int.toNat s23.1 * 1)) = some (.int .i64 x44) ∧
 NC a0.base fun p45 =>
 ((0 : Int) ≤ s10.1 ∧ (s10.1 : Int) < (a0.len : Nat)) ∧
 ∃ x46 : Int, w24.drew.cell? (p45.add (Int.toNat s10.1 * 1)) = some (.int .i64 x46) ∧
 NC a0.base fun p47 =>
 ((0 : Int) ≤ s10.1 ∧ (s10.1 : Int) < (a0.len : Nat)) ∧
 stCells (p47.add (Int.toNat s10.1 * 1)) 0 [.int .i64 x44] w24.drew fun w48 =>
 NC a0.base fun p49 =>
 ((0 : Int) ≤ s23.1 ∧ (s23.1 : Int) < (a0.len : Nat)) ∧
 stCells (p49.add (Int.toNat s23.1 * 1)) 0 [.int .i64 x46] w48 fun w50 =>
 LOOP (Int × Int × Unit) (i64 (s10.1 + 1), i64 (s23.1 - 1), ()) w50 fun s51 _ w52 next53 =>
 JOIN (Int × Unit) (fun J54 =>
 LOOP (Int × Int × Unit) (s51.1, s51.2.1, ()) w52 fun s57 _ w58 next59 =>
 CND (decide ((s57.1 : Int) ≤ s57.2.1)) (
 NC a0.base fun p60 =>
 ((0 : Int) ≤ s57.1 ∧ (s57.1 : Int) < (a0.len : Nat)) ∧
 ∃ x61 : Int, w58.drew.cell? (p60.add (Int.toNat s57.1 * 1)) = some (.int .i64 x61) ∧
 NC a0.base fun p62 =>
 ((0 : Int) ≤ a1 ∧ (a1 : Int) < (a0.len : Nat)) ∧
 ∃ x63 : Int, w58.drew.cell? (p62.add (Int.toNat a1 * 1)) = some (.int .i64 x63) ∧
 DYN E.call a4 #[.int .i64 x61, .int .i64 x63] w58.drew fun r64 w65 =>
 ∃ x66 : Int, r64 = .int .i64 x66 ∧
 CND (decide ((x66 : Int) < 0)) (
 next59 (i64 (s57.1 + 1), s57.2.1, ()) w65
 ) (
 J54 (s57.1, ()) w65
 )
 ) (
 J54 (s57.1, ()) w58.drew
 )
 ) fun s55 _ w56 =>
 JOIN (Int × Unit) (fun J67 =>
 LOOP (Int × Unit) (s51.2.1, ()) w56 fun s70 _ w71 next72 =>
 CND (decide ((s55.1 : Int) ≤ s70.1)) (
 NC a0.base fun p73 =>
 ((0 : Int) ≤ s70.1 ∧ (s70.1 : Int) < (a0.len : Nat)) ∧
 ∃ x74 : Int, w71.drew.cell? (p73.add (Int.toNat s70.1 * 1)) = some (.int .i64 x74) ∧
 NC a0.base fun p75 =>
 ((0 : Int) ≤ a1 ∧ (a1 : Int) < (a0.len : Nat)) ∧
 ∃ x76 : Int, w71.drew.cell? (p75.add (Int.toNat a1 * 1)) = some (.int .i64 x76) ∧
 DYN E.call a4 #[.int .i64 x74, .int .i64 x76] w71.drew fun r77 w78 =>
 ∃ x79 : Int, r77 = .int .i64 x79 ∧
 CND (!(decide ((x79 : Int) < 0))) (
 next72 (i64 (s70.1 - 1), ()) w78
 ) (
 J67 (s70.1, ()) w78
 )
 ) (
 J67 (s70.1, ()) w71.drew
 )
 ) fun s68 _ w69 =>
 CND (decide ((s55.1 : Int) > s68.1)) (
 NC a0.base fun p80 =>
 ((0 : Int) ≤ a1 ∧ (a1 : Int) < (a0.len : Nat)) ∧
 ∃ x81 : Int, w69.drew.cell? (p80.add (Int.toNat a1 * 1)) = some (.int .i64 x81) ∧
 NC a0.base fun p82 =>
 ((0 : Int) ≤ s68.1 ∧ (s68.1 : Int) < (a0.len : Nat)) ∧
 ∃ x83 : Int, w69.drew.cell? (p82.add (Int.toNat s68.1 * 1)) = some (.int .i64 x83) ∧
 NC a0.base fun p84 =>
 ((0 : Int) ≤ s68.1 ∧ (s68.1 : Int) < (a0.len : Nat)) ∧
 stCells (p84.add (Int.toNat s68.1 * 1)) 0 [.int .i64 x81] w69.drew fun w85 =>
 NC a0.base fun p86 =>
 ((0 : Int) ≤ a1 ∧ (a1 : Int) < (a0.len : Nat)) ∧
 stCells (p86.add (Int.toNat a1 * 1)) 0 [.int .i64 x83] w85 fun w87 =>
 K s68.1 false w87
 ) (
 NC a0.base fun p88 =>
 ((0 : Int) ≤ s68.1 ∧ (s68.1 : Int) < (a0.len : Nat)) ∧
 ∃ x89 : Int, w69.drew.cell? (p88.add (Int.toNat s68.1 * 1)) = some (.int .i64 x89) ∧
 NC a0.base fun p90 =>
 ((0 : Int) ≤ s55.1 ∧ (s55.1 : Int) < (a0.len : Nat)) ∧
 ∃ x91 : Int, w69.drew.cell? (p90.add (Int.toNat s55.1 * 1)) = some (.int .i64 x91) ∧
 NC a0.base fun p92 =>
 ((0 : Int) ≤ s55.1 ∧ (s55.1 : Int) < (a0.len : Nat)) ∧
 stCells (p92.add (Int.toNat s55.1 * 1)) 0 [.int .i64 x89] w69.drew fun w93 =>
 NC a0.base fun p94 =>
 ((0 : Int) ≤ s68.1 ∧ (s68.1 : Int) < (a0.len : Nat)) ∧
 stCells (p94.add (Int.toNat s68.1 * 1)) 0 [.int .i64 x91] w93 fun w95 =>
 next53 (i64 (s55.1 + 1), i64 (s68.1 - 1), ()) w95
 )
 )

def F.slices_pdqsortCmpFunc_int_ (E : Env) : Nat → SlV → Int → Int → Int → Value → (World → Prop) → World → Prop
 | 0, _, _, _, _, _, _, _ => False
 | n0 + 1, a0, a1, a2, a3, a4, K, w =>
 LOOP (Int × Int × Int × Bool × Bool × Unit) (a1, a2, a3, true, true, ()) w fun s1 _ w2 next3 =>
 CND (decide (((i64 (s1.2.1 - s1.1)) : Int) ≤ 12)) (
 F.slices_insertionSortCmpFunc_int_ E a0 s1.1 s1.2.1 a4 (fun  w4 =>
 K  w4
 ) w2
 ) (
 CND ((s1.2.2.1 : Int) == 0) (
 F.slices_heapSortCmpFunc_int_ E a0 s1.1 s1.2.1 a4 (fun  w5 =>
 K  w5
 ) w2
 ) (
 JOIN (Int × Unit) (fun J6 =>
 CND (!s1.2.2.2.1) (
 F.slices_breakPatternsCmpFunc_int_ E a0 s1.1 s1.2.1 a4 (fun  w9 =>
 J6 (i64 (s1.2.2.1 - 1), ()) w9
 ) w2
 ) (
 J6 (s1.2.2.1, ()) w2
 )
 ) fun s7 _ w8 =>
 F.slices_choosePivotCmpFunc_int_ E a0 s1.1 s1.2.1 a4 (fun r10 r11 w12 =>
 JOIN (Int × Int × Unit) (fun J13 =>
 CND ((r11 : Int) == 2) (
 F.slices_reverseRangeCmpFunc_int_ E a0 s1.1 s1.2.1 a4 (fun  w16 =>
 LET (i64 ((i64 (s1.2.1 - 1)) - (i64 (r10 - s1.1))) : Int) fun pivot_17 =>
 J13 (pivot_17, 1, ()) w16
 ) w12
 ) (
 J13 (r10, r11, ()) w12
 )
 ) fun s14 _ w15 =>
 JOIN (Unit) (fun J18 =>
 JOIN (Bool × Unit) (fun J21 =>
 CND (s1.2.2.2.1) (
 CND (s1.2.2.2.2.1) (
 J21 ((s14.2.1 : Int) == 1, ()) w15
 ) (
 J21 (false, ()) w15
 )
 ) (
 J21 (false, ()) w15
 )
 ) fun s22 _ w23 =>
 CND (s22.1) (
 F.slices_partialInsertionSortCmpFunc_int_ E a0 s1.1 s1.2.1 a4 (fun r24 w25 =>
 CND (r24) (
 K  w25
 ) (
 J18 (()) w25
 )
 ) w23
 ) (
 J18 (()) w23
 )
 ) fun s19 _ w20 =>
 JOIN (Bool × Unit) (fun J26 =>
 CND (decide ((s1.1 : Int) > 0)) (
 NC a0.base fun p29 =>
 ((0 : Int) ≤ (i64 (s1.1 - 1)) ∧ ((i64 (s1.1 - 1)) : Int) < (a0.len : Nat)) ∧
 ∃ x30 : Int, w20.drew.cell? (p29.add (Int.toNat (i64 (s1.1 - 1)) * 1)) = some (.int .i64 x30) ∧
 NC a0.base fun p31 =>
 ((0 : Int) ≤ s14.1 ∧ (s14.1 : Int) < (a0.len : Nat)) ∧
 ∃ x32 : Int, w20.drew.cell? (p31.add (Int.toNat s14.1 * 1)) = some (.int .i64 x32) ∧
 DYN E.call a4 #[.int .i64 x30, .int .i64 x32] w20.drew fun r33 w34 =>
 ∃ x35 : Int, r33 = .int .i64 x35 ∧
 J26 (!(decide ((x35 : Int) < 0)), ()) w34
 ) (
 J26 (false, ()) w20.drew
 )
 ) fun s27 _ w28 =>
 CND (s27.1) (
 F.slices_partitionEqualCmpFunc_int_ E a0 s1.1 s1.2.1 s14.1 a4 (fun r36 w37 =>
 next3 (r36, s1.2.1, s7.1, s1.2.2.2.1, s1.2.2.2.2.1, ()) w37
 ) w28
 ) (
 F.slices_partitionCmpFunc_int_ E a0 s1.1 s1.2.1 s14.1 a4 (fun r38 r39 w40 =>
 8 ≠ (0 : Int) ∧
 LET (i64 (Int.tdiv (i64 (s1.2.1 - s1.1)) 8) : Int) fun balanceThreshold_41 =>
 CND (decide (((i64 (r38 - s1.1)) : Int) < (i64 (s1.2.1 - r38)))) (
 F.slices_pdqsortCmpFunc_int_ E n0 a0 s1.1 r38 s7.1 a4 (fun  w42 =>
 next3 (i64 (r38 + 1), s1.2.1, s7.1, decide (((i64 (r38 - s1.1)) : Int) ≥ balanceThreshold_41), r39, ()) w42
 ) w40
 ) (
 F.slices_pdqsortCmpFunc_int_ E n0 a0 (i64 (r38 + 1)) s1.2.1 s7.1 a4 (fun  w43 =>
 next3 (s1.1, r38, s7.1, decide (((i64 (s1.2.1 - r38)) : Int) ≥ balanceThreshold_41), r39, ()) w43
 ) w40
 )
 ) w28
 )
 ) w8
 )
 )

def F.slices_SortFunc___int_int_ (E : Env) (a0 : SlV) (a1 : Value) (K : World → Prop) (w : World) : Prop :=
 F.math_bits_Len E (u64 (((a0.len : Nat) : Int))) (fun r1 w2 =>
 ∃ n_, F.slices_pdqsortCmpFunc_int_ E n_ a0 0 ((a0.len : Nat) : Int) r1 a1 (fun  w3 =>
 K  w3
 ) w2
 ) w

def F.mheap_Heap_Spans (E : Env) (a0 : (Option Addr)) (K : SlV → World → Prop) (w : World) : Prop :=
 AL (.cells #[.pointer a0] E.t__mheap_Heap) w fun b1 w2 =>
 ∃ x3 : (Option Addr), w2.cell? (Addr.mk b1 0 none) = some (.pointer x3) ∧
 NC x3 fun p4 =>
 ∃ x5 : (Option Nat), w2.cell? (p4.add 4) = some (.map x5) ∧
 ∃ cl6, rngAt w2 x5 cl6 ∧
 AL (rngObj x5 cl6) w2 fun b7 w8 =>
 LOOP (SlV × Unit) (⟨none, 0, 0⟩, ()) w8 fun s9 _ w10 next11 =>
 JOIN (Bool × Unit) (fun J12 =>
 NEXT b7 w10 (fun w15 =>
 J12 (false, ()) w15
 ) fun k17 v18 w16 =>
 J12 (true, ()) w16
 ) fun s13 _ w14 =>
 JOIN (Bool × Unit) (fun J19 =>
 CND (s13.1) (
 J19 (s13.1, ()) w14
 ) (
 F.slices_SortFunc___int_int_ E s9.1 (.func (.func E.f_mheap_Heap_Spans_1) #[] #[.pointer (some (Addr.mk b1 0 none))]) (fun  w22 =>
 K s9.1 w22
 ) w14
 )
 ) fun s20 _ w21 =>
 ENT b7 w21 fun k23 v24 S25 =>
 unInt .i64 k23 fun x26 =>
 AL (.cells ⟨[.int .i64 x26]⟩ E.t_int) w21 fun b27 w28 =>
 APP E.t_int 1 8 #[.int .i64 0] s9.1 ⟨(some (Addr.mk b27 0 none)), 1, 1⟩ w28 fun s29 w30 =>
 next11 (s29, ()) w30

def F.stack_Stacks_Inuse (E : Env) (a0 : (Option Addr)) (K : Int → World → Prop) (w : World) : Prop :=
 NC a0 fun p1 =>
 ∃ x2 : (Option Addr), w.cell? p1 = some (.pointer x2) ∧
 F.mheap_Heap_Spans E x2 (fun r3 w4 =>
 LOOP (Int × Int × Unit) (0, 0, ()) w4 fun s5 _ w6 next7 =>
 CND (decide ((s5.2.1 : Int) < ((r3.len : Nat) : Int))) (
 NC r3.base fun p8 =>
 ((0 : Int) ≤ s5.2.1 ∧ (s5.2.1 : Int) < (r3.len : Nat)) ∧
 ∃ x9 : Int, w6.cell? (p8.add (Int.toNat s5.2.1 * 1)) = some (.int .i64 x9) ∧
 NC a0 fun p10 =>
 ∃ x11 : (Option Addr), w6.cell? p10 = some (.pointer x11) ∧
 F.mheap_Heap_Span E x11 x9 (fun r12 r13 w14 =>
 F.span_Span_Info E r12 (fun r15 r16 r17 r18 r19 r20 r21 r22 r23 r24 w25 =>
 AL (.cells #[.int .u64 0, .int .i64 0, .int .i64 0, .int .i64 0, .bool false, .int .i64 0, .int .i64 0, .int .i64 0, .bool false, .bool false] E.t_api_Info) w25 fun b26 w27 =>
 stCells (Addr.mk b26 0 none) 0 [.int .u64 r15, .int .i64 r16, .int .i64 r17, .int .i64 r18, .bool r19, .int .i64 r20, .int .i64 r21, .int .i64 r22, .bool r23, .bool r24] w27 fun w28 =>
 ∃ x29 : Int, w28.cell? ((Addr.mk b26 0 none).add 2) = some (.int .i64 x29) ∧
 CND ((x29 : Int) == 2) (
 ∃ x30 : Int, w28.cell? ((Addr.mk b26 0 none).add 1) = some (.int .i64 x30) ∧
 LET (u64 (s5.1 + (u64 ((u64 (x30)) * 8192))) : Int) fun n_31 =>
 next7 (n_31, i64 (s5.2.1 + 1), ()) w28
 ) (
 next7 (s5.1, i64 (s5.2.1 + 1), ()) w28
 )
 ) w14
 ) w6
 ) (
 K s5.1 w6
 )
 ) w

def F.arena_Map_whole (E : Env) (a0 : (Option Addr)) (a1 : Int) (K : Int → World → Prop) (w : World) : Prop :=
 NC a0 fun p1 =>
 ∃ x2 : SlV, w.cell? (p1.add 2) = some (.slice x2.base x2.len x2.cap) ∧
 LOOP (Int × Unit) (0, ()) w fun s3 _ w4 next5 =>
 CND (decide ((s3.1 : Int) < ((x2.len : Nat) : Int))) (
 NC x2.base fun p6 =>
 ((0 : Int) ≤ s3.1 ∧ (s3.1 : Int) < (x2.len : Nat)) ∧
 ∃ c7 : Int, w4.cell? ((p6.add (Int.toNat s3.1 * 3)).add 0) = some (.int .u64 c7) ∧
 ∃ c8 : Int, w4.cell? ((p6.add (Int.toNat s3.1 * 3)).add 1) = some (.int .u64 c8) ∧
 ∃ c9 : Int, w4.cell? ((p6.add (Int.toNat s3.1 * 3)).add 2) = some (.int .i64 c9) ∧
 AL (.cells #[.int .u64 0, .int .u64 0, .int .i64 0] E.t_arena_wide) w4 fun b10 w11 =>
 stCells (Addr.mk b10 0 none) 0 [.int .u64 c7, .int .u64 c8, .int .i64 c9] w11 fun w12 =>
 JOIN (Bool × Unit) (fun J13 =>
 ∃ x16 : Int, w12.cell? (Addr.mk b10 0 none) = some (.int .u64 x16) ∧
 CND (decide ((a1 : Int) ≥ x16)) (
 ∃ x17 : Int, w12.cell? ((Addr.mk b10 0 none).add 1) = some (.int .u64 x17) ∧
 J13 (decide ((a1 : Int) < x17), ()) w12
 ) (
 J13 (false, ()) w12
 )
 ) fun s14 _ w15 =>
 CND (s14.1) (
 ∃ x18 : Int, w15.cell? ((Addr.mk b10 0 none).add 2) = some (.int .i64 x18) ∧
 K x18 w15
 ) (
 next5 (i64 (s3.1 + 1), ()) w15
 )
 ) (
 K 0 w4
 )

def F.arena_Map_At (E : Env) (a0 : (Option Addr)) (a1 : Int) (K : Int → World → Prop) (w : World) : Prop :=
 8192 ≠ (0 : Int) ∧
 NC a0 fun p1 =>
 ∃ x2 : (Option Nat), w.cell? (p1.add 3) = some (.map x2) ∧
 512 ≠ (0 : Int) ∧
 LKP .u64 (u64 (Int.tdiv (u64 (Int.tdiv a1 8192)) 512)) x2 w (.pointer none) fun v3 ok4 es5 =>
 ∃ x6 : (Option Addr), v3 = .pointer x6 ∧
 CND (!x6.isNone) (
 512 ≠ (0 : Int) ∧
 NC x6 fun p7 =>
 ((0 : Int) ≤ (Int.tmod (u64 (Int.tdiv a1 8192)) 512) ∧ ((Int.tmod (u64 (Int.tdiv a1 8192)) 512) : Int) < (512 : Nat)) ∧
 ∃ x8 : Int, w.cell? (p7.add (Int.toNat (Int.tmod (u64 (Int.tdiv a1 8192)) 512) * 1)) = some (.int .i64 x8) ∧
 K x8 w
 ) (
 512 ≠ (0 : Int) ∧
 F.arena_Map_whole E a0 (u64 (Int.tdiv (u64 (Int.tdiv a1 8192)) 512)) (fun r9 w10 =>
 K r9 w10
 ) w
 )

def F.mheap_Heap_Of (E : Env) (a0 : (Option Addr)) (a1 : Int) (K : Int → World → Prop) (w : World) : Prop :=
 NC a0 fun p1 =>
 ∃ x2 : (Option Addr), w.cell? (p1.add 2) = some (.pointer x2) ∧
 F.arena_Map_At E x2 a1 (fun r3 w4 =>
 K r3 w4
 ) w

def F._span_row_get (E : Env) (a0 : SlV) (a1 : Int) (K : Bool → World → Prop) (w : World) : Prop :=
 (0 : Int) ≤ 6 ∧
 CND (decide (((Int.fdiv a1 (2 ^ (min (Int.toNat 6) (IntKind.bits .i64)))) : Int) < ((a0.len : Nat) : Int))) (
 (0 : Int) ≤ 6 ∧
 NC a0.base fun p1 =>
 ((0 : Int) ≤ (Int.fdiv a1 (2 ^ (min (Int.toNat 6) (IntKind.bits .i64)))) ∧ ((Int.fdiv a1 (2 ^ (min (Int.toNat 6) (IntKind.bits .i64)))) : Int) < (a0.len : Nat)) ∧
 ∃ x2 : Int, w.cell? (p1.add (Int.toNat (Int.fdiv a1 (2 ^ (min (Int.toNat 6) (IntKind.bits .i64)))) * 1)) = some (.int .u64 x2) ∧
 (0 : Int) ≤ (bitK .i64 0 a1 63) ∧
 K (((bitK .u64 0 (Int.fdiv x2 (2 ^ (min (Int.toNat (bitK .i64 0 a1 63)) (IntKind.bits .u64)))) 1) : Int) == 1) w
 ) (
 K false w
 )

def F._span_row_clear (E : Env) (a0 : SlV) (a1 : Int) (K : World → Prop) (w : World) : Prop :=
 (0 : Int) ≤ 6 ∧
 NC a0.base fun p1 =>
 ((0 : Int) ≤ (Int.fdiv a1 (2 ^ (min (Int.toNat 6) (IntKind.bits .i64)))) ∧ ((Int.fdiv a1 (2 ^ (min (Int.toNat 6) (IntKind.bits .i64)))) : Int) < (a0.len : Nat)) ∧
 ∃ x2 : Int, w.drew.cell? (p1.add (Int.toNat (Int.fdiv a1 (2 ^ (min (Int.toNat 6) (IntKind.bits .i64)))) * 1)) = some (.int .u64 x2) ∧
 (0 : Int) ≤ (bitK .i64 0 a1 63) ∧
 NC a0.base fun p3 =>
 ((0 : Int) ≤ (Int.fdiv a1 (2 ^ (min (Int.toNat 6) (IntKind.bits .i64)))) ∧ ((Int.fdiv a1 (2 ^ (min (Int.toNat 6) (IntKind.bits .i64)))) : Int) < (a0.len : Nat)) ∧
 stCells (p3.add (Int.toNat (Int.fdiv a1 (2 ^ (min (Int.toNat 6) (IntKind.bits .i64)))) * 1)) 0 [.int .u64 (bitK .u64 3 x2 (u64 (1 * 2 ^ (min (Int.toNat (bitK .i64 0 a1 63)) (IntKind.bits .u64)))))] w.drew fun w4 =>
 K  w4

def F.span_Span_Give (E : Env) (a0 : (Option Addr)) (a1 : Int) (K : Int → World → Prop) (w : World) : Prop :=
 NC a0 fun p1 =>
 ∃ x2 : Int, w.cell? (p1.add 2) = some (.int .i64 x2) ∧
 CND ((x2 : Int) != 2) (
 K 33 w
 ) (
 F.span_Span_there E a0 a1 (fun r3 w4 =>
 CND (!r3) (
 K 1 w4
 ) (
 NC a0 fun p5 =>
 ∃ x6 : SlV, w4.cell? (p5.add 11) = some (.slice x6.base x6.len x6.cap) ∧
 F._span_row_get E x6 a1 (fun r7 w8 =>
 CND (!r7) (
 K 31 w8
 ) (
 NC a0 fun p9 =>
 ∃ x10 : SlV, w8.cell? (p9.add 11) = some (.slice x10.base x10.len x10.cap) ∧
 F._span_row_clear E x10 a1 (fun  w11 =>
 NC a0 fun p12 =>
 ∃ x13 : Int, w11.cell? (p12.add 7) = some (.int .i64 x13) ∧
 NC a0 fun p14 =>
 stCells (p14.add 7) 0 [.int .i64 (i64 (x13 - 1))] w11 fun w15 =>
 NC a0 fun p16 =>
 ∃ x17 : Int, w15.cell? (p16.add 13) = some (.int .i64 x17) ∧
 NC a0 fun p18 =>
 stCells (p18.add 13) 0 [.int .i64 (minI x17 a1)] w15 fun w19 =>
 K 0 w19
 ) w8
 )
 ) w4
 )
 ) w
 )

def F.span_Span_Die (E : Env) (a0 : (Option Addr)) (K : Int → World → Prop) (w : World) : Prop :=
 JOIN (Bool × Unit) (fun J1 =>
 NC a0 fun p4 =>
 ∃ x5 : Int, w.cell? (p4.add 2) = some (.int .i64 x5) ∧
 CND ((x5 : Int) == 0) (
 J1 (true, ()) w
 ) (
 NC a0 fun p6 =>
 ∃ x7 : Int, w.cell? (p6.add 7) = some (.int .i64 x7) ∧
 J1 (decide ((x7 : Int) > 0), ()) w
 )
 ) fun s2 _ w3 =>
 CND (s2.1) (
 K 33 w3
 ) (
 NC a0 fun p8 =>
 stCells (p8.add 2) 0 [.int .i64 0] w3 fun w9 =>
 NC a0 fun p10 =>
 stCells (p10.add 7) 0 [.int .i64 0] w9 fun w11 =>
 NC a0 fun p12 =>
 stCells (p12.add 11) 0 [.slice none 0 0] w11 fun w13 =>
 NC a0 fun p14 =>
 stCells (p14.add 12) 0 [.slice none 0 0] w13 fun w15 =>
 K 0 w15
 )

def F.fix_Fix_Live (E : Env) (a0 : (Option Addr)) (a1 : Int) (K : Bool → World → Prop) (w : World) : Prop :=
 CND (decide ((a1 : Int) ≥ 1)) (
 NC a0 fun p1 =>
 ∃ x2 : SlV, w.cell? (p1.add 1) = some (.slice x2.base x2.len x2.cap) ∧
 CND (decide ((a1 : Int) ≤ ((x2.len : Nat) : Int))) (
 NC a0 fun p3 =>
 ∃ x4 : SlV, w.cell? (p3.add 1) = some (.slice x4.base x4.len x4.cap) ∧
 NC x4.base fun p5 =>
 ((0 : Int) ≤ (i64 (a1 - 1)) ∧ ((i64 (a1 - 1)) : Int) < (x4.len : Nat)) ∧
 ∃ x6 : (Option Addr), w.cell? (p5.add (Int.toNat (i64 (a1 - 1)) * 1)) = some (.pointer x6) ∧
 NC x6 fun p7 =>
 ∃ x8 : Bool, w.cell? (p7.add 1) = some (.bool x8) ∧
 K x8 w
 ) (
 K false w
 )
 ) (
 K false w
 )

def F.fix_Fix_Give (E : Env) (a0 : (Option Addr)) (a1 : Int) (K : Int → World → Prop) (w : World) : Prop :=
 F.fix_Fix_Live E a0 a1 (fun r1 w2 =>
 CND (!r1) (
 K 31 w2
 ) (
 NC a0 fun p3 =>
 ∃ x4 : SlV, w2.cell? (p3.add 1) = some (.slice x4.base x4.len x4.cap) ∧
 NC x4.base fun p5 =>
 ((0 : Int) ≤ (i64 (a1 - 1)) ∧ ((i64 (a1 - 1)) : Int) < (x4.len : Nat)) ∧
 ∃ x6 : (Option Addr), w2.cell? (p5.add (Int.toNat (i64 (a1 - 1)) * 1)) = some (.pointer x6) ∧
 NC a0 fun p7 =>
 ∃ x8 : (Option Addr), w2.cell? (p7.add 2) = some (.pointer x8) ∧
 NC x6 fun p9 =>
 stCells (p9.add 1) 0 [.bool false] w2 fun w10 =>
 NC x6 fun p11 =>
 stCells (p11.add 2) 0 [.pointer x8] w10 fun w12 =>
 NC a0 fun p13 =>
 stCells (p13.add 2) 0 [.pointer x6] w12 fun w14 =>
 NC a0 fun p15 =>
 ∃ x16 : Int, w14.cell? (p15.add 3) = some (.int .i64 x16) ∧
 NC a0 fun p17 =>
 stCells (p17.add 3) 0 [.int .i64 (i64 (x16 - 1))] w14 fun w18 =>
 K 0 w18
 )
 ) w

def F.mheap_Heap_Free (E : Env) (a0 : (Option Addr)) (a1 : Int) (K : Int → World → Prop) (w : World) : Prop :=
 NC a0 fun p1 =>
 ∃ x2 : (Option Nat), w.cell? (p1.add 4) = some (.map x2) ∧
 LKP .i64 a1 x2 w (.pointer none) fun v3 ok4 es5 =>
 ∃ x6 : (Option Addr), v3 = .pointer x6 ∧
 CND (!ok4) (
 K 35 w
 ) (
 F.span_Span_Die E x6 (fun r7 w8 =>
 CND ((r7 : Int) != 0) (
 K r7 w8
 ) (
 F.span_Span_Info E x6 (fun r9 r10 r11 r12 r13 r14 r15 r16 r17 r18 w19 =>
 AL (.cells #[.int .u64 0, .int .i64 0, .int .i64 0, .int .i64 0, .bool false, .int .i64 0, .int .i64 0, .int .i64 0, .bool false, .bool false] E.t_api_Info) w19 fun b20 w21 =>
 stCells (Addr.mk b20 0 none) 0 [.int .u64 r9, .int .i64 r10, .int .i64 r11, .int .i64 r12, .bool r13, .int .i64 r14, .int .i64 r15, .int .i64 r16, .bool r17, .bool r18] w21 fun w22 =>
 ∃ x23 : Int, w22.drew.cell? (Addr.mk b20 0 none) = some (.int .u64 x23) ∧
 8192 ≠ (0 : Int) ∧
 ∃ x24 : Int, w22.drew.cell? ((Addr.mk b20 0 none).add 1) = some (.int .i64 x24) ∧
 NC a0 fun p25 =>
 ∃ x26 : (Option Addr), w22.drew.cell? (p25.add 2) = some (.pointer x26) ∧
 F.arena_Map_Set E x26 (u64 (Int.tdiv x23 8192)) (u64 (x24)) 0 (fun r27 w28 =>
 NC a0 fun p29 =>
 ∃ x30 : (Option Addr), w28.cell? (p29.add 1) = some (.pointer x30) ∧
 F.radix_Tree_Give E x30 (u64 (Int.tdiv x23 8192)) (u64 (x24)) (fun r31 w32 =>
 NC a0 fun p33 =>
 ∃ x34 : (Option Addr), w32.cell? (p33.add 3) = some (.pointer x34) ∧
 F.fix_Fix_Give E x34 a1 (fun r35 w36 =>
 NC a0 fun p37 =>
 ∃ x38 : Int, w36.cell? (p37.add 70) = some (.int .u64 x38) ∧
 NC a0 fun p39 =>
 stCells (p39.add 70) 0 [.int .u64 (u64 (x38 - (u64 (x24))))] w36 fun w40 =>
 NC a0 fun p41 =>
 ∃ x42 : (Option Nat), w40.cell? (p41.add 4) = some (.map x42) ∧
 MDEL .i64 a1 x42 w40 fun w43 =>
 K 0 w43
 ) w32
 ) w28
 ) w22.drew
 ) w8
 )
 ) w
 )

def F.num_Quot (E : Env) (a0 : Int) (a1 : Int) (K : Int → World → Prop) (w : World) : Prop :=
 (0 : Int) ≤ 32 ∧
 LET (IntKind.wrap .u32 (Int.fdiv (u64 ((u64 (a0)) * (u64 (a1)))) (2 ^ (min (Int.toNat 32) (IntKind.bits .u64)))) : Int) fun t1 =>
 K t1 w

def F.span_Span_Index (E : Env) (a0 : (Option Addr)) (a1 : Int) (K : Int → Int → World → Prop) (w : World) : Prop :=
 JOIN (Bool × Unit) (fun J1 =>
 NC a0 fun p4 =>
 ∃ x5 : Int, w.drew.cell? p4 = some (.int .u64 x5) ∧
 CND (decide ((a1 : Int) < x5)) (
 J1 (true, ()) w.drew
 ) (
 NC a0 fun p6 =>
 ∃ x7 : Int, w.drew.cell? p6 = some (.int .u64 x7) ∧
 NC a0 fun p8 =>
 ∃ x9 : Int, w.drew.cell? (p8.add 6) = some (.int .i64 x9) ∧
 NC a0 fun p10 =>
 ∃ x11 : Int, w.drew.cell? (p10.add 5) = some (.int .i64 x11) ∧
 J1 (decide (((u64 (a1 - x7)) : Int) ≥ (u64 ((u64 (x9)) * (u64 (x11))))), ()) w.drew
 )
 ) fun s2 _ w3 =>
 CND (s2.1) (
 K 0 10 w3
 ) (
 NC a0 fun p12 =>
 ∃ x13 : Int, w3.cell? p12 = some (.int .u64 x13) ∧
 NC a0 fun p14 =>
 ∃ x15 : Int, w3.cell? (p14.add 10) = some (.int .u32 x15) ∧
 CND (decide ((x15 : Int) > 0)) (
 NC a0 fun p16 =>
 ∃ x17 : Int, w3.cell? (p16.add 10) = some (.int .u32 x17) ∧
 F.num_Quot E (IntKind.wrap .u32 (u64 (a1 - x13))) x17 (fun r18 w19 =>
 K (i64 (r18)) 0 w19
 ) w3
 ) (
 NC a0 fun p20 =>
 ∃ x21 : Int, w3.cell? (p20.add 5) = some (.int .i64 x21) ∧
 (u64 (x21)) ≠ (0 : Int) ∧
 LET (i64 (u64 (Int.tdiv (u64 (a1 - x13)) (u64 (x21)))) : Int) fun t22 =>
 K t22 0 w3
 )
 )

def F.stack_Stacks_give (E : Env) (a0 : (Option Addr)) (a1 : Int) (a2 : Int) (K : World → Prop) (w : World) : Prop :=
 NC a0 fun p1 =>
 ∃ x2 : (Option Addr), w.cell? p1 = some (.pointer x2) ∧
 F.mheap_Heap_Of E x2 a2 (fun r3 w4 =>
 NC a0 fun p5 =>
 ((0 : Int) ≤ a1 ∧ (a1 : Int) < (4 : Nat)) ∧
 ∃ x6 : (Option Nat), w4.cell? ((p5.add 257).add (Int.toNat a1 * 1)) = some (.map x6) ∧
 LKP .i64 r3 x6 w4 (.pointer none) fun v7 ok8 es9 =>
 ∃ x10 : (Option Addr), v7 = .pointer x10 ∧
 CND (x10.isNone) (
 K  w4
 ) (
 F.span_Span_Index E x10 a2 (fun r11 r12 w13 =>
 F.span_Span_Give E x10 r11 (fun r14 w15 =>
 F.span_Span_Info E x10 (fun r16 r17 r18 r19 r20 r21 r22 r23 r24 r25 w26 =>
 CND ((r23 : Int) == 0) (
 NC a0 fun p27 =>
 ((0 : Int) ≤ a1 ∧ (a1 : Int) < (4 : Nat)) ∧
 ∃ x28 : (Option Nat), w26.cell? ((p27.add 257).add (Int.toNat a1 * 1)) = some (.map x28) ∧
 MDEL .i64 r3 x28 w26 fun w29 =>
 NC a0 fun p30 =>
 ∃ x31 : (Option Addr), w29.cell? p30 = some (.pointer x31) ∧
 F.mheap_Heap_Free E x31 r3 (fun r32 w33 =>
 K  w33
 ) w29
 ) (
 K  w26
 )
 ) w15
 ) w13
 ) w4
 )
 ) w

def F.stack_Stacks_Free (E : Env) (a0 : (Option Addr)) (a1 : Int) (a2 : Int) (K : Int → Int → World → Prop) (w : World) : Prop :=
 F.stack_is E a1 (fun r1 w2 =>
 CND (!r1) (
 K 0 1 w2
 ) (
 NC a0 fun p3 =>
 ∃ x4 : (Option Nat), w2.cell? (p3.add 261) = some (.map x4) ∧
 LKP .u64 a2 x4 w2 (.int .u64 0) fun v5 ok6 es7 =>
 ∃ x8 : Int, v5 = .int .u64 x8 ∧
 CND (!ok6) (
 K 0 10 w2
 ) (
 NC a0 fun p9 =>
 ∃ x10 : (Option Nat), w2.cell? (p9.add 261) = some (.map x10) ∧
 MDEL .u64 a2 x10 w2 fun w11 =>
 F.stack_order E x8 (fun r12 w13 =>
 CND (decide ((r12 : Int) ≥ 4)) (
 NC a0 fun p14 =>
 ∃ x15 : (Option Addr), w13.cell? p14 = some (.pointer x15) ∧
 F.mheap_Heap_Of E x15 a2 (fun r16 w17 =>
 JOIN (Unit) (fun J18 =>
 NC a0 fun p21 =>
 ∃ x22 : (Option Addr), w17.cell? p21 = some (.pointer x22) ∧
 F.mheap_Heap_Span E x22 r16 (fun r23 r24 w25 =>
 CND ((r24 : Int) == 0) (
 F.span_Span_Give E r23 0 (fun r26 w27 =>
 J18 (()) w27
 ) w25
 ) (
 J18 (()) w25
 )
 ) w17
 ) fun s19 _ w20 =>
 NC a0 fun p28 =>
 ∃ x29 : (Option Addr), w20.cell? p28 = some (.pointer x29) ∧
 F.mheap_Heap_Free E x29 r16 (fun r30 w31 =>
 K x8 0 w31
 ) w20
 ) w13
 ) (
 NC a0 fun p32 =>
 ((0 : Int) ≤ a1 ∧ (a1 : Int) < (64 : Nat)) ∧
 ((0 : Int) ≤ r12 ∧ (r12 : Int) < (4 : Nat)) ∧
 JOIN (Unit) (fun J33 =>
 ∃ x36 : SlV, w13.cell? (((p32.add 1).add (Int.toNat a1 * 4)).add (Int.toNat r12 * 1)) = some (.slice x36.base x36.len x36.cap) ∧
 CND (decide (((u64 ((u64 (((x36.len : Nat) : Int))) * x8)) : Int) ≥ 32768)) (
 LOOP (Unit) (()) w13 fun s37 _ w38 next39 =>
 ∃ x40 : SlV, w38.cell? (((p32.add 1).add (Int.toNat a1 * 4)).add (Int.toNat r12 * 1)) = some (.slice x40.base x40.len x40.cap) ∧
 CND (decide (((u64 ((u64 (((x40.len : Nat) : Int))) * x8)) : Int) > 16384)) (
 F.stack_row_pop E (some (((p32.add 1).add (Int.toNat a1 * 4)).add (Int.toNat r12 * 1))) (fun r41 w42 =>
 F.stack_Stacks_give E a0 r12 r41 (fun  w43 =>
 next39 (()) w43
 ) w42
 ) w38
 ) (
 J33 (()) w38
 )
 ) (
 J33 (()) w13
 )
 ) fun s34 _ w35 =>
 ∃ x44 : SlV, w35.cell? (((p32.add 1).add (Int.toNat a1 * 4)).add (Int.toNat r12 * 1)) = some (.slice x44.base x44.len x44.cap) ∧
 AL (.cells ⟨[.int .u64 a2]⟩ E.t_uint64) w35 fun b45 w46 =>
 APP E.t_uint64 1 8 #[.int .u64 0] x44 ⟨(some (Addr.mk b45 0 none)), 1, 1⟩ w46 fun s47 w48 =>
 stCells (((p32.add 1).add (Int.toNat a1 * 4)).add (Int.toNat r12 * 1)) 0 [.slice s47.base s47.len s47.cap] w48 fun w49 =>
 K x8 0 w49
 )
 ) w11
 )
 )
 ) w

def F.stack_Stacks_Cached (E : Env) (a0 : (Option Addr)) (a1 : Int) (K : SlV → World → Prop) (w : World) : Prop :=
 F.stack_is E a1 (fun r1 w2 =>
 CND (r1) (
 NC a0 fun p3 =>
 ((0 : Int) ≤ a1 ∧ (a1 : Int) < (64 : Nat)) ∧
 ∃ c4 : SlV, w2.cell? (((p3.add 1).add (Int.toNat a1 * 4)).add 0) = some (.slice c4.base c4.len c4.cap) ∧
 ∃ c5 : SlV, w2.cell? (((p3.add 1).add (Int.toNat a1 * 4)).add 1) = some (.slice c5.base c5.len c5.cap) ∧
 ∃ c6 : SlV, w2.cell? (((p3.add 1).add (Int.toNat a1 * 4)).add 2) = some (.slice c6.base c6.len c6.cap) ∧
 ∃ c7 : SlV, w2.cell? (((p3.add 1).add (Int.toNat a1 * 4)).add 3) = some (.slice c7.base c7.len c7.cap) ∧
 LOOP (SlV × Int × Unit) (⟨none, 0, 0⟩, 0, ()) w2 fun s8 _ w9 next10 =>
 CND (decide ((s8.2.1 : Int) < 4)) (
 ((0 : Int) ≤ s8.2.1 ∧ (s8.2.1 : Int) < (4 : Nat)) ∧
 LET (List.getD [c4, c5, c6, c7] (Int.toNat s8.2.1) ⟨none, 0, 0⟩ : SlV) fun s11 =>
 APP E.t_uint64 1 8 #[.int .u64 0] s8.1 s11 w9 fun s12 w13 =>
 next10 (s12, i64 (s8.2.1 + 1), ()) w13
 ) (
 K s8.1 w9
 )
 ) (
 K ⟨none, 0, 0⟩ w2
 )
 ) w

def F.mallowlaw21_awake (E : Env)  (K : Bool → World → Prop) (w : World) : Prop :=
 F.mallowlaw21_fresh E ⟨none, 0, 0⟩ ⟨none, 0, 0⟩ ⟨none, 0, 0⟩ (fun r1 w2 =>
 CND (r1.isNone) (
 K false w2
 ) (
 F.stack_New E r1 (fun r3 w4 =>
 CND (r3.isNone) (
 K false w4
 ) (
 F.stack_Stacks_Alloc E r3 0 2048 (fun r5 r6 w7 =>
 F.stack_Stacks_Alloc E r3 0 32768 (fun r8 r9 w10 =>
 F.stack_Stacks_Free E r3 0 5 (fun r11 r12 w13 =>
 CND ((r5 : Int) == 4208640) (
 CND ((r6 : Int) == 0) (
 CND ((r8 : Int) == 4227072) (
 CND ((r9 : Int) == 0) (
 CND ((r12 : Int) == 10) (
 F.stack_Stacks_Cached E r3 0 (fun r14 w15 =>
 CND ((((r14.len : Nat) : Int) : Int) == 7) (
 F.stack_Stacks_Inuse E r3 (fun r16 w17 =>
 K ((r16 : Int) == 65536) w17
 ) w15
 ) (
 K false w15
 )
 ) w13
 ) (
 K false w13
 )
 ) (
 K false w13
 )
 ) (
 K false w13
 )
 ) (
 K false w13
 )
 ) (
 K false w13
 )
 ) w10
 ) w7
 ) w4
 )
 ) w2
 )
 ) w

def F.mallowlaw21_StacksLast (E : Env) (a0 : Int) (a1 : Int) (K : Bool → World → Prop) (w : World) : Prop :=
 JOIN (Bool × Unit) (fun J1 =>
 CND (decide ((a0 : Int) < 0)) (
 J1 (true, ()) w
 ) (
 CND (decide ((a0 : Int) > 3)) (
 J1 (true, ()) w
 ) (
 CND (decide ((a1 : Int) < 1)) (
 J1 (true, ()) w
 ) (
 (0 : Int) ≤ a0 ∧
 J1 (decide ((a1 : Int) > (Int.fdiv 8 (2 ^ (min (Int.toNat a0) (IntKind.bits .i64))))), ()) w
 )
 )
 )
 ) fun s2 _ w3 =>
 CND (s2.1) (
 K true w3
 ) (
 F.mallowlaw21_fresh E ⟨none, 0, 0⟩ ⟨none, 0, 0⟩ ⟨none, 0, 0⟩ (fun r4 w5 =>
 CND (r4.isNone) (
 K false w5
 ) (
 F.stack_New E r4 (fun r6 w7 =>
 CND (r6.isNone) (
 K false w7
 ) (
 (0 : Int) ≤ a0 ∧
 LET (u64 (2048 * 2 ^ (min (Int.toNat a0) (IntKind.bits .u64))) : Int) fun bytes_8 =>
 LOOP (SlV × Int × Unit) (⟨none, 0, 0⟩, 0, ()) w7 fun s9 _ w10 next11 =>
 CND (decide ((s9.2.1 : Int) < a1)) (
 F.stack_Stacks_Alloc E r6 7 bytes_8 (fun r12 r13 w14 =>
 CND ((r13 : Int) != 0) (
 K false w14
 ) (
 AL (.cells ⟨[.int .u64 r12]⟩ E.t_uint64) w14 fun b15 w16 =>
 APP E.t_uint64 1 8 #[.int .u64 0] s9.1 ⟨(some (Addr.mk b15 0 none)), 1, 1⟩ w16 fun s17 w18 =>
 next11 (s17, i64 (s9.2.1 + 1), ()) w18
 )
 ) w10
 ) (
 F.stack_Stacks_Alloc E r6 8 bytes_8 (fun r19 r20 w21 =>
 CND ((r20 : Int) != 0) (
 K false w21
 ) (
 LOOP (Int × Unit) (0, ()) w21 fun s22 _ w23 next24 =>
 CND (decide ((s22.1 : Int) < a1)) (
 NC s9.1.base fun p25 =>
 ((0 : Int) ≤ s22.1 ∧ (s22.1 : Int) < (s9.1.len : Nat)) ∧
 ∃ x26 : Int, w23.cell? (p25.add (Int.toNat s22.1 * 1)) = some (.int .u64 x26) ∧
 F.stack_Stacks_Free E r6 7 x26 (fun r27 r28 w29 =>
 JOIN (Bool × Unit) (fun J30 =>
 CND ((r27 : Int) != bytes_8) (
 J30 (true, ()) w29
 ) (
 CND ((r28 : Int) != 0) (
 J30 (true, ()) w29
 ) (
 NC s9.1.base fun p33 =>
 ((0 : Int) ≤ s22.1 ∧ (s22.1 : Int) < (s9.1.len : Nat)) ∧
 ∃ x34 : Int, w29.cell? (p33.add (Int.toNat s22.1 * 1)) = some (.int .u64 x34) ∧
 J30 ((x34 : Int) == r19, ()) w29
 )
 )
 ) fun s31 _ w32 =>
 CND (s31.1) (
 K false w32
 ) (
 next24 (i64 (s22.1 + 1), ()) w32
 )
 ) w23
 ) (
 LOOP (Int × Unit) (i64 (a1 - 1), ()) w23 fun s35 _ w36 next37 =>
 CND (decide ((s35.1 : Int) ≥ 0)) (
 F.stack_Stacks_Alloc E r6 7 bytes_8 (fun r38 r39 w40 =>
 JOIN (Bool × Unit) (fun J41 =>
 NC s9.1.base fun p44 =>
 ((0 : Int) ≤ s35.1 ∧ (s35.1 : Int) < (s9.1.len : Nat)) ∧
 ∃ x45 : Int, w40.cell? (p44.add (Int.toNat s35.1 * 1)) = some (.int .u64 x45) ∧
 CND ((r38 : Int) != x45) (
 J41 (true, ()) w40
 ) (
 J41 ((r39 : Int) != 0, ()) w40
 )
 ) fun s42 _ w43 =>
 CND (s42.1) (
 K false w43
 ) (
 next37 (i64 (s35.1 - 1), ()) w43
 )
 ) w36
 ) (
 F.mallowlaw21_awake E  (fun r46 w47 =>
 K r46 w47
 ) w36
 )
 )
 )
 ) w10
 )
 )
 ) w5
 )
 ) w3
 )

def F.cmp_isNaN_uint64_ (E : Env) (a0 : Int) (K : Bool → World → Prop) (w : World) : Prop :=
 K ((a0 : Int) != a0) w

def F.cmp_Compare_uint64_ (E : Env) (a0 : Int) (a1 : Int) (K : Int → World → Prop) (w : World) : Prop :=
 F.cmp_isNaN_uint64_ E a0 (fun r1 w2 =>
 F.cmp_isNaN_uint64_ E a1 (fun r3 w4 =>
 CND (r1) (
 CND (r3) (
 K 0 w4
 ) (
 K (-1) w4
 )
 ) (
 CND (r3) (
 K 1 w4
 ) (
 CND (decide ((a0 : Int) < a1)) (
 K (-1) w4
 ) (
 CND (decide ((a0 : Int) > a1)) (
 K 1 w4
 ) (
 K 0 w4
 )
 )
 )
 )
 ) w2
 ) w

def F.mheap_Heap_Spans_1 (E : Env) (a0 : Int) (a1 : Int) (a2 : (Option Addr)) (K : Int → World → Prop) (w : World) : Prop :=
 NC a2 fun p1 =>
 ∃ x2 : (Option Addr), w.drew.cell? p1 = some (.pointer x2) ∧
 NC x2 fun p3 =>
 ∃ x4 : (Option Nat), w.drew.cell? (p3.add 4) = some (.map x4) ∧
 LKP .i64 a0 x4 w.drew (.pointer none) fun v5 ok6 es7 =>
 ∃ x8 : (Option Addr), v5 = .pointer x8 ∧
 NC a2 fun p9 =>
 ∃ x10 : (Option Addr), w.drew.cell? p9 = some (.pointer x10) ∧
 NC x10 fun p11 =>
 ∃ x12 : (Option Nat), w.drew.cell? (p11.add 4) = some (.map x12) ∧
 LKP .i64 a1 x12 w.drew (.pointer none) fun v13 ok14 es15 =>
 ∃ x16 : (Option Addr), v13 = .pointer x16 ∧
 F.span_Span_Info E x8 (fun r17 r18 r19 r20 r21 r22 r23 r24 r25 r26 w27 =>
 Keep.obj x12 es15 w27 ∧
 w27.cell? (p11.add 4) = some (.map x12) ∧
 w27.cell? p9 = some (.pointer x10) ∧
 w27.cell? (p3.add 4) = some (.map x4) ∧
 w27.cell? p1 = some (.pointer x2) ∧
 F.span_Span_Info E x16 (fun r28 r29 r30 r31 r32 r33 r34 r35 r36 r37 w38 =>
 w38.cell? (p11.add 4) = some (.map x12) ∧
 w38.cell? p9 = some (.pointer x10) ∧
 w38.cell? (p3.add 4) = some (.map x4) ∧
 w38.cell? p1 = some (.pointer x2) ∧
 F.cmp_Compare_uint64_ E r17 r28 (fun r39 w40 =>
 w40.cell? (p11.add 4) = some (.map x12) ∧
 w40.cell? p9 = some (.pointer x10) ∧
 w40.cell? (p3.add 4) = some (.map x4) ∧
 w40.cell? p1 = some (.pointer x2) ∧
 K r39 w40
 ) w38
 ) w27
 ) w.drew

def F.arena_Map_leaf (E : Env) (a0 : (Option Addr)) (a1 : Int) (K : (Option Addr) → World → Prop) (w : World) : Prop :=
 NC a0 fun p1 =>
 ∃ x2 : (Option Nat), w.cell? (p1.add 3) = some (.map x2) ∧
 LKP .u64 a1 x2 w (.pointer none) fun v3 ok4 es5 =>
 ∃ x6 : (Option Addr), v3 = .pointer x6 ∧
 CND (x6.isNone) (
 F.arena_Map_whole E a0 a1 (fun r7 w8 =>
 F.arena_Map_cut E a0 a1 (u64 (a1 + 1)) (fun  w9 =>
 AL (.cells (Array.replicate 512 (.int .i64 0)) E.t__512_int) w9 fun b10 w11 =>
 LOOP (Int × Unit) (0, ()) w11 fun s12 _ w13 next14 =>
 CND (decide ((s12.1 : Int) < 512)) (
 ((0 : Int) ≤ s12.1 ∧ (s12.1 : Int) < (512 : Nat)) ∧
 stCells ((Addr.mk b10 0 none).add (Int.toNat s12.1 * 1)) 0 [.int .i64 r7] w13 fun w15 =>
 next14 (i64 (s12.1 + 1), ()) w15
 ) (
 NC a0 fun p16 =>
 ∃ x17 : (Option Nat), w13.cell? (p16.add 3) = some (.map x17) ∧
 MUPD .u64 a1 (.pointer (some (Addr.mk b10 0 none))) x17 w13 fun w18 =>
 K (some (Addr.mk b10 0 none)) w18
 )
 ) w8
 ) w
 ) (
 K x6 w
 )

def F.arena_Map_Set_1 (E : Env) (a0 : Int) (a1 : Int) (a2 : (Option Addr)) (a3 : (Option Addr)) (K : World → Prop) (w : World) : Prop :=
 LOOP (Int × Unit) (a0, ()) w fun s1 _ w2 next3 =>
 CND (decide ((s1.1 : Int) < a1)) (
 NC a3 fun p4 =>
 ∃ x5 : (Option Addr), w2.drew.cell? p4 = some (.pointer x5) ∧
 512 ≠ (0 : Int) ∧
 512 ≠ (0 : Int) ∧
 NC a2 fun p6 =>
 ∃ x7 : Int, w2.drew.cell? p6 = some (.int .i64 x7) ∧
 F.arena_Map_leaf E x5 (u64 (Int.tdiv s1.1 512)) (fun r8 w9 =>
 w9.cell? p6 = some (.int .i64 x7) ∧
 NC r8 fun p10 =>
 ((0 : Int) ≤ (Int.tmod s1.1 512) ∧ ((Int.tmod s1.1 512) : Int) < (512 : Nat)) ∧
 stCells (p10.add (Int.toNat (Int.tmod s1.1 512) * 1)) 0 [.int .i64 x7] w9 fun w11 =>
 next3 (u64 (s1.1 + 1), ()) w11
 ) w2.drew
 ) (
 K  w2
 )

def F.stretch_Set_at_1 (E : Env) (a0 : Int) (a1 : (Option Addr)) (a2 : (Option Addr)) (K : Bool → World → Prop) (w : World) : Prop :=
 NC a1 fun p1 =>
 ∃ x2 : (Option Addr), w.drew.cell? p1 = some (.pointer x2) ∧
 NC x2 fun p3 =>
 ∃ x4 : SlV, w.drew.cell? p3 = some (.slice x4.base x4.len x4.cap) ∧
 NC x4.base fun p5 =>
 ((0 : Int) ≤ a0 ∧ (a0 : Int) < (x4.len : Nat)) ∧
 ∃ x6 : Int, w.drew.cell? ((p5.add (Int.toNat a0 * 2)).add 1) = some (.int .u64 x6) ∧
 NC a2 fun p7 =>
 ∃ x8 : Int, w.drew.cell? p7 = some (.int .u64 x8) ∧
 K (decide ((x6 : Int) > x8)) w.drew

end Go.Sh

