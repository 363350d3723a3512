/- Each shallow form is what the code of its function comes to: the first half. No further condition. -/
import Derived.Test.YtcmlamembchcdaaGreatDoorF
import Derived.Test.YtcmlamembchcdaaGreatDoorProg
import Derived.KernelRfl
set_option linter.all false
set_option maxRecDepth 100000
set_option maxHeartbeats 4000000
namespace Go.Sh
open Go.Proofs

theorem mixed : Tryz.prog.follows .mixedOrders = true := by kernel_rfl
noncomputable def env : Env := { call := ground Tryz.prog, t_uint64 := 22, t_bool := 4, t_api_Answers := 28, t_vmem_Mem := 96, t_map_uint64_api_Sum := 161, t_radix_Tree := 121, t_arena_Map := 127, t_fix_Fix := 134, t_pcache_Cache := 123, t_mheap_Heap := 79, t_stack_Stacks := 58, t_api_Info := 67, t_span_Span := 111, t_stretch_One := 151, t__stretch_Set := 146, t__mheap_Heap := 23, t_api_Errno := 31, t_fix_record := 148, t__fix_record := 132, t_arena_wide := 143, t__arena_Map := 74, t_int := 3, t_slices_xorshift := 171, t_vmem_fault := 116, t__1024_uint64 := 118, t__512_int := 168, f_stretch_Set_at_1 := 104, f_arena_Map_Set_1 := 78, f_mheap_Heap_Spans_1 := 39, g_math_bits_deBruijn64tab := 0 }

noncomputable def C41 : Entry := fun args w K Kp => unArgs [.one (.sl)] args.toList fun x => F.slices_Clone___uint64_uint64_ env x.1 (fun r1 w' => K (.slice r1.base r1.len r1.cap) w') w
noncomputable def body41 : Code := (Tryz.f41.body).getD .skip
def ann41 : Ann := { loops := [], joins := [] }
theorem tie41 (x : ArgsV [.one (.sl)]) (K Kp : Value → World → Prop) (w : World) : F.slices_Clone___uint64_uint64_ env x.1 (fun r1 w' => K (.slice r1.base r1.len r1.cap) w') w =
 ev Tryz.prog (tabC []) (ground Tryz.prog) ann41 body41 (finQ Tryz.prog Tryz.f41 K Kp) (initF (mkArgs [.one (.sl)] x)) w := by kernel_rfl
theorem fits41 : FitsOne Tryz.prog 41 C41 :=
 fits_of_tie (T := []) (A := ann41) (fn := Tryz.f41) (c := body41) fits_nil mixed Tryz.func41 Tryz.call41 (by kernel_rfl) (by kernel_rfl) (by kernel_rfl) tie41

noncomputable def C42 : Entry := fun args w K Kp => unArgs [.one (.sl)] args.toList fun x => F.slices_Clone___bool_bool_ env x.1 (fun r1 w' => K (.slice r1.base r1.len r1.cap) w') w
noncomputable def body42 : Code := (Tryz.f42.body).getD .skip
def ann42 : Ann := { loops := [], joins := [] }
theorem tie42 (x : ArgsV [.one (.sl)]) (K Kp : Value → World → Prop) (w : World) : F.slices_Clone___bool_bool_ env x.1 (fun r1 w' => K (.slice r1.base r1.len r1.cap) w') w =
 ev Tryz.prog (tabC []) (ground Tryz.prog) ann42 body42 (finQ Tryz.prog Tryz.f42 K Kp) (initF (mkArgs [.one (.sl)] x)) w := by kernel_rfl
theorem fits42 : FitsOne Tryz.prog 42 C42 :=
 fits_of_tie (T := []) (A := ann42) (fn := Tryz.f42) (c := body42) fits_nil mixed Tryz.func42 Tryz.call42 (by kernel_rfl) (by kernel_rfl) (by kernel_rfl) tie42

noncomputable def C19 : Entry := fun args w K Kp => unArgs [.agg [.sl, .sl, .sl]] args.toList fun x => F.vmem_New env x.1.1 x.1.2.1 x.1.2.2.1 (fun r1 w' => K (.pointer r1) w') w
noncomputable def body19 : Code := (Tryz.f19.body).getD .skip
def ann19 : Ann := { loops := [], joins := [] }
def T0.vmem_New (E : Env) (c_slices_Clone___uint64_uint64_ : ∀ (a0 : SlV) (K : SlV → World → Prop) (w : World), Prop) (c_slices_Clone___bool_bool_ : ∀ (a0 : SlV) (K : SlV → World → Prop) (w : World), Prop) (a0_0 : SlV) (a0_1 : SlV) (a0_2 : SlV) (K : (Option Addr) → World → Prop) (w : World) : Prop :=
 AL (.cells #[.slice a0_0.base a0_0.len a0_0.cap, .slice a0_1.base a0_1.len a0_1.cap, .slice a0_2.base a0_2.len a0_2.cap] E.t_api_Answers) w fun b1 w2 =>
 ∃ x3 : SlV, w2.drew.cell? (Addr.mk b1 0 none) = some (.slice x3.base x3.len x3.cap) ∧
 ∃ x4 : SlV, w2.drew.cell? ((Addr.mk b1 0 none).add 1) = some (.slice x4.base x4.len x4.cap) ∧
 ∃ x5 : SlV, w2.drew.cell? ((Addr.mk b1 0 none).add 2) = some (.slice x5.base x5.len x5.cap) ∧
 (
 c_slices_Clone___uint64_uint64_ x3 (fun r6 w7 =>
 w7.cell? ((Addr.mk b1 0 none).add 2) = some (.slice x5.base x5.len x5.cap) ∧
 w7.cell? ((Addr.mk b1 0 none).add 1) = some (.slice x4.base x4.len x4.cap) ∧
 (
 c_slices_Clone___bool_bool_ x4 (fun r8 w9 =>
 w9.cell? ((Addr.mk b1 0 none).add 2) = some (.slice x5.base x5.len x5.cap) ∧
 (
 c_slices_Clone___uint64_uint64_ x5 (fun r10 w11 =>
 (
 AL (.map #[] 0) w11 fun b12 w13 =>
 AL (.map #[] 0) w13 fun b14 w15 =>
 AL (.cells #[.slice r6.base r6.len r6.cap, .slice r8.base r8.len r8.cap, .slice r10.base r10.len r10.cap, .slice none 0 0, .int .u64 0, .slice none 0 0, .int .u64 0, .slice none 0 0, .int .u64 0, .map (some b12), .map (some b14)] E.t_vmem_Mem) w15 fun b16 w17 =>
 K (some (Addr.mk b16 0 none)) w17

 ) ∧ (
 AL (.map #[] 0) w11 fun b18 w19 =>
 AL (.map #[] 0) w19 fun b20 w21 =>
 AL (.cells #[.slice r6.base r6.len r6.cap, .slice r8.base r8.len r8.cap, .slice r10.base r10.len r10.cap, .slice none 0 0, .int .u64 0, .slice none 0 0, .int .u64 0, .slice none 0 0, .int .u64 0, .map (some b20), .map (some b18)] E.t_vmem_Mem) w21 fun b22 w23 =>
 K (some (Addr.mk b22 0 none)) w23
 )
 ) w9

 ) ∧ (
 AL (.map #[] 0) w9 fun b24 w25 =>
 w25.cell? ((Addr.mk b1 0 none).add 2) = some (.slice x5.base x5.len x5.cap) ∧
 (
 c_slices_Clone___uint64_uint64_ x5 (fun r26 w27 =>
 AL (.map #[] 0) w27 fun b28 w29 =>
 AL (.cells #[.slice r6.base r6.len r6.cap, .slice r8.base r8.len r8.cap, .slice r26.base r26.len r26.cap, .slice none 0 0, .int .u64 0, .slice none 0 0, .int .u64 0, .slice none 0 0, .int .u64 0, .map (some b24), .map (some b28)] E.t_vmem_Mem) w29 fun b30 w31 =>
 K (some (Addr.mk b30 0 none)) w31
 ) w25

 ) ∧ (
 AL (.map #[] 0) w25 fun b32 w33 =>
 w33.cell? ((Addr.mk b1 0 none).add 2) = some (.slice x5.base x5.len x5.cap) ∧
 c_slices_Clone___uint64_uint64_ x5 (fun r34 w35 =>
 AL (.cells #[.slice r6.base r6.len r6.cap, .slice r8.base r8.len r8.cap, .slice r34.base r34.len r34.cap, .slice none 0 0, .int .u64 0, .slice none 0 0, .int .u64 0, .slice none 0 0, .int .u64 0, .map (some b24), .map (some b32)] E.t_vmem_Mem) w35 fun b36 w37 =>
 K (some (Addr.mk b36 0 none)) w37
 ) w33
 )

 ) ∧ (
 AL (.map #[] 0) w9 fun b38 w39 =>
 w39.cell? ((Addr.mk b1 0 none).add 2) = some (.slice x5.base x5.len x5.cap) ∧
 (
 c_slices_Clone___uint64_uint64_ x5 (fun r40 w41 =>
 AL (.map #[] 0) w41 fun b42 w43 =>
 AL (.cells #[.slice r6.base r6.len r6.cap, .slice r8.base r8.len r8.cap, .slice r40.base r40.len r40.cap, .slice none 0 0, .int .u64 0, .slice none 0 0, .int .u64 0, .slice none 0 0, .int .u64 0, .map (some b42), .map (some b38)] E.t_vmem_Mem) w43 fun b44 w45 =>
 K (some (Addr.mk b44 0 none)) w45
 ) w39

 ) ∧ (
 AL (.map #[] 0) w39 fun b46 w47 =>
 w47.cell? ((Addr.mk b1 0 none).add 2) = some (.slice x5.base x5.len x5.cap) ∧
 c_slices_Clone___uint64_uint64_ x5 (fun r48 w49 =>
 AL (.cells #[.slice r6.base r6.len r6.cap, .slice r8.base r8.len r8.cap, .slice r48.base r48.len r48.cap, .slice none 0 0, .int .u64 0, .slice none 0 0, .int .u64 0, .slice none 0 0, .int .u64 0, .map (some b46), .map (some b38)] E.t_vmem_Mem) w49 fun b50 w51 =>
 K (some (Addr.mk b50 0 none)) w51
 ) w47
 )
 )
 ) w7

 ) ∧ (
 AL (.map #[] 0) w7 fun b52 w53 =>
 w53.cell? ((Addr.mk b1 0 none).add 2) = some (.slice x5.base x5.len x5.cap) ∧
 w53.cell? ((Addr.mk b1 0 none).add 1) = some (.slice x4.base x4.len x4.cap) ∧
 (
 c_slices_Clone___bool_bool_ x4 (fun r54 w55 =>
 w55.cell? ((Addr.mk b1 0 none).add 2) = some (.slice x5.base x5.len x5.cap) ∧
 (
 c_slices_Clone___uint64_uint64_ x5 (fun r56 w57 =>
 AL (.map #[] 0) w57 fun b58 w59 =>
 AL (.cells #[.slice r6.base r6.len r6.cap, .slice r54.base r54.len r54.cap, .slice r56.base r56.len r56.cap, .slice none 0 0, .int .u64 0, .slice none 0 0, .int .u64 0, .slice none 0 0, .int .u64 0, .map (some b52), .map (some b58)] E.t_vmem_Mem) w59 fun b60 w61 =>
 K (some (Addr.mk b60 0 none)) w61
 ) w55

 ) ∧ (
 AL (.map #[] 0) w55 fun b62 w63 =>
 w63.cell? ((Addr.mk b1 0 none).add 2) = some (.slice x5.base x5.len x5.cap) ∧
 c_slices_Clone___uint64_uint64_ x5 (fun r64 w65 =>
 AL (.cells #[.slice r6.base r6.len r6.cap, .slice r54.base r54.len r54.cap, .slice r64.base r64.len r64.cap, .slice none 0 0, .int .u64 0, .slice none 0 0, .int .u64 0, .slice none 0 0, .int .u64 0, .map (some b52), .map (some b62)] E.t_vmem_Mem) w65 fun b66 w67 =>
 K (some (Addr.mk b66 0 none)) w67
 ) w63
 )
 ) w53

 ) ∧ (
 AL (.map #[] 0) w53 fun b68 w69 =>
 w69.cell? ((Addr.mk b1 0 none).add 2) = some (.slice x5.base x5.len x5.cap) ∧
 w69.cell? ((Addr.mk b1 0 none).add 1) = some (.slice x4.base x4.len x4.cap) ∧
 c_slices_Clone___bool_bool_ x4 (fun r70 w71 =>
 w71.cell? ((Addr.mk b1 0 none).add 2) = some (.slice x5.base x5.len x5.cap) ∧
 c_slices_Clone___uint64_uint64_ x5 (fun r72 w73 =>
 AL (.cells #[.slice r6.base r6.len r6.cap, .slice r70.base r70.len r70.cap, .slice r72.base r72.len r72.cap, .slice none 0 0, .int .u64 0, .slice none 0 0, .int .u64 0, .slice none 0 0, .int .u64 0, .map (some b52), .map (some b68)] E.t_vmem_Mem) w73 fun b74 w75 =>
 K (some (Addr.mk b74 0 none)) w75
 ) w71
 ) w69
 )

 ) ∧ (
 AL (.map #[] 0) w7 fun b76 w77 =>
 w77.cell? ((Addr.mk b1 0 none).add 2) = some (.slice x5.base x5.len x5.cap) ∧
 w77.cell? ((Addr.mk b1 0 none).add 1) = some (.slice x4.base x4.len x4.cap) ∧
 (
 c_slices_Clone___bool_bool_ x4 (fun r78 w79 =>
 w79.cell? ((Addr.mk b1 0 none).add 2) = some (.slice x5.base x5.len x5.cap) ∧
 (
 c_slices_Clone___uint64_uint64_ x5 (fun r80 w81 =>
 AL (.map #[] 0) w81 fun b82 w83 =>
 AL (.cells #[.slice r6.base r6.len r6.cap, .slice r78.base r78.len r78.cap, .slice r80.base r80.len r80.cap, .slice none 0 0, .int .u64 0, .slice none 0 0, .int .u64 0, .slice none 0 0, .int .u64 0, .map (some b82), .map (some b76)] E.t_vmem_Mem) w83 fun b84 w85 =>
 K (some (Addr.mk b84 0 none)) w85
 ) w79

 ) ∧ (
 AL (.map #[] 0) w79 fun b86 w87 =>
 w87.cell? ((Addr.mk b1 0 none).add 2) = some (.slice x5.base x5.len x5.cap) ∧
 c_slices_Clone___uint64_uint64_ x5 (fun r88 w89 =>
 AL (.cells #[.slice r6.base r6.len r6.cap, .slice r78.base r78.len r78.cap, .slice r88.base r88.len r88.cap, .slice none 0 0, .int .u64 0, .slice none 0 0, .int .u64 0, .slice none 0 0, .int .u64 0, .map (some b86), .map (some b76)] E.t_vmem_Mem) w89 fun b90 w91 =>
 K (some (Addr.mk b90 0 none)) w91
 ) w87
 )
 ) w77

 ) ∧ (
 AL (.map #[] 0) w77 fun b92 w93 =>
 w93.cell? ((Addr.mk b1 0 none).add 2) = some (.slice x5.base x5.len x5.cap) ∧
 w93.cell? ((Addr.mk b1 0 none).add 1) = some (.slice x4.base x4.len x4.cap) ∧
 c_slices_Clone___bool_bool_ x4 (fun r94 w95 =>
 w95.cell? ((Addr.mk b1 0 none).add 2) = some (.slice x5.base x5.len x5.cap) ∧
 c_slices_Clone___uint64_uint64_ x5 (fun r96 w97 =>
 AL (.cells #[.slice r6.base r6.len r6.cap, .slice r94.base r94.len r94.cap, .slice r96.base r96.len r96.cap, .slice none 0 0, .int .u64 0, .slice none 0 0, .int .u64 0, .slice none 0 0, .int .u64 0, .map (some b92), .map (some b76)] E.t_vmem_Mem) w97 fun b98 w99 =>
 K (some (Addr.mk b98 0 none)) w99
 ) w95
 ) w93
 )
 )
 ) w2.drew

 ) ∧ (
 AL (.map #[] 0) w2.drew fun b100 w101 =>
 w101.cell? ((Addr.mk b1 0 none).add 2) = some (.slice x5.base x5.len x5.cap) ∧
 w101.cell? ((Addr.mk b1 0 none).add 1) = some (.slice x4.base x4.len x4.cap) ∧
 w101.cell? (Addr.mk b1 0 none) = some (.slice x3.base x3.len x3.cap) ∧
 (
 c_slices_Clone___uint64_uint64_ x3 (fun r102 w103 =>
 w103.cell? ((Addr.mk b1 0 none).add 2) = some (.slice x5.base x5.len x5.cap) ∧
 w103.cell? ((Addr.mk b1 0 none).add 1) = some (.slice x4.base x4.len x4.cap) ∧
 (
 c_slices_Clone___bool_bool_ x4 (fun r104 w105 =>
 w105.cell? ((Addr.mk b1 0 none).add 2) = some (.slice x5.base x5.len x5.cap) ∧
 (
 c_slices_Clone___uint64_uint64_ x5 (fun r106 w107 =>
 AL (.map #[] 0) w107 fun b108 w109 =>
 AL (.cells #[.slice r102.base r102.len r102.cap, .slice r104.base r104.len r104.cap, .slice r106.base r106.len r106.cap, .slice none 0 0, .int .u64 0, .slice none 0 0, .int .u64 0, .slice none 0 0, .int .u64 0, .map (some b100), .map (some b108)] E.t_vmem_Mem) w109 fun b110 w111 =>
 K (some (Addr.mk b110 0 none)) w111
 ) w105

 ) ∧ (
 AL (.map #[] 0) w105 fun b112 w113 =>
 w113.cell? ((Addr.mk b1 0 none).add 2) = some (.slice x5.base x5.len x5.cap) ∧
 c_slices_Clone___uint64_uint64_ x5 (fun r114 w115 =>
 AL (.cells #[.slice r102.base r102.len r102.cap, .slice r104.base r104.len r104.cap, .slice r114.base r114.len r114.cap, .slice none 0 0, .int .u64 0, .slice none 0 0, .int .u64 0, .slice none 0 0, .int .u64 0, .map (some b100), .map (some b112)] E.t_vmem_Mem) w115 fun b116 w117 =>
 K (some (Addr.mk b116 0 none)) w117
 ) w113
 )
 ) w103

 ) ∧ (
 AL (.map #[] 0) w103 fun b118 w119 =>
 w119.cell? ((Addr.mk b1 0 none).add 2) = some (.slice x5.base x5.len x5.cap) ∧
 w119.cell? ((Addr.mk b1 0 none).add 1) = some (.slice x4.base x4.len x4.cap) ∧
 c_slices_Clone___bool_bool_ x4 (fun r120 w121 =>
 w121.cell? ((Addr.mk b1 0 none).add 2) = some (.slice x5.base x5.len x5.cap) ∧
 c_slices_Clone___uint64_uint64_ x5 (fun r122 w123 =>
 AL (.cells #[.slice r102.base r102.len r102.cap, .slice r120.base r120.len r120.cap, .slice r122.base r122.len r122.cap, .slice none 0 0, .int .u64 0, .slice none 0 0, .int .u64 0, .slice none 0 0, .int .u64 0, .map (some b100), .map (some b118)] E.t_vmem_Mem) w123 fun b124 w125 =>
 K (some (Addr.mk b124 0 none)) w125
 ) w121
 ) w119
 )
 ) w101

 ) ∧ (
 AL (.map #[] 0) w101 fun b126 w127 =>
 w127.cell? ((Addr.mk b1 0 none).add 2) = some (.slice x5.base x5.len x5.cap) ∧
 w127.cell? ((Addr.mk b1 0 none).add 1) = some (.slice x4.base x4.len x4.cap) ∧
 w127.cell? (Addr.mk b1 0 none) = some (.slice x3.base x3.len x3.cap) ∧
 c_slices_Clone___uint64_uint64_ x3 (fun r128 w129 =>
 w129.cell? ((Addr.mk b1 0 none).add 2) = some (.slice x5.base x5.len x5.cap) ∧
 w129.cell? ((Addr.mk b1 0 none).add 1) = some (.slice x4.base x4.len x4.cap) ∧
 c_slices_Clone___bool_bool_ x4 (fun r130 w131 =>
 w131.cell? ((Addr.mk b1 0 none).add 2) = some (.slice x5.base x5.len x5.cap) ∧
 c_slices_Clone___uint64_uint64_ x5 (fun r132 w133 =>
 AL (.cells #[.slice r128.base r128.len r128.cap, .slice r130.base r130.len r130.cap, .slice r132.base r132.len r132.cap, .slice none 0 0, .int .u64 0, .slice none 0 0, .int .u64 0, .slice none 0 0, .int .u64 0, .map (some b100), .map (some b126)] E.t_vmem_Mem) w133 fun b134 w135 =>
 K (some (Addr.mk b134 0 none)) w135
 ) w131
 ) w129
 ) w127
 )

 ) ∧ (
 AL (.map #[] 0) w2.drew fun b136 w137 =>
 w137.cell? ((Addr.mk b1 0 none).add 2) = some (.slice x5.base x5.len x5.cap) ∧
 w137.cell? ((Addr.mk b1 0 none).add 1) = some (.slice x4.base x4.len x4.cap) ∧
 w137.cell? (Addr.mk b1 0 none) = some (.slice x3.base x3.len x3.cap) ∧
 (
 c_slices_Clone___uint64_uint64_ x3 (fun r138 w139 =>
 w139.cell? ((Addr.mk b1 0 none).add 2) = some (.slice x5.base x5.len x5.cap) ∧
 w139.cell? ((Addr.mk b1 0 none).add 1) = some (.slice x4.base x4.len x4.cap) ∧
 (
 c_slices_Clone___bool_bool_ x4 (fun r140 w141 =>
 w141.cell? ((Addr.mk b1 0 none).add 2) = some (.slice x5.base x5.len x5.cap) ∧
 (
 c_slices_Clone___uint64_uint64_ x5 (fun r142 w143 =>
 AL (.map #[] 0) w143 fun b144 w145 =>
 AL (.cells #[.slice r138.base r138.len r138.cap, .slice r140.base r140.len r140.cap, .slice r142.base r142.len r142.cap, .slice none 0 0, .int .u64 0, .slice none 0 0, .int .u64 0, .slice none 0 0, .int .u64 0, .map (some b144), .map (some b136)] E.t_vmem_Mem) w145 fun b146 w147 =>
 K (some (Addr.mk b146 0 none)) w147
 ) w141

 ) ∧ (
 AL (.map #[] 0) w141 fun b148 w149 =>
 w149.cell? ((Addr.mk b1 0 none).add 2) = some (.slice x5.base x5.len x5.cap) ∧
 c_slices_Clone___uint64_uint64_ x5 (fun r150 w151 =>
 AL (.cells #[.slice r138.base r138.len r138.cap, .slice r140.base r140.len r140.cap, .slice r150.base r150.len r150.cap, .slice none 0 0, .int .u64 0, .slice none 0 0, .int .u64 0, .slice none 0 0, .int .u64 0, .map (some b148), .map (some b136)] E.t_vmem_Mem) w151 fun b152 w153 =>
 K (some (Addr.mk b152 0 none)) w153
 ) w149
 )
 ) w139

 ) ∧ (
 AL (.map #[] 0) w139 fun b154 w155 =>
 w155.cell? ((Addr.mk b1 0 none).add 2) = some (.slice x5.base x5.len x5.cap) ∧
 w155.cell? ((Addr.mk b1 0 none).add 1) = some (.slice x4.base x4.len x4.cap) ∧
 c_slices_Clone___bool_bool_ x4 (fun r156 w157 =>
 w157.cell? ((Addr.mk b1 0 none).add 2) = some (.slice x5.base x5.len x5.cap) ∧
 c_slices_Clone___uint64_uint64_ x5 (fun r158 w159 =>
 AL (.cells #[.slice r138.base r138.len r138.cap, .slice r156.base r156.len r156.cap, .slice r158.base r158.len r158.cap, .slice none 0 0, .int .u64 0, .slice none 0 0, .int .u64 0, .slice none 0 0, .int .u64 0, .map (some b154), .map (some b136)] E.t_vmem_Mem) w159 fun b160 w161 =>
 K (some (Addr.mk b160 0 none)) w161
 ) w157
 ) w155
 )
 ) w137

 ) ∧ (
 AL (.map #[] 0) w137 fun b162 w163 =>
 w163.cell? ((Addr.mk b1 0 none).add 2) = some (.slice x5.base x5.len x5.cap) ∧
 w163.cell? ((Addr.mk b1 0 none).add 1) = some (.slice x4.base x4.len x4.cap) ∧
 w163.cell? (Addr.mk b1 0 none) = some (.slice x3.base x3.len x3.cap) ∧
 c_slices_Clone___uint64_uint64_ x3 (fun r164 w165 =>
 w165.cell? ((Addr.mk b1 0 none).add 2) = some (.slice x5.base x5.len x5.cap) ∧
 w165.cell? ((Addr.mk b1 0 none).add 1) = some (.slice x4.base x4.len x4.cap) ∧
 c_slices_Clone___bool_bool_ x4 (fun r166 w167 =>
 w167.cell? ((Addr.mk b1 0 none).add 2) = some (.slice x5.base x5.len x5.cap) ∧
 c_slices_Clone___uint64_uint64_ x5 (fun r168 w169 =>
 AL (.cells #[.slice r164.base r164.len r164.cap, .slice r166.base r166.len r166.cap, .slice r168.base r168.len r168.cap, .slice none 0 0, .int .u64 0, .slice none 0 0, .int .u64 0, .slice none 0 0, .int .u64 0, .map (some b162), .map (some b136)] E.t_vmem_Mem) w169 fun b170 w171 =>
 K (some (Addr.mk b170 0 none)) w171
 ) w167
 ) w165
 ) w163
 )
 )

theorem tieZ19 (c_slices_Clone___uint64_uint64_ : ∀ (a0 : SlV) (K : SlV → World → Prop) (w : World), Prop) (c_slices_Clone___bool_bool_ : ∀ (a0 : SlV) (K : SlV → World → Prop) (w : World), Prop) (x : ArgsV [.agg [.sl, .sl, .sl]]) (K Kp : Value → World → Prop) (w : World) : T0.vmem_New env c_slices_Clone___uint64_uint64_ c_slices_Clone___bool_bool_ x.1.1 x.1.2.1 x.1.2.2.1 (fun r1 w' => K (.pointer r1) w') w =
 ev Tryz.prog (tabC [(41, fun args w K Kp => unArgs [.one (.sl)] args.toList fun x => c_slices_Clone___uint64_uint64_ x.1 (fun r1 w' => K (.slice r1.base r1.len r1.cap) w') w), (42, fun args w K Kp => unArgs [.one (.sl)] args.toList fun x => c_slices_Clone___bool_bool_ x.1 (fun r1 w' => K (.slice r1.base r1.len r1.cap) w') w)]) (ground Tryz.prog) ann19 body19 (finQ Tryz.prog Tryz.f19 K Kp) (initF (mkArgs [.agg [.sl, .sl, .sl]] x)) w := by kernel_rfl
theorem tie19 (x : ArgsV [.agg [.sl, .sl, .sl]]) (K Kp : Value → World → Prop) (w : World) : F.vmem_New env x.1.1 x.1.2.1 x.1.2.2.1 (fun r1 w' => K (.pointer r1) w') w =
 ev Tryz.prog (tabC [(41, C41), (42, C42)]) (ground Tryz.prog) ann19 body19 (finQ Tryz.prog Tryz.f19 K Kp) (initF (mkArgs [.agg [.sl, .sl, .sl]] x)) w := tieZ19 (F.slices_Clone___uint64_uint64_ env) (F.slices_Clone___bool_bool_ env) x K Kp w
theorem fits19 : FitsOne Tryz.prog 19 C19 :=
 fits_of_tie (T := [(41, C41), (42, C42)]) (A := ann19) (fn := Tryz.f19) (c := body19) (fits_cons fits41 (fits_cons fits42 fits_nil)) mixed Tryz.func19 Tryz.call19 (by kernel_rfl) (by kernel_rfl) (by kernel_rfl) tie19

noncomputable def C67 : Entry := fun args w K Kp => unArgs [.one (.ptr)] args.toList fun x => F.radix_Tree_changed env x.1 (fun  w' => K (.tuple ⟨[]⟩) w') w
noncomputable def body67 : Code := (Tryz.f67.body).getD .skip
def ann67 : Ann := { loops := [(2, [(5, .one (.int .i64))])], joins := [] }
theorem tie67 (x : ArgsV [.one (.ptr)]) (K Kp : Value → World → Prop) (w : World) : F.radix_Tree_changed env x.1 (fun  w' => K (.tuple ⟨[]⟩) w') w =
 ev Tryz.prog (tabC []) (ground Tryz.prog) ann67 body67 (finQ Tryz.prog Tryz.f67 K Kp) (initF (mkArgs [.one (.ptr)] x)) w := by kernel_rfl
theorem fits67 : FitsOne Tryz.prog 67 C67 :=
 fits_of_tie (T := []) (A := ann67) (fn := Tryz.f67) (c := body67) fits_nil mixed Tryz.func67 Tryz.call67 (by kernel_rfl) (by kernel_rfl) (by kernel_rfl) tie67

noncomputable def C43 : Entry := fun args w K Kp => unArgs [] args.toList fun x => F.radix_New env  (fun r1 w' => K (.pointer r1) w') w
noncomputable def body43 : Code := (Tryz.f43.body).getD .skip
def ann43 : Ann := { loops := [], joins := [] }
def T0.radix_New (E : Env) (c_radix_Tree_changed : ∀ (a0 : (Option Addr)) (K : World → Prop) (w : World), Prop) (K : (Option Addr) → World → Prop) (w : World) : Prop :=
 AL (.cells #[.slice none 0 0, .int .u64 0, .slice none 0 0, .int .u64 0, .slice none 0 0, .int .u64 0, .slice none 0 0, .int .u64 0, .slice none 0 0] E.t_radix_Tree) w fun b1 w2 =>
 c_radix_Tree_changed (some (Addr.mk b1 0 none)) (fun  w3 =>
 K (some (Addr.mk b1 0 none)) w3
 ) w2

theorem tieZ43 (c_radix_Tree_changed : ∀ (a0 : (Option Addr)) (K : World → Prop) (w : World), Prop) (x : ArgsV []) (K Kp : Value → World → Prop) (w : World) : T0.radix_New env c_radix_Tree_changed  (fun r1 w' => K (.pointer r1) w') w =
 ev Tryz.prog (tabC [(67, fun args w K Kp => unArgs [.one (.ptr)] args.toList fun x => c_radix_Tree_changed x.1 (fun  w' => K (.tuple ⟨[]⟩) w') w)]) (ground Tryz.prog) ann43 body43 (finQ Tryz.prog Tryz.f43 K Kp) (initF (mkArgs [] x)) w := by kernel_rfl
theorem tie43 (x : ArgsV []) (K Kp : Value → World → Prop) (w : World) : F.radix_New env  (fun r1 w' => K (.pointer r1) w') w =
 ev Tryz.prog (tabC [(67, C67)]) (ground Tryz.prog) ann43 body43 (finQ Tryz.prog Tryz.f43 K Kp) (initF (mkArgs [] x)) w := tieZ43 (F.radix_Tree_changed env) x K Kp w
theorem fits43 : FitsOne Tryz.prog 43 C43 :=
 fits_of_tie (T := [(67, C67)]) (A := ann43) (fn := Tryz.f43) (c := body43) (fits_cons fits67 fits_nil) mixed Tryz.func43 Tryz.call43 (by kernel_rfl) (by kernel_rfl) (by kernel_rfl) tie43

noncomputable def C44 : Entry := fun args w K Kp => unArgs [] args.toList fun x => F.arena_New env  (fun r1 w' => K (.pointer r1) w') w
noncomputable def body44 : Code := (Tryz.f44.body).getD .skip
def ann44 : Ann := { loops := [], joins := [] }
theorem tie44 (x : ArgsV []) (K Kp : Value → World → Prop) (w : World) : F.arena_New env  (fun r1 w' => K (.pointer r1) w') w =
 ev Tryz.prog (tabC []) (ground Tryz.prog) ann44 body44 (finQ Tryz.prog Tryz.f44 K Kp) (initF (mkArgs [] x)) w := by kernel_rfl
theorem fits44 : FitsOne Tryz.prog 44 C44 :=
 fits_of_tie (T := []) (A := ann44) (fn := Tryz.f44) (c := body44) fits_nil mixed Tryz.func44 Tryz.call44 (by kernel_rfl) (by kernel_rfl) (by kernel_rfl) tie44

noncomputable def C45 : Entry := fun args w K Kp => unArgs [.one (.int .i64)] args.toList fun x => F.fix_New env x.1 (fun r1 r2 w' => K (.tuple ⟨[.pointer r1, .int .i64 r2]⟩) w') w
noncomputable def body45 : Code := (Tryz.f45.body).getD .skip
def ann45 : Ann := { loops := [], joins := [(2, [(9, .one (.bool))])] }
theorem tie45 (x : ArgsV [.one (.int .i64)]) (K Kp : Value → World → Prop) (w : World) : F.fix_New env x.1 (fun r1 r2 w' => K (.tuple ⟨[.pointer r1, .int .i64 r2]⟩) w') w =
 ev Tryz.prog (tabC []) (ground Tryz.prog) ann45 body45 (finQ Tryz.prog Tryz.f45 K Kp) (initF (mkArgs [.one (.int .i64)] x)) w := by kernel_rfl
theorem fits45 : FitsOne Tryz.prog 45 C45 :=
 fits_of_tie (T := []) (A := ann45) (fn := Tryz.f45) (c := body45) fits_nil mixed Tryz.func45 Tryz.call45 (by kernel_rfl) (by kernel_rfl) (by kernel_rfl) tie45

noncomputable def C46 : Entry := fun args w K Kp => unArgs [] args.toList fun x => F.pcache_New env  (fun r1 w' => K (.pointer r1) w') w
noncomputable def body46 : Code := (Tryz.f46.body).getD .skip
def ann46 : Ann := { loops := [], joins := [] }
theorem tie46 (x : ArgsV []) (K Kp : Value → World → Prop) (w : World) : F.pcache_New env  (fun r1 w' => K (.pointer r1) w') w =
 ev Tryz.prog (tabC []) (ground Tryz.prog) ann46 body46 (finQ Tryz.prog Tryz.f46 K Kp) (initF (mkArgs [] x)) w := by kernel_rfl
theorem fits46 : FitsOne Tryz.prog 46 C46 :=
 fits_of_tie (T := []) (A := ann46) (fn := Tryz.f46) (c := body46) fits_nil mixed Tryz.func46 Tryz.call46 (by kernel_rfl) (by kernel_rfl) (by kernel_rfl) tie46

noncomputable def C20 : Entry := fun args w K Kp => unArgs [.one (.ptr)] args.toList fun x => F.mheap_New env x.1 (fun r1 w' => K (.pointer r1) w') w
noncomputable def body20 : Code := (Tryz.f20.body).getD .skip
def ann20 : Ann := { loops := [(4, [(18, .one (.int .i64))])], joins := [] }
def T0.mheap_New (E : Env) (c_radix_New : ∀ (K : (Option Addr) → World → Prop) (w : World), Prop) (c_arena_New : ∀ (K : (Option Addr) → World → Prop) (w : World), Prop) (c_fix_New : ∀ (a0 : Int) (K : (Option Addr) → Int → World → Prop) (w : World), Prop) (c_pcache_New : ∀ (K : (Option Addr) → World → Prop) (w : World), Prop) (a0 : (Option Addr)) (K : (Option Addr) → World → Prop) (w : World) : Prop :=
 c_radix_New  (fun r1 w2 =>
 c_arena_New  (fun r3 w4 =>
 AL (.map #[] 0) w4 fun b5 w6 =>
 AL (.cells #[.pointer a0, .pointer r1, .pointer r3, .pointer none, .map (some b5), .pointer none, .pointer none, .pointer none, .pointer none, .pointer none, .pointer none, .pointer none, .pointer none, .pointer none, .pointer none, .pointer none, .pointer none, .pointer none, .pointer none, .pointer none, .pointer none, .pointer none, .pointer none, .pointer none, .pointer none, .pointer none, .pointer none, .pointer none, .pointer none, .pointer none, .pointer none, .pointer none, .pointer none, .pointer none, .pointer none, .pointer none, .pointer none, .pointer none, .pointer none, .pointer none, .pointer none, .pointer none, .pointer none, .pointer none, .pointer none, .pointer none, .pointer none, .pointer none, .pointer none, .pointer none, .pointer none, .pointer none, .pointer none, .pointer none, .pointer none, .pointer none, .pointer none, .pointer none, .pointer none, .pointer none, .pointer none, .pointer none, .pointer none, .pointer none, .pointer none, .pointer none, .pointer none, .pointer none, .pointer none, .int .u64 0, .int .u64 0] E.t_mheap_Heap) w6 fun b7 w8 =>
 c_fix_New 1 (fun r9 r10 w11 =>
 stCells ((Addr.mk b7 0 none).add 3) 0 [.pointer r9] w11 fun w12 =>
 LOOP (Int × Unit) (0, ()) w12 fun s13 _ w14 next15 =>
 CND (decide ((s13.1 : Int) < 64)) (
 c_pcache_New  (fun r16 w17 =>
 ((0 : Int) ≤ s13.1 ∧ (s13.1 : Int) < (64 : Nat)) ∧
 stCells (((Addr.mk b7 0 none).add 5).add (Int.toNat s13.1 * 1)) 0 [.pointer r16] w17 fun w18 =>
 next15 (i64 (s13.1 + 1), ()) w18
 ) w14.drew
 ) (
 K (some (Addr.mk b7 0 none)) w14
 )
 ) w8
 ) w2
 ) w

theorem tieZ20 (c_radix_New : ∀ (K : (Option Addr) → World → Prop) (w : World), Prop) (c_arena_New : ∀ (K : (Option Addr) → World → Prop) (w : World), Prop) (c_fix_New : ∀ (a0 : Int) (K : (Option Addr) → Int → World → Prop) (w : World), Prop) (c_pcache_New : ∀ (K : (Option Addr) → World → Prop) (w : World), Prop) (x : ArgsV [.one (.ptr)]) (K Kp : Value → World → Prop) (w : World) : T0.mheap_New env c_radix_New c_arena_New c_fix_New c_pcache_New x.1 (fun r1 w' => K (.pointer r1) w') w =
 ev Tryz.prog (tabC [(43, fun args w K Kp => unArgs [] args.toList fun x => c_radix_New  (fun r1 w' => K (.pointer r1) w') w), (44, fun args w K Kp => unArgs [] args.toList fun x => c_arena_New  (fun r1 w' => K (.pointer r1) w') w), (45, fun args w K Kp => unArgs [.one (.int .i64)] args.toList fun x => c_fix_New x.1 (fun r1 r2 w' => K (.tuple ⟨[.pointer r1, .int .i64 r2]⟩) w') w), (46, fun args w K Kp => unArgs [] args.toList fun x => c_pcache_New  (fun r1 w' => K (.pointer r1) w') w)]) (ground Tryz.prog) ann20 body20 (finQ Tryz.prog Tryz.f20 K Kp) (initF (mkArgs [.one (.ptr)] x)) w := by kernel_rfl
theorem tie20 (x : ArgsV [.one (.ptr)]) (K Kp : Value → World → Prop) (w : World) : F.mheap_New env x.1 (fun r1 w' => K (.pointer r1) w') w =
 ev Tryz.prog (tabC [(43, C43), (44, C44), (45, C45), (46, C46)]) (ground Tryz.prog) ann20 body20 (finQ Tryz.prog Tryz.f20 K Kp) (initF (mkArgs [.one (.ptr)] x)) w := tieZ20 (F.radix_New env) (F.arena_New env) (F.fix_New env) (F.pcache_New env) x K Kp w
theorem fits20 : FitsOne Tryz.prog 20 C20 :=
 fits_of_tie (T := [(43, C43), (44, C44), (45, C45), (46, C46)]) (A := ann20) (fn := Tryz.f20) (c := body20) (fits_cons fits43 (fits_cons fits44 (fits_cons fits45 (fits_cons fits46 fits_nil)))) mixed Tryz.func20 Tryz.call20 (by kernel_rfl) (by kernel_rfl) (by kernel_rfl) tie20

noncomputable def C7 : Entry := fun args w K Kp => unArgs [.agg [.sl, .sl, .sl]] args.toList fun x => F.mallowlaw21_fresh env x.1.1 x.1.2.1 x.1.2.2.1 (fun r1 w' => K (.pointer r1) w') w
noncomputable def body7 : Code := (Tryz.f7.body).getD .skip
def ann7 : Ann := { loops := [], joins := [(2, [(3, .one (.ptr))])] }
def T0.mallowlaw21_fresh (E : Env) (c_vmem_New : ∀ (a0_0 : SlV) (a0_1 : SlV) (a0_2 : SlV) (K : (Option Addr) → World → Prop) (w : World), Prop) (c_mheap_New : ∀ (a0 : (Option Addr)) (K : (Option Addr) → World → Prop) (w : World), Prop) (a0_0 : SlV) (a0_1 : SlV) (a0_2 : SlV) (K : (Option Addr) → World → Prop) (w : World) : Prop :=
 AL (.cells #[.slice a0_0.base a0_0.len a0_0.cap, .slice a0_1.base a0_1.len a0_1.cap, .slice a0_2.base a0_2.len a0_2.cap] E.t_api_Answers) w fun b1 w2 =>
 JOIN ((Option Addr) × Unit) (fun J3 =>
 ∃ x6 : SlV, w2.drew.cell? (Addr.mk b1 0 none) = some (.slice x6.base x6.len x6.cap) ∧
 ∃ x7 : SlV, w2.drew.cell? ((Addr.mk b1 0 none).add 1) = some (.slice x7.base x7.len x7.cap) ∧
 ∃ x8 : SlV, w2.drew.cell? ((Addr.mk b1 0 none).add 2) = some (.slice x8.base x8.len x8.cap) ∧
 (
 AL (.cells ⟨[]⟩ E.t_uint64) w2.drew fun b9 w10 =>
 w10.cell? ((Addr.mk b1 0 none).add 2) = some (.slice x8.base x8.len x8.cap) ∧
 w10.cell? ((Addr.mk b1 0 none).add 1) = some (.slice x7.base x7.len x7.cap) ∧
 w10.cell? (Addr.mk b1 0 none) = some (.slice x6.base x6.len x6.cap) ∧
 (
 APP E.t_uint64 1 8 #[.int .u64 0] ⟨(some (Addr.mk b9 0 none)), 0, 0⟩ x6 w10 fun s11 w12 =>
 w12.cell? ((Addr.mk b1 0 none).add 2) = some (.slice x8.base x8.len x8.cap) ∧
 w12.cell? ((Addr.mk b1 0 none).add 1) = some (.slice x7.base x7.len x7.cap) ∧
 (
 AL (.cells ⟨[]⟩ E.t_bool) w12 fun b13 w14 =>
 w14.cell? ((Addr.mk b1 0 none).add 2) = some (.slice x8.base x8.len x8.cap) ∧
 w14.cell? ((Addr.mk b1 0 none).add 1) = some (.slice x7.base x7.len x7.cap) ∧
 (
 APP E.t_bool 1 1 #[.bool false] ⟨(some (Addr.mk b13 0 none)), 0, 0⟩ x7 w14 fun s15 w16 =>
 w16.cell? ((Addr.mk b1 0 none).add 2) = some (.slice x8.base x8.len x8.cap) ∧
 AL (.cells ⟨[]⟩ E.t_uint64) w16 fun b17 w18 =>
 w18.cell? ((Addr.mk b1 0 none).add 2) = some (.slice x8.base x8.len x8.cap) ∧
 APP E.t_uint64 1 8 #[.int .u64 0] ⟨(some (Addr.mk b17 0 none)), 0, 0⟩ x8 w18 fun s19 w20 =>
 c_vmem_New s11 s15 s19 (fun r21 w22 =>
 J3 (r21, ()) w22
 ) w20

 ) ∧ (
 AL (.cells ⟨[]⟩ E.t_uint64) w14 fun b23 w24 =>
 w24.cell? ((Addr.mk b1 0 none).add 2) = some (.slice x8.base x8.len x8.cap) ∧
 w24.cell? ((Addr.mk b1 0 none).add 1) = some (.slice x7.base x7.len x7.cap) ∧
 APP E.t_bool 1 1 #[.bool false] ⟨(some (Addr.mk b13 0 none)), 0, 0⟩ x7 w24 fun s25 w26 =>
 w26.cell? ((Addr.mk b1 0 none).add 2) = some (.slice x8.base x8.len x8.cap) ∧
 APP E.t_uint64 1 8 #[.int .u64 0] ⟨(some (Addr.mk b23 0 none)), 0, 0⟩ x8 w26 fun s27 w28 =>
 c_vmem_New s11 s25 s27 (fun r29 w30 =>
 J3 (r29, ()) w30
 ) w28
 )

 ) ∧ (
 AL (.cells ⟨[]⟩ E.t_uint64) w12 fun b31 w32 =>
 w32.cell? ((Addr.mk b1 0 none).add 2) = some (.slice x8.base x8.len x8.cap) ∧
 w32.cell? ((Addr.mk b1 0 none).add 1) = some (.slice x7.base x7.len x7.cap) ∧
 AL (.cells ⟨[]⟩ E.t_bool) w32 fun b33 w34 =>
 w34.cell? ((Addr.mk b1 0 none).add 2) = some (.slice x8.base x8.len x8.cap) ∧
 w34.cell? ((Addr.mk b1 0 none).add 1) = some (.slice x7.base x7.len x7.cap) ∧
 APP E.t_bool 1 1 #[.bool false] ⟨(some (Addr.mk b33 0 none)), 0, 0⟩ x7 w34 fun s35 w36 =>
 w36.cell? ((Addr.mk b1 0 none).add 2) = some (.slice x8.base x8.len x8.cap) ∧
 APP E.t_uint64 1 8 #[.int .u64 0] ⟨(some (Addr.mk b31 0 none)), 0, 0⟩ x8 w36 fun s37 w38 =>
 c_vmem_New s11 s35 s37 (fun r39 w40 =>
 J3 (r39, ()) w40
 ) w38
 )

 ) ∧ (
 AL (.cells ⟨[]⟩ E.t_bool) w10 fun b41 w42 =>
 w42.cell? ((Addr.mk b1 0 none).add 2) = some (.slice x8.base x8.len x8.cap) ∧
 w42.cell? ((Addr.mk b1 0 none).add 1) = some (.slice x7.base x7.len x7.cap) ∧
 w42.cell? (Addr.mk b1 0 none) = some (.slice x6.base x6.len x6.cap) ∧
 (
 APP E.t_uint64 1 8 #[.int .u64 0] ⟨(some (Addr.mk b9 0 none)), 0, 0⟩ x6 w42 fun s43 w44 =>
 w44.cell? ((Addr.mk b1 0 none).add 2) = some (.slice x8.base x8.len x8.cap) ∧
 w44.cell? ((Addr.mk b1 0 none).add 1) = some (.slice x7.base x7.len x7.cap) ∧
 (
 APP E.t_bool 1 1 #[.bool false] ⟨(some (Addr.mk b41 0 none)), 0, 0⟩ x7 w44 fun s45 w46 =>
 w46.cell? ((Addr.mk b1 0 none).add 2) = some (.slice x8.base x8.len x8.cap) ∧
 AL (.cells ⟨[]⟩ E.t_uint64) w46 fun b47 w48 =>
 w48.cell? ((Addr.mk b1 0 none).add 2) = some (.slice x8.base x8.len x8.cap) ∧
 APP E.t_uint64 1 8 #[.int .u64 0] ⟨(some (Addr.mk b47 0 none)), 0, 0⟩ x8 w48 fun s49 w50 =>
 c_vmem_New s43 s45 s49 (fun r51 w52 =>
 J3 (r51, ()) w52
 ) w50

 ) ∧ (
 AL (.cells ⟨[]⟩ E.t_uint64) w44 fun b53 w54 =>
 w54.cell? ((Addr.mk b1 0 none).add 2) = some (.slice x8.base x8.len x8.cap) ∧
 w54.cell? ((Addr.mk b1 0 none).add 1) = some (.slice x7.base x7.len x7.cap) ∧
 APP E.t_bool 1 1 #[.bool false] ⟨(some (Addr.mk b41 0 none)), 0, 0⟩ x7 w54 fun s55 w56 =>
 w56.cell? ((Addr.mk b1 0 none).add 2) = some (.slice x8.base x8.len x8.cap) ∧
 APP E.t_uint64 1 8 #[.int .u64 0] ⟨(some (Addr.mk b53 0 none)), 0, 0⟩ x8 w56 fun s57 w58 =>
 c_vmem_New s43 s55 s57 (fun r59 w60 =>
 J3 (r59, ()) w60
 ) w58
 )

 ) ∧ (
 AL (.cells ⟨[]⟩ E.t_uint64) w42 fun b61 w62 =>
 w62.cell? ((Addr.mk b1 0 none).add 2) = some (.slice x8.base x8.len x8.cap) ∧
 w62.cell? ((Addr.mk b1 0 none).add 1) = some (.slice x7.base x7.len x7.cap) ∧
 w62.cell? (Addr.mk b1 0 none) = some (.slice x6.base x6.len x6.cap) ∧
 APP E.t_uint64 1 8 #[.int .u64 0] ⟨(some (Addr.mk b9 0 none)), 0, 0⟩ x6 w62 fun s63 w64 =>
 w64.cell? ((Addr.mk b1 0 none).add 2) = some (.slice x8.base x8.len x8.cap) ∧
 w64.cell? ((Addr.mk b1 0 none).add 1) = some (.slice x7.base x7.len x7.cap) ∧
 APP E.t_bool 1 1 #[.bool false] ⟨(some (Addr.mk b41 0 none)), 0, 0⟩ x7 w64 fun s65 w66 =>
 w66.cell? ((Addr.mk b1 0 none).add 2) = some (.slice x8.base x8.len x8.cap) ∧
 APP E.t_uint64 1 8 #[.int .u64 0] ⟨(some (Addr.mk b61 0 none)), 0, 0⟩ x8 w66 fun s67 w68 =>
 c_vmem_New s63 s65 s67 (fun r69 w70 =>
 J3 (r69, ()) w70
 ) w68
 )

 ) ∧ (
 AL (.cells ⟨[]⟩ E.t_uint64) w10 fun b71 w72 =>
 w72.cell? ((Addr.mk b1 0 none).add 2) = some (.slice x8.base x8.len x8.cap) ∧
 w72.cell? ((Addr.mk b1 0 none).add 1) = some (.slice x7.base x7.len x7.cap) ∧
 w72.cell? (Addr.mk b1 0 none) = some (.slice x6.base x6.len x6.cap) ∧
 (
 APP E.t_uint64 1 8 #[.int .u64 0] ⟨(some (Addr.mk b9 0 none)), 0, 0⟩ x6 w72 fun s73 w74 =>
 w74.cell? ((Addr.mk b1 0 none).add 2) = some (.slice x8.base x8.len x8.cap) ∧
 w74.cell? ((Addr.mk b1 0 none).add 1) = some (.slice x7.base x7.len x7.cap) ∧
 AL (.cells ⟨[]⟩ E.t_bool) w74 fun b75 w76 =>
 w76.cell? ((Addr.mk b1 0 none).add 2) = some (.slice x8.base x8.len x8.cap) ∧
 w76.cell? ((Addr.mk b1 0 none).add 1) = some (.slice x7.base x7.len x7.cap) ∧
 APP E.t_bool 1 1 #[.bool false] ⟨(some (Addr.mk b75 0 none)), 0, 0⟩ x7 w76 fun s77 w78 =>
 w78.cell? ((Addr.mk b1 0 none).add 2) = some (.slice x8.base x8.len x8.cap) ∧
 APP E.t_uint64 1 8 #[.int .u64 0] ⟨(some (Addr.mk b71 0 none)), 0, 0⟩ x8 w78 fun s79 w80 =>
 c_vmem_New s73 s77 s79 (fun r81 w82 =>
 J3 (r81, ()) w82
 ) w80

 ) ∧ (
 AL (.cells ⟨[]⟩ E.t_bool) w72 fun b83 w84 =>
 w84.cell? ((Addr.mk b1 0 none).add 2) = some (.slice x8.base x8.len x8.cap) ∧
 w84.cell? ((Addr.mk b1 0 none).add 1) = some (.slice x7.base x7.len x7.cap) ∧
 w84.cell? (Addr.mk b1 0 none) = some (.slice x6.base x6.len x6.cap) ∧
 APP E.t_uint64 1 8 #[.int .u64 0] ⟨(some (Addr.mk b9 0 none)), 0, 0⟩ x6 w84 fun s85 w86 =>
 w86.cell? ((Addr.mk b1 0 none).add 2) = some (.slice x8.base x8.len x8.cap) ∧
 w86.cell? ((Addr.mk b1 0 none).add 1) = some (.slice x7.base x7.len x7.cap) ∧
 APP E.t_bool 1 1 #[.bool false] ⟨(some (Addr.mk b83 0 none)), 0, 0⟩ x7 w86 fun s87 w88 =>
 w88.cell? ((Addr.mk b1 0 none).add 2) = some (.slice x8.base x8.len x8.cap) ∧
 APP E.t_uint64 1 8 #[.int .u64 0] ⟨(some (Addr.mk b71 0 none)), 0, 0⟩ x8 w88 fun s89 w90 =>
 c_vmem_New s85 s87 s89 (fun r91 w92 =>
 J3 (r91, ()) w92
 ) w90
 )
 )

 ) ∧ (
 AL (.cells ⟨[]⟩ E.t_bool) w2.drew fun b93 w94 =>
 w94.cell? ((Addr.mk b1 0 none).add 2) = some (.slice x8.base x8.len x8.cap) ∧
 w94.cell? ((Addr.mk b1 0 none).add 1) = some (.slice x7.base x7.len x7.cap) ∧
 w94.cell? (Addr.mk b1 0 none) = some (.slice x6.base x6.len x6.cap) ∧
 (
 AL (.cells ⟨[]⟩ E.t_uint64) w94 fun b95 w96 =>
 w96.cell? ((Addr.mk b1 0 none).add 2) = some (.slice x8.base x8.len x8.cap) ∧
 w96.cell? ((Addr.mk b1 0 none).add 1) = some (.slice x7.base x7.len x7.cap) ∧
 w96.cell? (Addr.mk b1 0 none) = some (.slice x6.base x6.len x6.cap) ∧
 (
 APP E.t_uint64 1 8 #[.int .u64 0] ⟨(some (Addr.mk b95 0 none)), 0, 0⟩ x6 w96 fun s97 w98 =>
 w98.cell? ((Addr.mk b1 0 none).add 2) = some (.slice x8.base x8.len x8.cap) ∧
 w98.cell? ((Addr.mk b1 0 none).add 1) = some (.slice x7.base x7.len x7.cap) ∧
 (
 APP E.t_bool 1 1 #[.bool false] ⟨(some (Addr.mk b93 0 none)), 0, 0⟩ x7 w98 fun s99 w100 =>
 w100.cell? ((Addr.mk b1 0 none).add 2) = some (.slice x8.base x8.len x8.cap) ∧
 AL (.cells ⟨[]⟩ E.t_uint64) w100 fun b101 w102 =>
 w102.cell? ((Addr.mk b1 0 none).add 2) = some (.slice x8.base x8.len x8.cap) ∧
 APP E.t_uint64 1 8 #[.int .u64 0] ⟨(some (Addr.mk b101 0 none)), 0, 0⟩ x8 w102 fun s103 w104 =>
 c_vmem_New s97 s99 s103 (fun r105 w106 =>
 J3 (r105, ()) w106
 ) w104

 ) ∧ (
 AL (.cells ⟨[]⟩ E.t_uint64) w98 fun b107 w108 =>
 w108.cell? ((Addr.mk b1 0 none).add 2) = some (.slice x8.base x8.len x8.cap) ∧
 w108.cell? ((Addr.mk b1 0 none).add 1) = some (.slice x7.base x7.len x7.cap) ∧
 APP E.t_bool 1 1 #[.bool false] ⟨(some (Addr.mk b93 0 none)), 0, 0⟩ x7 w108 fun s109 w110 =>
 w110.cell? ((Addr.mk b1 0 none).add 2) = some (.slice x8.base x8.len x8.cap) ∧
 APP E.t_uint64 1 8 #[.int .u64 0] ⟨(some (Addr.mk b107 0 none)), 0, 0⟩ x8 w110 fun s111 w112 =>
 c_vmem_New s97 s109 s111 (fun r113 w114 =>
 J3 (r113, ()) w114
 ) w112
 )

 ) ∧ (
 AL (.cells ⟨[]⟩ E.t_uint64) w96 fun b115 w116 =>
 w116.cell? ((Addr.mk b1 0 none).add 2) = some (.slice x8.base x8.len x8.cap) ∧
 w116.cell? ((Addr.mk b1 0 none).add 1) = some (.slice x7.base x7.len x7.cap) ∧
 w116.cell? (Addr.mk b1 0 none) = some (.slice x6.base x6.len x6.cap) ∧
 APP E.t_uint64 1 8 #[.int .u64 0] ⟨(some (Addr.mk b95 0 none)), 0, 0⟩ x6 w116 fun s117 w118 =>
 w118.cell? ((Addr.mk b1 0 none).add 2) = some (.slice x8.base x8.len x8.cap) ∧
 w118.cell? ((Addr.mk b1 0 none).add 1) = some (.slice x7.base x7.len x7.cap) ∧
 APP E.t_bool 1 1 #[.bool false] ⟨(some (Addr.mk b93 0 none)), 0, 0⟩ x7 w118 fun s119 w120 =>
 w120.cell? ((Addr.mk b1 0 none).add 2) = some (.slice x8.base x8.len x8.cap) ∧
 APP E.t_uint64 1 8 #[.int .u64 0] ⟨(some (Addr.mk b115 0 none)), 0, 0⟩ x8 w120 fun s121 w122 =>
 c_vmem_New s117 s119 s121 (fun r123 w124 =>
 J3 (r123, ()) w124
 ) w122
 )

 ) ∧ (
 AL (.cells ⟨[]⟩ E.t_uint64) w94 fun b125 w126 =>
 w126.cell? ((Addr.mk b1 0 none).add 2) = some (.slice x8.base x8.len x8.cap) ∧
 w126.cell? ((Addr.mk b1 0 none).add 1) = some (.slice x7.base x7.len x7.cap) ∧
 w126.cell? (Addr.mk b1 0 none) = some (.slice x6.base x6.len x6.cap) ∧
 AL (.cells ⟨[]⟩ E.t_uint64) w126 fun b127 w128 =>
 w128.cell? ((Addr.mk b1 0 none).add 2) = some (.slice x8.base x8.len x8.cap) ∧
 w128.cell? ((Addr.mk b1 0 none).add 1) = some (.slice x7.base x7.len x7.cap) ∧
 w128.cell? (Addr.mk b1 0 none) = some (.slice x6.base x6.len x6.cap) ∧
 APP E.t_uint64 1 8 #[.int .u64 0] ⟨(some (Addr.mk b127 0 none)), 0, 0⟩ x6 w128 fun s129 w130 =>
 w130.cell? ((Addr.mk b1 0 none).add 2) = some (.slice x8.base x8.len x8.cap) ∧
 w130.cell? ((Addr.mk b1 0 none).add 1) = some (.slice x7.base x7.len x7.cap) ∧
 APP E.t_bool 1 1 #[.bool false] ⟨(some (Addr.mk b93 0 none)), 0, 0⟩ x7 w130 fun s131 w132 =>
 w132.cell? ((Addr.mk b1 0 none).add 2) = some (.slice x8.base x8.len x8.cap) ∧
 APP E.t_uint64 1 8 #[.int .u64 0] ⟨(some (Addr.mk b125 0 none)), 0, 0⟩ x8 w132 fun s133 w134 =>
 c_vmem_New s129 s131 s133 (fun r135 w136 =>
 J3 (r135, ()) w136
 ) w134
 )

 ) ∧ (
 AL (.cells ⟨[]⟩ E.t_uint64) w2.drew fun b137 w138 =>
 w138.cell? ((Addr.mk b1 0 none).add 2) = some (.slice x8.base x8.len x8.cap) ∧
 w138.cell? ((Addr.mk b1 0 none).add 1) = some (.slice x7.base x7.len x7.cap) ∧
 w138.cell? (Addr.mk b1 0 none) = some (.slice x6.base x6.len x6.cap) ∧
 (
 AL (.cells ⟨[]⟩ E.t_uint64) w138 fun b139 w140 =>
 w140.cell? ((Addr.mk b1 0 none).add 2) = some (.slice x8.base x8.len x8.cap) ∧
 w140.cell? ((Addr.mk b1 0 none).add 1) = some (.slice x7.base x7.len x7.cap) ∧
 w140.cell? (Addr.mk b1 0 none) = some (.slice x6.base x6.len x6.cap) ∧
 (
 APP E.t_uint64 1 8 #[.int .u64 0] ⟨(some (Addr.mk b139 0 none)), 0, 0⟩ x6 w140 fun s141 w142 =>
 w142.cell? ((Addr.mk b1 0 none).add 2) = some (.slice x8.base x8.len x8.cap) ∧
 w142.cell? ((Addr.mk b1 0 none).add 1) = some (.slice x7.base x7.len x7.cap) ∧
 AL (.cells ⟨[]⟩ E.t_bool) w142 fun b143 w144 =>
 w144.cell? ((Addr.mk b1 0 none).add 2) = some (.slice x8.base x8.len x8.cap) ∧
 w144.cell? ((Addr.mk b1 0 none).add 1) = some (.slice x7.base x7.len x7.cap) ∧
 APP E.t_bool 1 1 #[.bool false] ⟨(some (Addr.mk b143 0 none)), 0, 0⟩ x7 w144 fun s145 w146 =>
 w146.cell? ((Addr.mk b1 0 none).add 2) = some (.slice x8.base x8.len x8.cap) ∧
 APP E.t_uint64 1 8 #[.int .u64 0] ⟨(some (Addr.mk b137 0 none)), 0, 0⟩ x8 w146 fun s147 w148 =>
 c_vmem_New s141 s145 s147 (fun r149 w150 =>
 J3 (r149, ()) w150
 ) w148

 ) ∧ (
 AL (.cells ⟨[]⟩ E.t_bool) w140 fun b151 w152 =>
 w152.cell? ((Addr.mk b1 0 none).add 2) = some (.slice x8.base x8.len x8.cap) ∧
 w152.cell? ((Addr.mk b1 0 none).add 1) = some (.slice x7.base x7.len x7.cap) ∧
 w152.cell? (Addr.mk b1 0 none) = some (.slice x6.base x6.len x6.cap) ∧
 APP E.t_uint64 1 8 #[.int .u64 0] ⟨(some (Addr.mk b139 0 none)), 0, 0⟩ x6 w152 fun s153 w154 =>
 w154.cell? ((Addr.mk b1 0 none).add 2) = some (.slice x8.base x8.len x8.cap) ∧
 w154.cell? ((Addr.mk b1 0 none).add 1) = some (.slice x7.base x7.len x7.cap) ∧
 APP E.t_bool 1 1 #[.bool false] ⟨(some (Addr.mk b151 0 none)), 0, 0⟩ x7 w154 fun s155 w156 =>
 w156.cell? ((Addr.mk b1 0 none).add 2) = some (.slice x8.base x8.len x8.cap) ∧
 APP E.t_uint64 1 8 #[.int .u64 0] ⟨(some (Addr.mk b137 0 none)), 0, 0⟩ x8 w156 fun s157 w158 =>
 c_vmem_New s153 s155 s157 (fun r159 w160 =>
 J3 (r159, ()) w160
 ) w158
 )

 ) ∧ (
 AL (.cells ⟨[]⟩ E.t_bool) w138 fun b161 w162 =>
 w162.cell? ((Addr.mk b1 0 none).add 2) = some (.slice x8.base x8.len x8.cap) ∧
 w162.cell? ((Addr.mk b1 0 none).add 1) = some (.slice x7.base x7.len x7.cap) ∧
 w162.cell? (Addr.mk b1 0 none) = some (.slice x6.base x6.len x6.cap) ∧
 AL (.cells ⟨[]⟩ E.t_uint64) w162 fun b163 w164 =>
 w164.cell? ((Addr.mk b1 0 none).add 2) = some (.slice x8.base x8.len x8.cap) ∧
 w164.cell? ((Addr.mk b1 0 none).add 1) = some (.slice x7.base x7.len x7.cap) ∧
 w164.cell? (Addr.mk b1 0 none) = some (.slice x6.base x6.len x6.cap) ∧
 APP E.t_uint64 1 8 #[.int .u64 0] ⟨(some (Addr.mk b163 0 none)), 0, 0⟩ x6 w164 fun s165 w166 =>
 w166.cell? ((Addr.mk b1 0 none).add 2) = some (.slice x8.base x8.len x8.cap) ∧
 w166.cell? ((Addr.mk b1 0 none).add 1) = some (.slice x7.base x7.len x7.cap) ∧
 APP E.t_bool 1 1 #[.bool false] ⟨(some (Addr.mk b161 0 none)), 0, 0⟩ x7 w166 fun s167 w168 =>
 w168.cell? ((Addr.mk b1 0 none).add 2) = some (.slice x8.base x8.len x8.cap) ∧
 APP E.t_uint64 1 8 #[.int .u64 0] ⟨(some (Addr.mk b137 0 none)), 0, 0⟩ x8 w168 fun s169 w170 =>
 c_vmem_New s165 s167 s169 (fun r171 w172 =>
 J3 (r171, ()) w172
 ) w170
 )
 )
 ) fun s4 _ w5 =>
 CND (s4.1.isNone) (
 K none w5
 ) (
 c_mheap_New s4.1 (fun r173 w174 =>
 K r173 w174
 ) w5
 )

theorem tieZ7 (c_vmem_New : ∀ (a0_0 : SlV) (a0_1 : SlV) (a0_2 : SlV) (K : (Option Addr) → World → Prop) (w : World), Prop) (c_mheap_New : ∀ (a0 : (Option Addr)) (K : (Option Addr) → World → Prop) (w : World), Prop) (x : ArgsV [.agg [.sl, .sl, .sl]]) (K Kp : Value → World → Prop) (w : World) : T0.mallowlaw21_fresh env c_vmem_New c_mheap_New x.1.1 x.1.2.1 x.1.2.2.1 (fun r1 w' => K (.pointer r1) w') w =
 ev Tryz.prog (tabC [(19, fun args w K Kp => unArgs [.agg [.sl, .sl, .sl]] args.toList fun x => c_vmem_New x.1.1 x.1.2.1 x.1.2.2.1 (fun r1 w' => K (.pointer r1) w') w), (20, fun args w K Kp => unArgs [.one (.ptr)] args.toList fun x => c_mheap_New x.1 (fun r1 w' => K (.pointer r1) w') w)]) (ground Tryz.prog) ann7 body7 (finQ Tryz.prog Tryz.f7 K Kp) (initF (mkArgs [.agg [.sl, .sl, .sl]] x)) w := by kernel_rfl
theorem tie7 (x : ArgsV [.agg [.sl, .sl, .sl]]) (K Kp : Value → World → Prop) (w : World) : F.mallowlaw21_fresh env x.1.1 x.1.2.1 x.1.2.2.1 (fun r1 w' => K (.pointer r1) w') w =
 ev Tryz.prog (tabC [(19, C19), (20, C20)]) (ground Tryz.prog) ann7 body7 (finQ Tryz.prog Tryz.f7 K Kp) (initF (mkArgs [.agg [.sl, .sl, .sl]] x)) w := tieZ7 (F.vmem_New env) (F.mheap_New env) x K Kp w
theorem fits7 : FitsOne Tryz.prog 7 C7 :=
 fits_of_tie (T := [(19, C19), (20, C20)]) (A := ann7) (fn := Tryz.f7) (c := body7) (fits_cons fits19 (fits_cons fits20 fits_nil)) mixed Tryz.func7 Tryz.call7 (by kernel_rfl) (by kernel_rfl) (by kernel_rfl) tie7

noncomputable def C8 : Entry := fun args w K Kp => unArgs [.one (.ptr)] args.toList fun x => F.stack_New env x.1 (fun r1 w' => K (.pointer r1) w') w
noncomputable def body8 : Code := (Tryz.f8.body).getD .skip
def ann8 : Ann := { loops := [(3, [(9, .one (.int .i64))])], joins := [] }
theorem tie8 (x : ArgsV [.one (.ptr)]) (K Kp : Value → World → Prop) (w : World) : F.stack_New env x.1 (fun r1 w' => K (.pointer r1) w') w =
 ev Tryz.prog (tabC []) (ground Tryz.prog) ann8 body8 (finQ Tryz.prog Tryz.f8 K Kp) (initF (mkArgs [.one (.ptr)] x)) w := by kernel_rfl
theorem fits8 : FitsOne Tryz.prog 8 C8 :=
 fits_of_tie (T := []) (A := ann8) (fn := Tryz.f8) (c := body8) fits_nil mixed Tryz.func8 Tryz.call8 (by kernel_rfl) (by kernel_rfl) (by kernel_rfl) tie8

noncomputable def C21 : Entry := fun args w K Kp => unArgs [.one (.int .i64)] args.toList fun x => F.stack_is env x.1 (fun r1 w' => K (.bool r1) w') w
noncomputable def body21 : Code := (Tryz.f21.body).getD .skip
def ann21 : Ann := { loops := [], joins := [] }
theorem tie21 (x : ArgsV [.one (.int .i64)]) (K Kp : Value → World → Prop) (w : World) : F.stack_is env x.1 (fun r1 w' => K (.bool r1) w') w =
 ev Tryz.prog (tabC []) (ground Tryz.prog) ann21 body21 (finQ Tryz.prog Tryz.f21 K Kp) (initF (mkArgs [.one (.int .i64)] x)) w := by kernel_rfl
theorem fits21 : FitsOne Tryz.prog 21 C21 :=
 fits_of_tie (T := []) (A := ann21) (fn := Tryz.f21) (c := body21) fits_nil mixed Tryz.func21 Tryz.call21 (by kernel_rfl) (by kernel_rfl) (by kernel_rfl) tie21

noncomputable def C47 : Entry := fun args w K Kp => unArgs [.one (.int .u64)] args.toList fun x => F.math_bits_TrailingZeros64 env x.1 (fun r1 w' => K (.int .i64 r1) w') w
noncomputable def body47 : Code := (Tryz.f47.body).getD .skip
def ann47 : Ann := { loops := [], joins := [] }
theorem tie47 (x : ArgsV [.one (.int .u64)]) (K Kp : Value → World → Prop) (w : World) : F.math_bits_TrailingZeros64 env x.1 (fun r1 w' => K (.int .i64 r1) w') w =
 ev Tryz.prog (tabC []) (ground Tryz.prog) ann47 body47 (finQ Tryz.prog Tryz.f47 K Kp) (initF (mkArgs [.one (.int .u64)] x)) w := by kernel_rfl
theorem fits47 : FitsOne Tryz.prog 47 C47 :=
 fits_of_tie (T := []) (A := ann47) (fn := Tryz.f47) (c := body47) fits_nil mixed Tryz.func47 Tryz.call47 (by kernel_rfl) (by kernel_rfl) (by kernel_rfl) tie47

noncomputable def C22 : Entry := fun args w K Kp => unArgs [.one (.int .u64)] args.toList fun x => F.stack_order env x.1 (fun r1 w' => K (.int .i64 r1) w') w
noncomputable def body22 : Code := (Tryz.f22.body).getD .skip
def ann22 : Ann := { loops := [], joins := [] }
def T0.stack_order (E : Env) (c_math_bits_TrailingZeros64 : ∀ (a0 : Int) (K : Int → World → Prop) (w : World), Prop) (a0 : Int) (K : Int → World → Prop) (w : World) : Prop :=
 2048 ≠ (0 : Int) ∧
 c_math_bits_TrailingZeros64 (u64 (Int.tdiv a0 2048)) (fun r1 w2 =>
 K r1 w2
 ) w

theorem tieZ22 (c_math_bits_TrailingZeros64 : ∀ (a0 : Int) (K : Int → World → Prop) (w : World), Prop) (x : ArgsV [.one (.int .u64)]) (K Kp : Value → World → Prop) (w : World) : T0.stack_order env c_math_bits_TrailingZeros64 x.1 (fun r1 w' => K (.int .i64 r1) w') w =
 ev Tryz.prog (tabC [(47, fun args w K Kp => unArgs [.one (.int .u64)] args.toList fun x => c_math_bits_TrailingZeros64 x.1 (fun r1 w' => K (.int .i64 r1) w') w)]) (ground Tryz.prog) ann22 body22 (finQ Tryz.prog Tryz.f22 K Kp) (initF (mkArgs [.one (.int .u64)] x)) w := by kernel_rfl
theorem tie22 (x : ArgsV [.one (.int .u64)]) (K Kp : Value → World → Prop) (w : World) : F.stack_order env x.1 (fun r1 w' => K (.int .i64 r1) w') w =
 ev Tryz.prog (tabC [(47, C47)]) (ground Tryz.prog) ann22 body22 (finQ Tryz.prog Tryz.f22 K Kp) (initF (mkArgs [.one (.int .u64)] x)) w := tieZ22 (F.math_bits_TrailingZeros64 env) x K Kp w
theorem fits22 : FitsOne Tryz.prog 22 C22 :=
 fits_of_tie (T := [(47, C47)]) (A := ann22) (fn := Tryz.f22) (c := body22) (fits_cons fits47 fits_nil) mixed Tryz.func22 Tryz.call22 (by kernel_rfl) (by kernel_rfl) (by kernel_rfl) tie22

noncomputable def C48 : Entry := fun args w K Kp => unArgs [.one (.int .i64)] args.toList fun x => F.stack_bytes env x.1 (fun r1 w' => K (.int .u64 r1) w') w
noncomputable def body48 : Code := (Tryz.f48.body).getD .skip
def ann48 : Ann := { loops := [], joins := [] }
theorem tie48 (x : ArgsV [.one (.int .i64)]) (K Kp : Value → World → Prop) (w : World) : F.stack_bytes env x.1 (fun r1 w' => K (.int .u64 r1) w') w =
 ev Tryz.prog (tabC []) (ground Tryz.prog) ann48 body48 (finQ Tryz.prog Tryz.f48 K Kp) (initF (mkArgs [.one (.int .i64)] x)) w := by kernel_rfl
theorem fits48 : FitsOne Tryz.prog 48 C48 :=
 fits_of_tie (T := []) (A := ann48) (fn := Tryz.f48) (c := body48) fits_nil mixed Tryz.func48 Tryz.call48 (by kernel_rfl) (by kernel_rfl) (by kernel_rfl) tie48

noncomputable def C68 : Entry := fun args w K Kp => unArgs [.one (.ptr)] args.toList fun x => F.span_Span_Full env x.1 (fun r1 w' => K (.bool r1) w') w
noncomputable def body68 : Code := (Tryz.f68.body).getD .skip
def ann68 : Ann := { loops := [], joins := [] }
theorem tie68 (x : ArgsV [.one (.ptr)]) (K Kp : Value → World → Prop) (w : World) : F.span_Span_Full env x.1 (fun r1 w' => K (.bool r1) w') w =
 ev Tryz.prog (tabC []) (ground Tryz.prog) ann68 body68 (finQ Tryz.prog Tryz.f68 K Kp) (initF (mkArgs [.one (.ptr)] x)) w := by kernel_rfl
theorem fits68 : FitsOne Tryz.prog 68 C68 :=
 fits_of_tie (T := []) (A := ann68) (fn := Tryz.f68) (c := body68) fits_nil mixed Tryz.func68 Tryz.call68 (by kernel_rfl) (by kernel_rfl) (by kernel_rfl) tie68

noncomputable def C26 : Entry := fun args w K Kp => unArgs [.one (.ptr)] args.toList fun x => F.span_Span_Info env x.1 (fun r1 r2 r3 r4 r5 r6 r7 r8 r9 r10 w' => K (.agg ⟨[.int .u64 r1, .int .i64 r2, .int .i64 r3, .int .i64 r4, .bool r5, .int .i64 r6, .int .i64 r7, .int .i64 r8, .bool r9, .bool r10]⟩) w') w
noncomputable def body26 : Code := (Tryz.f26.body).getD .skip
def ann26 : Ann := { loops := [], joins := [] }
theorem tie26 (x : ArgsV [.one (.ptr)]) (K Kp : Value → World → Prop) (w : World) : F.span_Span_Info env x.1 (fun r1 r2 r3 r4 r5 r6 r7 r8 r9 r10 w' => K (.agg ⟨[.int .u64 r1, .int .i64 r2, .int .i64 r3, .int .i64 r4, .bool r5, .int .i64 r6, .int .i64 r7, .int .i64 r8, .bool r9, .bool r10]⟩) w') w =
 ev Tryz.prog (tabC []) (ground Tryz.prog) ann26 body26 (finQ Tryz.prog Tryz.f26 K Kp) (initF (mkArgs [.one (.ptr)] x)) w := by kernel_rfl
theorem fits26 : FitsOne Tryz.prog 26 C26 :=
 fits_of_tie (T := []) (A := ann26) (fn := Tryz.f26) (c := body26) fits_nil mixed Tryz.func26 Tryz.call26 (by kernel_rfl) (by kernel_rfl) (by kernel_rfl) tie26

noncomputable def C70 : Entry := fun args w K Kp => unArgs [.one (.int .u64), .one (.int .u64), .one (.int .i64)] args.toList fun x => F.span_Manual env x.1 x.2.1 x.2.2.1 (fun r1 r2 w' => K (.tuple ⟨[.pointer r1, .int .i64 r2]⟩) w') w
noncomputable def body70 : Code := (Tryz.f70.body).getD .skip
def ann70 : Ann := { loops := [], joins := [(2, [(34, .one (.bool))])] }
theorem tie70 (x : ArgsV [.one (.int .u64), .one (.int .u64), .one (.int .i64)]) (K Kp : Value → World → Prop) (w : World) : F.span_Manual env x.1 x.2.1 x.2.2.1 (fun r1 r2 w' => K (.tuple ⟨[.pointer r1, .int .i64 r2]⟩) w') w =
 ev Tryz.prog (tabC []) (ground Tryz.prog) ann70 body70 (finQ Tryz.prog Tryz.f70 K Kp) (initF (mkArgs [.one (.int .u64), .one (.int .u64), .one (.int .i64)] x)) w := by kernel_rfl
theorem fits70 : FitsOne Tryz.prog 70 C70 :=
 fits_of_tie (T := []) (A := ann70) (fn := Tryz.f70) (c := body70) fits_nil mixed Tryz.func70 Tryz.call70 (by kernel_rfl) (by kernel_rfl) (by kernel_rfl) tie70

noncomputable def C110 : Entry := fun args w K Kp => unArgs [.one (.int .i64)] args.toList fun x => F.mheap_is env x.1 (fun r1 w' => K (.bool r1) w') w
noncomputable def body110 : Code := (Tryz.f110.body).getD .skip
def ann110 : Ann := { loops := [], joins := [] }
theorem tie110 (x : ArgsV [.one (.int .i64)]) (K Kp : Value → World → Prop) (w : World) : F.mheap_is env x.1 (fun r1 w' => K (.bool r1) w') w =
 ev Tryz.prog (tabC []) (ground Tryz.prog) ann110 body110 (finQ Tryz.prog Tryz.f110 K Kp) (initF (mkArgs [.one (.int .i64)] x)) w := by kernel_rfl
theorem fits110 : FitsOne Tryz.prog 110 C110 :=
 fits_of_tie (T := []) (A := ann110) (fn := Tryz.f110) (c := body110) fits_nil mixed Tryz.func110 Tryz.call110 (by kernel_rfl) (by kernel_rfl) (by kernel_rfl) tie110

noncomputable def C63 : Entry := fun args w K Kp => unArgs [.one (.ptr)] args.toList fun x => F.pcache_Cache_Empty env x.1 (fun r1 w' => K (.bool r1) w') w
noncomputable def body63 : Code := (Tryz.f63.body).getD .skip
def ann63 : Ann := { loops := [], joins := [] }
theorem tie63 (x : ArgsV [.one (.ptr)]) (K Kp : Value → World → Prop) (w : World) : F.pcache_Cache_Empty env x.1 (fun r1 w' => K (.bool r1) w') w =
 ev Tryz.prog (tabC []) (ground Tryz.prog) ann63 body63 (finQ Tryz.prog Tryz.f63 K Kp) (initF (mkArgs [.one (.ptr)] x)) w := by kernel_rfl
theorem fits63 : FitsOne Tryz.prog 63 C63 :=
 fits_of_tie (T := []) (A := ann63) (fn := Tryz.f63) (c := body63) fits_nil mixed Tryz.func63 Tryz.call63 (by kernel_rfl) (by kernel_rfl) (by kernel_rfl) tie63

noncomputable def C130 : Entry := fun args w K Kp => unArgs [.one (.ptr)] args.toList fun x => F.stretch_Set_All env x.1 (fun r1 w' => K (.slice r1.base r1.len r1.cap) w') w
noncomputable def body130 : Code := (Tryz.f130.body).getD .skip
def ann130 : Ann := { loops := [], joins := [] }
theorem tie130 (x : ArgsV [.one (.ptr)]) (K Kp : Value → World → Prop) (w : World) : F.stretch_Set_All env x.1 (fun r1 w' => K (.slice r1.base r1.len r1.cap) w') w =
 ev Tryz.prog (tabC []) (ground Tryz.prog) ann130 body130 (finQ Tryz.prog Tryz.f130 K Kp) (initF (mkArgs [.one (.ptr)] x)) w := by kernel_rfl
theorem fits130 : FitsOne Tryz.prog 130 C130 :=
 fits_of_tie (T := []) (A := ann130) (fn := Tryz.f130) (c := body130) fits_nil mixed Tryz.func130 Tryz.call130 (by kernel_rfl) (by kernel_rfl) (by kernel_rfl) tie130

noncomputable def C116 : Entry := fun args w K Kp => unArgs [.one (.ptr), .one (.int .u64)] args.toList fun x => F.radix_Tree_Find env x.1 x.2.1 (fun r1 r2 w' => K (.tuple ⟨[.int .u64 r1, .bool r2]⟩) w') w
noncomputable def body116 : Code := (Tryz.f116.body).getD .skip
def ann116 : Ann := { loops := [(4, [(15, .one (.int .i64))])], joins := [] }
def T0.radix_Tree_Find (E : Env) (c_stretch_Set_All : ∀ (a0 : (Option Addr)) (K : SlV → World → Prop) (w : World), Prop) (a0 : (Option Addr)) (a1 : Int) (K : Int → Bool → World → Prop) (w : World) : Prop :=
 CND ((a1 : Int) == 0) (
 K 0 false w
 ) (
 NC a0 fun p1 =>
 c_stretch_Set_All (some (p1.add 2)) (fun r2 w3 =>
 LOOP (Int × Unit) (0, ()) w3 fun s4 _ w5 next6 =>
 CND (decide ((s4.1 : Int) < ((r2.len : Nat) : Int))) (
 NC r2.base fun p7 =>
 ((0 : Int) ≤ s4.1 ∧ (s4.1 : Int) < (r2.len : Nat)) ∧
 ∃ c8 : Int, w5.cell? ((p7.add (Int.toNat s4.1 * 2)).add 0) = some (.int .u64 c8) ∧
 ∃ c9 : Int, w5.cell? ((p7.add (Int.toNat s4.1 * 2)).add 1) = some (.int .u64 c9) ∧
 AL (.cells #[.int .u64 0, .int .u64 0] E.t_stretch_One) w5 fun b10 w11 =>
 stCells (Addr.mk b10 0 none) 0 [.int .u64 c8, .int .u64 c9] w11 fun w12 =>
 ∃ x13 : Int, w12.cell? ((Addr.mk b10 0 none).add 1) = some (.int .u64 x13) ∧
 ∃ x14 : Int, w12.cell? (Addr.mk b10 0 none) = some (.int .u64 x14) ∧
 CND (decide (((u64 (x13 - x14)) : Int) ≥ a1)) (
 ∃ x15 : Int, w12.cell? (Addr.mk b10 0 none) = some (.int .u64 x15) ∧
 K x15 true w12
 ) (
 next6 (i64 (s4.1 + 1), ()) w12
 )
 ) (
 K 0 false w5
 )
 ) w
 )

theorem tieZ116 (c_stretch_Set_All : ∀ (a0 : (Option Addr)) (K : SlV → World → Prop) (w : World), Prop) (x : ArgsV [.one (.ptr), .one (.int .u64)]) (K Kp : Value → World → Prop) (w : World) : T0.radix_Tree_Find env c_stretch_Set_All x.1 x.2.1 (fun r1 r2 w' => K (.tuple ⟨[.int .u64 r1, .bool r2]⟩) w') w =
 ev Tryz.prog (tabC [(130, fun args w K Kp => unArgs [.one (.ptr)] args.toList fun x => c_stretch_Set_All x.1 (fun r1 w' => K (.slice r1.base r1.len r1.cap) w') w)]) (ground Tryz.prog) ann116 body116 (finQ Tryz.prog Tryz.f116 K Kp) (initF (mkArgs [.one (.ptr), .one (.int .u64)] x)) w := by kernel_rfl
theorem tie116 (x : ArgsV [.one (.ptr), .one (.int .u64)]) (K Kp : Value → World → Prop) (w : World) : F.radix_Tree_Find env x.1 x.2.1 (fun r1 r2 w' => K (.tuple ⟨[.int .u64 r1, .bool r2]⟩) w') w =
 ev Tryz.prog (tabC [(130, C130)]) (ground Tryz.prog) ann116 body116 (finQ Tryz.prog Tryz.f116 K Kp) (initF (mkArgs [.one (.ptr), .one (.int .u64)] x)) w := tieZ116 (F.stretch_Set_All env) x K Kp w
theorem fits116 : FitsOne Tryz.prog 116 C116 :=
 fits_of_tie (T := [(130, C130)]) (A := ann116) (fn := Tryz.f116) (c := body116) (fits_cons fits130 fits_nil) mixed Tryz.func116 Tryz.call116 (by kernel_rfl) (by kernel_rfl) (by kernel_rfl) tie116

noncomputable def C103 : Entry := fun args w K Kp => unArgs [.one (.int .i64), .one (.any)] args.toList fun x => F.sort_Search env x.1 x.2.1 (fun r1 w' => K (.int .i64 r1) w') w
noncomputable def body103 : Code := (Tryz.f103.body).getD .skip
def ann103 : Ann := { loops := [(2, [(5, .one (.int .i64)), (6, .one (.int .i64))])], joins := [] }
theorem tie103 (x : ArgsV [.one (.int .i64), .one (.any)]) (K Kp : Value → World → Prop) (w : World) : F.sort_Search env x.1 x.2.1 (fun r1 w' => K (.int .i64 r1) w') w =
 ev Tryz.prog (tabC []) (ground Tryz.prog) ann103 body103 (finQ Tryz.prog Tryz.f103 K Kp) (initF (mkArgs [.one (.int .i64), .one (.any)] x)) w := by kernel_rfl
theorem fits103 : FitsOne Tryz.prog 103 C103 :=
 fits_of_tie (T := []) (A := ann103) (fn := Tryz.f103) (c := body103) fits_nil mixed Tryz.func103 Tryz.call103 (by kernel_rfl) (by kernel_rfl) (by kernel_rfl) tie103

noncomputable def C83 : Entry := fun args w K Kp => unArgs [.one (.ptr), .one (.int .u64)] args.toList fun x => F.stretch_Set_at env x.1 x.2.1 (fun r1 w' => K (.int .i64 r1) w') w
noncomputable def body83 : Code := (Tryz.f83.body).getD .skip
def ann83 : Ann := { loops := [], joins := [] }
def T0.stretch_Set_at (E : Env) (c_sort_Search : ∀ (a0 : Int) (a1 : Value) (K : Int → World → Prop) (w : World), Prop) (a0 : (Option Addr)) (a1 : Int) (K : Int → World → Prop) (w : World) : Prop :=
 AL (.cells #[.pointer a0] E.t__stretch_Set) w fun b1 w2 =>
 AL (.cells #[.int .u64 a1] E.t_uint64) w2 fun b3 w4 =>
 ∃ x5 : (Option Addr), w4.cell? (Addr.mk b1 0 none) = some (.pointer x5) ∧
 NC x5 fun p6 =>
 ∃ x7 : SlV, w4.cell? p6 = some (.slice x7.base x7.len x7.cap) ∧
 c_sort_Search ((x7.len : Nat) : Int) (.func (.func E.f_stretch_Set_at_1) #[] #[.pointer (some (Addr.mk b1 0 none)), .pointer (some (Addr.mk b3 0 none))]) (fun r8 w9 =>
 K r8 w9
 ) w4

theorem tieZ83 (c_sort_Search : ∀ (a0 : Int) (a1 : Value) (K : Int → World → Prop) (w : World), Prop) (x : ArgsV [.one (.ptr), .one (.int .u64)]) (K Kp : Value → World → Prop) (w : World) : T0.stretch_Set_at env c_sort_Search x.1 x.2.1 (fun r1 w' => K (.int .i64 r1) w') w =
 ev Tryz.prog (tabC [(103, fun args w K Kp => unArgs [.one (.int .i64), .one (.any)] args.toList fun x => c_sort_Search x.1 x.2.1 (fun r1 w' => K (.int .i64 r1) w') w)]) (ground Tryz.prog) ann83 body83 (finQ Tryz.prog Tryz.f83 K Kp) (initF (mkArgs [.one (.ptr), .one (.int .u64)] x)) w := by kernel_rfl
theorem tie83 (x : ArgsV [.one (.ptr), .one (.int .u64)]) (K Kp : Value → World → Prop) (w : World) : F.stretch_Set_at env x.1 x.2.1 (fun r1 w' => K (.int .i64 r1) w') w =
 ev Tryz.prog (tabC [(103, C103)]) (ground Tryz.prog) ann83 body83 (finQ Tryz.prog Tryz.f83 K Kp) (initF (mkArgs [.one (.ptr), .one (.int .u64)] x)) w := tieZ83 (F.sort_Search env) x K Kp w
theorem fits83 : FitsOne Tryz.prog 83 C83 :=
 fits_of_tie (T := [(103, C103)]) (A := ann83) (fn := Tryz.f83) (c := body83) (fits_cons fits103 fits_nil) mixed Tryz.func83 Tryz.call83 (by kernel_rfl) (by kernel_rfl) (by kernel_rfl) tie83

noncomputable def C76 : Entry := fun args w K Kp => unArgs [.one (.ptr), .one (.int .u64), .one (.int .u64)] args.toList fun x => F.stretch_Set_Count env x.1 x.2.1 x.2.2.1 (fun r1 w' => K (.int .u64 r1) w') w
noncomputable def body76 : Code := (Tryz.f76.body).getD .skip
def ann76 : Ann := { loops := [(3, [(7, .one (.int .u64)), (8, .one (.int .i64))])], joins := [] }
def T0.stretch_Set_Count (E : Env) (c_stretch_Set_at : ∀ (a0 : (Option Addr)) (a1 : Int) (K : Int → World → Prop) (w : World), Prop) (a0 : (Option Addr)) (a1 : Int) (a2 : Int) (K : Int → World → Prop) (w : World) : Prop :=
 c_stretch_Set_at a0 a1 (fun r1 w2 =>
 LOOP (Int × Int × Unit) (0, r1, ()) w2 fun s3 _ w4 next5 =>
 NC a0 fun p6 =>
 ∃ x7 : SlV, w4.cell? p6 = some (.slice x7.base x7.len x7.cap) ∧
 CND (decide ((s3.2.1 : Int) < ((x7.len : Nat) : Int))) (
 NC a0 fun p8 =>
 ∃ x9 : SlV, w4.cell? p8 = some (.slice x9.base x9.len x9.cap) ∧
 NC x9.base fun p10 =>
 ((0 : Int) ≤ s3.2.1 ∧ (s3.2.1 : Int) < (x9.len : Nat)) ∧
 ∃ x11 : Int, w4.cell? (p10.add (Int.toNat s3.2.1 * 2)) = some (.int .u64 x11) ∧
 CND (decide ((x11 : Int) < a2)) (
 NC a0 fun p12 =>
 ∃ x13 : SlV, w4.drew.cell? p12 = some (.slice x13.base x13.len x13.cap) ∧
 NC x13.base fun p14 =>
 ((0 : Int) ≤ s3.2.1 ∧ (s3.2.1 : Int) < (x13.len : Nat)) ∧
 ∃ x15 : Int, w4.drew.cell? ((p14.add (Int.toNat s3.2.1 * 2)).add 1) = some (.int .u64 x15) ∧
 NC a0 fun p16 =>
 ∃ x17 : SlV, w4.drew.cell? p16 = some (.slice x17.base x17.len x17.cap) ∧
 NC x17.base fun p18 =>
 ((0 : Int) ≤ s3.2.1 ∧ (s3.2.1 : Int) < (x17.len : Nat)) ∧
 ∃ x19 : Int, w4.drew.cell? (p18.add (Int.toNat s3.2.1 * 2)) = some (.int .u64 x19) ∧
 LET (u64 (s3.1 + (u64 ((minI x15 a2) - (maxI x19 a1)))) : Int) fun n_20 =>
 next5 (n_20, i64 (s3.2.1 + 1), ()) w4.drew
 ) (
 K s3.1 w4
 )
 ) (
 K s3.1 w4
 )
 ) w

theorem tieZ76 (c_stretch_Set_at : ∀ (a0 : (Option Addr)) (a1 : Int) (K : Int → World → Prop) (w : World), Prop) (x : ArgsV [.one (.ptr), .one (.int .u64), .one (.int .u64)]) (K Kp : Value → World → Prop) (w : World) : T0.stretch_Set_Count env c_stretch_Set_at x.1 x.2.1 x.2.2.1 (fun r1 w' => K (.int .u64 r1) w') w =
 ev Tryz.prog (tabC [(83, fun args w K Kp => unArgs [.one (.ptr), .one (.int .u64)] args.toList fun x => c_stretch_Set_at x.1 x.2.1 (fun r1 w' => K (.int .i64 r1) w') w)]) (ground Tryz.prog) ann76 body76 (finQ Tryz.prog Tryz.f76 K Kp) (initF (mkArgs [.one (.ptr), .one (.int .u64), .one (.int .u64)] x)) w := by kernel_rfl
theorem tie76 (x : ArgsV [.one (.ptr), .one (.int .u64), .one (.int .u64)]) (K Kp : Value → World → Prop) (w : World) : F.stretch_Set_Count env x.1 x.2.1 x.2.2.1 (fun r1 w' => K (.int .u64 r1) w') w =
 ev Tryz.prog (tabC [(83, C83)]) (ground Tryz.prog) ann76 body76 (finQ Tryz.prog Tryz.f76 K Kp) (initF (mkArgs [.one (.ptr), .one (.int .u64), .one (.int .u64)] x)) w := tieZ76 (F.stretch_Set_at env) x K Kp w
theorem fits76 : FitsOne Tryz.prog 76 C76 :=
 fits_of_tie (T := [(83, C83)]) (A := ann76) (fn := Tryz.f76) (c := body76) (fits_cons fits83 fits_nil) mixed Tryz.func76 Tryz.call76 (by kernel_rfl) (by kernel_rfl) (by kernel_rfl) tie76

noncomputable def C101 : Entry := fun args w K Kp => unArgs [.one (.ptr), .one (.int .u64), .one (.int .u64), .one (.bool), .one (.int .i64)] args.toList fun x => F.radix_Tree_looked env x.1 x.2.1 x.2.2.1 x.2.2.2.1 x.2.2.2.2.1 (fun r1 w' => K (.int .i64 r1) w') w
noncomputable def body101 : Code := (Tryz.f101.body).getD .skip
def ann101 : Ann := { loops := [], joins := [(4, [(11, .one (.int .u64))]), (5, [(14, .one (.bool))])] }
def T0.radix_Tree_looked (E : Env) (c_stretch_Set_Count : ∀ (a0 : (Option Addr)) (a1 : Int) (a2 : Int) (K : Int → World → Prop) (w : World), Prop) (a0 : (Option Addr)) (a1 : Int) (a2 : Int) (a3 : Bool) (a4 : Int) (K : Int → World → Prop) (w : World) : Prop :=
 JOIN (Int × Unit) (fun J1 =>
 CND (a3) (
 J1 (a2, ()) w
 ) (
 J1 (0, ()) w
 )
 ) fun s2 _ w3 =>
 JOIN (Bool × Unit) (fun J4 =>
 CND ((a2 : Int) == 0) (
 J4 (true, ()) w3
 ) (
 CND (decide ((a1 : Int) ≥ 34359738368)) (
 J4 (true, ()) w3
 ) (
 CND (decide ((a2 : Int) > (u64 (34359738368 - a1)))) (
 J4 (true, ()) w3
 ) (
 NC a0 fun p7 =>
 c_stretch_Set_Count (some p7) a1 (u64 (a1 + a2)) (fun r8 w9 =>
 J4 ((r8 : Int) != a2, ()) w9
 ) w3
 )
 )
 )
 ) fun s5 _ w6 =>
 CND (s5.1) (
 K 10 w6
 ) (
 NC a0 fun p10 =>
 c_stretch_Set_Count (some (p10.add 2)) a1 (u64 (a1 + a2)) (fun r11 w12 =>
 CND ((r11 : Int) != s2.1) (
 K a4 w12
 ) (
 K 0 w12
 )
 ) w6
 )

theorem tieZ101 (c_stretch_Set_Count : ∀ (a0 : (Option Addr)) (a1 : Int) (a2 : Int) (K : Int → World → Prop) (w : World), Prop) (x : ArgsV [.one (.ptr), .one (.int .u64), .one (.int .u64), .one (.bool), .one (.int .i64)]) (K Kp : Value → World → Prop) (w : World) : T0.radix_Tree_looked env c_stretch_Set_Count x.1 x.2.1 x.2.2.1 x.2.2.2.1 x.2.2.2.2.1 (fun r1 w' => K (.int .i64 r1) w') w =
 ev Tryz.prog (tabC [(76, fun args w K Kp => unArgs [.one (.ptr), .one (.int .u64), .one (.int .u64)] args.toList fun x => c_stretch_Set_Count x.1 x.2.1 x.2.2.1 (fun r1 w' => K (.int .u64 r1) w') w)]) (ground Tryz.prog) ann101 body101 (finQ Tryz.prog Tryz.f101 K Kp) (initF (mkArgs [.one (.ptr), .one (.int .u64), .one (.int .u64), .one (.bool), .one (.int .i64)] x)) w := by kernel_rfl
theorem tie101 (x : ArgsV [.one (.ptr), .one (.int .u64), .one (.int .u64), .one (.bool), .one (.int .i64)]) (K Kp : Value → World → Prop) (w : World) : F.radix_Tree_looked env x.1 x.2.1 x.2.2.1 x.2.2.2.1 x.2.2.2.2.1 (fun r1 w' => K (.int .i64 r1) w') w =
 ev Tryz.prog (tabC [(76, C76)]) (ground Tryz.prog) ann101 body101 (finQ Tryz.prog Tryz.f101 K Kp) (initF (mkArgs [.one (.ptr), .one (.int .u64), .one (.int .u64), .one (.bool), .one (.int .i64)] x)) w := tieZ101 (F.stretch_Set_Count env) x K Kp w
theorem fits101 : FitsOne Tryz.prog 101 C101 :=
 fits_of_tie (T := [(76, C76)]) (A := ann101) (fn := Tryz.f101) (c := body101) (fits_cons fits76 fits_nil) mixed Tryz.func101 Tryz.call101 (by kernel_rfl) (by kernel_rfl) (by kernel_rfl) tie101

noncomputable def C124 : Entry := fun args w K Kp => unArgs [.one (.ptr), .one (.int .u64), .one (.int .u64)] args.toList fun x => F.stretch_Set_Cut env x.1 x.2.1 x.2.2.1 (fun  w' => K (.tuple ⟨[]⟩) w') w
noncomputable def body124 : Code := (Tryz.f124.body).getD .skip
def ann124 : Ann := { loops := [(5, [(7, .one (.int .i64)), (8, .one (.sl))])], joins := [(10, [(8, .one (.sl))]), (12, [(7, .one (.int .i64)), (8, .one (.sl))])] }
def T0.stretch_Set_Cut (E : Env) (c_stretch_Set_Count : ∀ (a0 : (Option Addr)) (a1 : Int) (a2 : Int) (K : Int → World → Prop) (w : World), Prop) (c_stretch_Set_at : ∀ (a0 : (Option Addr)) (a1 : Int) (K : Int → World → Prop) (w : World), Prop) (a0 : (Option Addr)) (a1 : Int) (a2 : Int) (K : World → Prop) (w : World) : Prop :=
 CND (decide ((a1 : Int) ≥ a2)) (
 K  w
 ) (
 NC a0 fun p1 =>
 ∃ x2 : Int, w.drew.cell? (p1.add 1) = some (.int .u64 x2) ∧
 c_stretch_Set_Count a0 a1 a2 (fun r3 w4 =>
 w4.cell? (p1.add 1) = some (.int .u64 x2) ∧
 NC a0 fun p5 =>
 stCells (p5.add 1) 0 [.int .u64 (u64 (x2 - r3))] w4 fun w6 =>
 c_stretch_Set_at a0 a1 (fun r7 w8 =>
 JOIN (Int × SlV × Unit) (fun J9 =>
 LOOP (Int × SlV × Unit) (r7, ⟨none, 0, 0⟩, ()) w8 fun s12 _ w13 next14 =>
 NC a0 fun p15 =>
 ∃ x16 : SlV, w13.cell? p15 = some (.slice x16.base x16.len x16.cap) ∧
 CND (decide ((s12.1 : Int) < ((x16.len : Nat) : Int))) (
 NC a0 fun p17 =>
 ∃ x18 : SlV, w13.cell? p17 = some (.slice x18.base x18.len x18.cap) ∧
 NC x18.base fun p19 =>
 ((0 : Int) ≤ s12.1 ∧ (s12.1 : Int) < (x18.len : Nat)) ∧
 ∃ x20 : Int, w13.cell? (p19.add (Int.toNat s12.1 * 2)) = some (.int .u64 x20) ∧
 CND (decide ((x20 : Int) < a2)) (
 NC a0 fun p21 =>
 ∃ x22 : SlV, w13.cell? p21 = some (.slice x22.base x22.len x22.cap) ∧
 NC x22.base fun p23 =>
 ((0 : Int) ≤ s12.1 ∧ (s12.1 : Int) < (x22.len : Nat)) ∧
 ∃ c24 : Int, w13.cell? ((p23.add (Int.toNat s12.1 * 2)).add 0) = some (.int .u64 c24) ∧
 ∃ c25 : Int, w13.cell? ((p23.add (Int.toNat s12.1 * 2)).add 1) = some (.int .u64 c25) ∧
 AL (.cells #[.int .u64 0, .int .u64 0] E.t_stretch_One) w13 fun b26 w27 =>
 stCells (Addr.mk b26 0 none) 0 [.int .u64 c24, .int .u64 c25] w27 fun w28 =>
 JOIN (SlV × Unit) (fun J29 =>
 ∃ x32 : Int, w28.cell? (Addr.mk b26 0 none) = some (.int .u64 x32) ∧
 CND (decide ((x32 : Int) < a1)) (
 ∃ x33 : Int, w28.cell? (Addr.mk b26 0 none) = some (.int .u64 x33) ∧
 AL (.cells ⟨[.int .u64 x33, .int .u64 a1]⟩ E.t_stretch_One) w28 fun b34 w35 =>
 APP E.t_stretch_One 2 16 #[.int .u64 0, .int .u64 0] s12.2.1 ⟨(some (Addr.mk b34 0 none)), 1, 1⟩ w35 fun s36 w37 =>
 J29 (s36, ()) w37
 ) (
 J29 (s12.2.1, ()) w28
 )
 ) fun s30 _ w31 =>
 ∃ x38 : Int, w31.cell? ((Addr.mk b26 0 none).add 1) = some (.int .u64 x38) ∧
 CND (decide ((x38 : Int) > a2)) (
 ∃ x39 : Int, w31.cell? ((Addr.mk b26 0 none).add 1) = some (.int .u64 x39) ∧
 AL (.cells ⟨[.int .u64 a2, .int .u64 x39]⟩ E.t_stretch_One) w31 fun b40 w41 =>
 APP E.t_stretch_One 2 16 #[.int .u64 0, .int .u64 0] s30.1 ⟨(some (Addr.mk b40 0 none)), 1, 1⟩ w41 fun s42 w43 =>
 next14 (i64 (s12.1 + 1), s42, ()) w43
 ) (
 next14 (i64 (s12.1 + 1), s30.1, ()) w31
 )
 ) (
 J9 (s12.1, s12.2.1, ()) w13
 )
 ) (
 J9 (s12.1, s12.2.1, ()) w13
 )
 ) fun s10 _ w11 =>
 NC a0 fun p44 =>
 ∃ x45 : SlV, w11.drew.cell? p44 = some (.slice x45.base x45.len x45.cap) ∧
 ((0 : Int) ≤ r7 ∧ (r7 : Int) ≤ (x45.cap : Nat)) ∧
 NC a0 fun p46 =>
 ∃ x47 : SlV, w11.drew.cell? p46 = some (.slice x47.base x47.len x47.cap) ∧
 ((0 : Int) ≤ s10.1 ∧ (s10.1 : Int) ≤ (x47.len : Nat)) ∧
 AL (.cells ⟨[]⟩ E.t_stretch_One) w11.drew fun b48 w49 =>
 w49.cell? p46 = some (.slice x47.base x47.len x47.cap) ∧
 w49.cell? p44 = some (.slice x45.base x45.len x45.cap) ∧
 APP E.t_stretch_One 2 16 #[.int .u64 0, .int .u64 0] ⟨(some (Addr.mk b48 0 none)), 0, 0⟩ ⟨(slB x45.base x45.cap 0 2), (Int.toNat r7), x45.cap⟩ w49 fun s50 w51 =>
 w51.cell? p46 = some (.slice x47.base x47.len x47.cap) ∧
 w51.cell? p44 = some (.slice x45.base x45.len x45.cap) ∧
 APP E.t_stretch_One 2 16 #[.int .u64 0, .int .u64 0] s50 s10.2.1 w51 fun s52 w53 =>
 w53.cell? p46 = some (.slice x47.base x47.len x47.cap) ∧
 w53.cell? p44 = some (.slice x45.base x45.len x45.cap) ∧
 APP E.t_stretch_One 2 16 #[.int .u64 0, .int .u64 0] s52 ⟨(slB x47.base x47.cap (Int.toNat s10.1) 2), (x47.len - (Int.toNat s10.1)), (x47.cap - (Int.toNat s10.1))⟩ w53 fun s54 w55 =>
 w55.cell? p46 = some (.slice x47.base x47.len x47.cap) ∧
 w55.cell? p44 = some (.slice x45.base x45.len x45.cap) ∧
 NC a0 fun p56 =>
 stCells p56 0 [.slice s54.base s54.len s54.cap] w55 fun w57 =>
 K  w57
 ) w6
 ) w.drew
 )

theorem tieZ124 (c_stretch_Set_Count : ∀ (a0 : (Option Addr)) (a1 : Int) (a2 : Int) (K : Int → World → Prop) (w : World), Prop) (c_stretch_Set_at : ∀ (a0 : (Option Addr)) (a1 : Int) (K : Int → World → Prop) (w : World), Prop) (x : ArgsV [.one (.ptr), .one (.int .u64), .one (.int .u64)]) (K Kp : Value → World → Prop) (w : World) : T0.stretch_Set_Cut env c_stretch_Set_Count c_stretch_Set_at x.1 x.2.1 x.2.2.1 (fun  w' => K (.tuple ⟨[]⟩) w') w =
 ev Tryz.prog (tabC [(76, fun args w K Kp => unArgs [.one (.ptr), .one (.int .u64), .one (.int .u64)] args.toList fun x => c_stretch_Set_Count x.1 x.2.1 x.2.2.1 (fun r1 w' => K (.int .u64 r1) w') w), (83, fun args w K Kp => unArgs [.one (.ptr), .one (.int .u64)] args.toList fun x => c_stretch_Set_at x.1 x.2.1 (fun r1 w' => K (.int .i64 r1) w') w)]) (ground Tryz.prog) ann124 body124 (finQ Tryz.prog Tryz.f124 K Kp) (initF (mkArgs [.one (.ptr), .one (.int .u64), .one (.int .u64)] x)) w := by kernel_rfl
theorem tie124 (x : ArgsV [.one (.ptr), .one (.int .u64), .one (.int .u64)]) (K Kp : Value → World → Prop) (w : World) : F.stretch_Set_Cut env x.1 x.2.1 x.2.2.1 (fun  w' => K (.tuple ⟨[]⟩) w') w =
 ev Tryz.prog (tabC [(76, C76), (83, C83)]) (ground Tryz.prog) ann124 body124 (finQ Tryz.prog Tryz.f124 K Kp) (initF (mkArgs [.one (.ptr), .one (.int .u64), .one (.int .u64)] x)) w := tieZ124 (F.stretch_Set_Count env) (F.stretch_Set_at env) x K Kp w
theorem fits124 : FitsOne Tryz.prog 124 C124 :=
 fits_of_tie (T := [(76, C76), (83, C83)]) (A := ann124) (fn := Tryz.f124) (c := body124) (fits_cons fits76 (fits_cons fits83 fits_nil)) mixed Tryz.func124 Tryz.call124 (by kernel_rfl) (by kernel_rfl) (by kernel_rfl) tie124

noncomputable def C117 : Entry := fun args w K Kp => unArgs [.one (.ptr), .one (.int .u64), .one (.int .u64)] args.toList fun x => F.radix_Tree_Take env x.1 x.2.1 x.2.2.1 (fun r1 r2 w' => K (.tuple ⟨[.int .u64 r1, .int .i64 r2]⟩) w') w
noncomputable def body117 : Code := (Tryz.f117.body).getD .skip
def ann117 : Ann := { loops := [], joins := [] }
def T0.radix_Tree_Take (E : Env) (c_radix_Tree_looked : ∀ (a0 : (Option Addr)) (a1 : Int) (a2 : Int) (a3 : Bool) (a4 : Int) (K : Int → World → Prop) (w : World), Prop) (c_stretch_Set_Count : ∀ (a0 : (Option Addr)) (a1 : Int) (a2 : Int) (K : Int → World → Prop) (w : World), Prop) (c_stretch_Set_Cut : ∀ (a0 : (Option Addr)) (a1 : Int) (a2 : Int) (K : World → Prop) (w : World), Prop) (c_radix_Tree_changed : ∀ (a0 : (Option Addr)) (K : World → Prop) (w : World), Prop) (a0 : (Option Addr)) (a1 : Int) (a2 : Int) (K : Int → Int → World → Prop) (w : World) : Prop :=
 c_radix_Tree_looked a0 a1 a2 true 32 (fun r1 w2 =>
 CND ((r1 : Int) != 0) (
 K 0 r1 w2
 ) (
 NC a0 fun p3 =>
 c_stretch_Set_Count (some (p3.add 4)) a1 (u64 (a1 + a2)) (fun r4 w5 =>
 NC a0 fun p6 =>
 c_stretch_Set_Cut (some (p6.add 2)) a1 (u64 (a1 + a2)) (fun  w7 =>
 NC a0 fun p8 =>
 c_stretch_Set_Cut (some (p8.add 4)) a1 (u64 (a1 + a2)) (fun  w9 =>
 NC a0 fun p10 =>
 c_stretch_Set_Cut (some (p10.add 6)) a1 (u64 (a1 + a2)) (fun  w11 =>
 c_radix_Tree_changed a0 (fun  w12 =>
 K r4 0 w12
 ) w11
 ) w9
 ) w7
 ) w5
 ) w2
 )
 ) w

theorem tieZ117 (c_radix_Tree_looked : ∀ (a0 : (Option Addr)) (a1 : Int) (a2 : Int) (a3 : Bool) (a4 : Int) (K : Int → World → Prop) (w : World), Prop) (c_stretch_Set_Count : ∀ (a0 : (Option Addr)) (a1 : Int) (a2 : Int) (K : Int → World → Prop) (w : World), Prop) (c_stretch_Set_Cut : ∀ (a0 : (Option Addr)) (a1 : Int) (a2 : Int) (K : World → Prop) (w : World), Prop) (c_radix_Tree_changed : ∀ (a0 : (Option Addr)) (K : World → Prop) (w : World), Prop) (x : ArgsV [.one (.ptr), .one (.int .u64), .one (.int .u64)]) (K Kp : Value → World → Prop) (w : World) : T0.radix_Tree_Take env c_radix_Tree_looked c_stretch_Set_Count c_stretch_Set_Cut c_radix_Tree_changed x.1 x.2.1 x.2.2.1 (fun r1 r2 w' => K (.tuple ⟨[.int .u64 r1, .int .i64 r2]⟩) w') w =
 ev Tryz.prog (tabC [(101, fun args w K Kp => unArgs [.one (.ptr), .one (.int .u64), .one (.int .u64), .one (.bool), .one (.int .i64)] args.toList fun x => c_radix_Tree_looked x.1 x.2.1 x.2.2.1 x.2.2.2.1 x.2.2.2.2.1 (fun r1 w' => K (.int .i64 r1) w') w), (76, fun args w K Kp => unArgs [.one (.ptr), .one (.int .u64), .one (.int .u64)] args.toList fun x => c_stretch_Set_Count x.1 x.2.1 x.2.2.1 (fun r1 w' => K (.int .u64 r1) w') w), (124, fun args w K Kp => unArgs [.one (.ptr), .one (.int .u64), .one (.int .u64)] args.toList fun x => c_stretch_Set_Cut x.1 x.2.1 x.2.2.1 (fun  w' => K (.tuple ⟨[]⟩) w') w), (67, fun args w K Kp => unArgs [.one (.ptr)] args.toList fun x => c_radix_Tree_changed x.1 (fun  w' => K (.tuple ⟨[]⟩) w') w)]) (ground Tryz.prog) ann117 body117 (finQ Tryz.prog Tryz.f117 K Kp) (initF (mkArgs [.one (.ptr), .one (.int .u64), .one (.int .u64)] x)) w := by kernel_rfl
theorem tie117 (x : ArgsV [.one (.ptr), .one (.int .u64), .one (.int .u64)]) (K Kp : Value → World → Prop) (w : World) : F.radix_Tree_Take env x.1 x.2.1 x.2.2.1 (fun r1 r2 w' => K (.tuple ⟨[.int .u64 r1, .int .i64 r2]⟩) w') w =
 ev Tryz.prog (tabC [(101, C101), (76, C76), (124, C124), (67, C67)]) (ground Tryz.prog) ann117 body117 (finQ Tryz.prog Tryz.f117 K Kp) (initF (mkArgs [.one (.ptr), .one (.int .u64), .one (.int .u64)] x)) w := tieZ117 (F.radix_Tree_looked env) (F.stretch_Set_Count env) (F.stretch_Set_Cut env) (F.radix_Tree_changed env) x K Kp w
theorem fits117 : FitsOne Tryz.prog 117 C117 :=
 fits_of_tie (T := [(101, C101), (76, C76), (124, C124), (67, C67)]) (A := ann117) (fn := Tryz.f117) (c := body117) (fits_cons fits101 (fits_cons fits76 (fits_cons fits124 (fits_cons fits67 fits_nil)))) mixed Tryz.func117 Tryz.call117 (by kernel_rfl) (by kernel_rfl) (by kernel_rfl) tie117

noncomputable def C111 : Entry := fun args w K Kp => unArgs [.one (.ptr), .one (.ptr)] args.toList fun x => F.pcache_Cache_Fill env x.1 x.2.1 (fun r1 w' => K (.int .i64 r1) w') w
noncomputable def body111 : Code := (Tryz.f111.body).getD .skip
def ann111 : Ann := { loops := [(8, [(28, .one (.int .u64))])], joins := [] }
def T0.pcache_Cache_Fill (E : Env) (c_radix_Tree_Find : ∀ (a0 : (Option Addr)) (a1 : Int) (K : Int → Bool → World → Prop) (w : World), Prop) (c_pcache_Cache_Empty : ∀ (a0 : (Option Addr)) (K : Bool → World → Prop) (w : World), Prop) (c_radix_Tree_Take : ∀ (a0 : (Option Addr)) (a1 : Int) (a2 : Int) (K : Int → Int → World → Prop) (w : World), Prop) (a0 : (Option Addr)) (a1 : (Option Addr)) (K : Int → World → Prop) (w : World) : Prop :=
 c_radix_Tree_Find a1 1 (fun r1 r2 w3 =>
 c_pcache_Cache_Empty a0 (fun r4 w5 =>
 CND (!r4) (
 K 33 w5
 ) (
 CND (!r2) (
 K 30 w5
 ) (
 64 ≠ (0 : Int) ∧
 NC a0 fun p6 =>
 stCells p6 0 [.int .u64 (u64 ((u64 (Int.tdiv r1 64)) * 64))] w5 fun w7 =>
 LOOP (Int × Unit) (0, ()) w7 fun s8 _ w9 next10 =>
 CND (decide ((s8.1 : Int) < 64)) (
 NC a0 fun p11 =>
 ∃ x12 : Int, w9.cell? p11 = some (.int .u64 x12) ∧
 c_radix_Tree_Take a1 (u64 (x12 + s8.1)) 1 (fun r13 r14 w15 =>
 CND ((r14 : Int) == 0) (
 NC a0 fun p16 =>
 ∃ x17 : Int, w15.cell? (p16.add 1) = some (.int .u64 x17) ∧
 (0 : Int) ≤ s8.1 ∧
 NC a0 fun p18 =>
 stCells (p18.add 1) 0 [.int .u64 (bitK .u64 1 x17 (u64 (1 * 2 ^ (min (Int.toNat s8.1) (IntKind.bits .u64)))))] w15 fun w19 =>
 NC a0 fun p20 =>
 ∃ x21 : Int, w19.cell? (p20.add 2) = some (.int .u64 x21) ∧
 (0 : Int) ≤ s8.1 ∧
 NC a0 fun p22 =>
 stCells (p22.add 2) 0 [.int .u64 (bitK .u64 1 x21 (u64 (r13 * 2 ^ (min (Int.toNat s8.1) (IntKind.bits .u64)))))] w19 fun w23 =>
 next10 (u64 (s8.1 + 1), ()) w23
 ) (
 next10 (u64 (s8.1 + 1), ()) w15
 )
 ) w9
 ) (
 K 0 w9
 )
 )
 )
 ) w3
 ) w

theorem tieZ111 (c_radix_Tree_Find : ∀ (a0 : (Option Addr)) (a1 : Int) (K : Int → Bool → World → Prop) (w : World), Prop) (c_pcache_Cache_Empty : ∀ (a0 : (Option Addr)) (K : Bool → World → Prop) (w : World), Prop) (c_radix_Tree_Take : ∀ (a0 : (Option Addr)) (a1 : Int) (a2 : Int) (K : Int → Int → World → Prop) (w : World), Prop) (x : ArgsV [.one (.ptr), .one (.ptr)]) (K Kp : Value → World → Prop) (w : World) : T0.pcache_Cache_Fill env c_radix_Tree_Find c_pcache_Cache_Empty c_radix_Tree_Take x.1 x.2.1 (fun r1 w' => K (.int .i64 r1) w') w =
 ev Tryz.prog (tabC [(116, fun args w K Kp => unArgs [.one (.ptr), .one (.int .u64)] args.toList fun x => c_radix_Tree_Find x.1 x.2.1 (fun r1 r2 w' => K (.tuple ⟨[.int .u64 r1, .bool r2]⟩) w') w), (63, fun args w K Kp => unArgs [.one (.ptr)] args.toList fun x => c_pcache_Cache_Empty x.1 (fun r1 w' => K (.bool r1) w') w), (117, fun args w K Kp => unArgs [.one (.ptr), .one (.int .u64), .one (.int .u64)] args.toList fun x => c_radix_Tree_Take x.1 x.2.1 x.2.2.1 (fun r1 r2 w' => K (.tuple ⟨[.int .u64 r1, .int .i64 r2]⟩) w') w)]) (ground Tryz.prog) ann111 body111 (finQ Tryz.prog Tryz.f111 K Kp) (initF (mkArgs [.one (.ptr), .one (.ptr)] x)) w := by kernel_rfl
theorem tie111 (x : ArgsV [.one (.ptr), .one (.ptr)]) (K Kp : Value → World → Prop) (w : World) : F.pcache_Cache_Fill env x.1 x.2.1 (fun r1 w' => K (.int .i64 r1) w') w =
 ev Tryz.prog (tabC [(116, C116), (63, C63), (117, C117)]) (ground Tryz.prog) ann111 body111 (finQ Tryz.prog Tryz.f111 K Kp) (initF (mkArgs [.one (.ptr), .one (.ptr)] x)) w := tieZ111 (F.radix_Tree_Find env) (F.pcache_Cache_Empty env) (F.radix_Tree_Take env) x K Kp w
theorem fits111 : FitsOne Tryz.prog 111 C111 :=
 fits_of_tie (T := [(116, C116), (63, C63), (117, C117)]) (A := ann111) (fn := Tryz.f111) (c := body111) (fits_cons fits116 (fits_cons fits63 (fits_cons fits117 fits_nil))) mixed Tryz.func111 Tryz.call111 (by kernel_rfl) (by kernel_rfl) (by kernel_rfl) tie111

noncomputable def C126 : Entry := fun args w K Kp => unArgs [.one (.int .u64), .one (.int .i64)] args.toList fun x => F.pcache_find env x.1 x.2.1 (fun r1 r2 w' => K (.tuple ⟨[.int .i64 r1, .bool r2]⟩) w') w
noncomputable def body126 : Code := (Tryz.f126.body).getD .skip
def ann126 : Ann := { loops := [(2, [(0, .one (.int .u64)), (1, .one (.int .i64)), (6, .one (.int .i64))])], joins := [] }
def T0.pcache_find (E : Env) (c_math_bits_TrailingZeros64 : ∀ (a0 : Int) (K : Int → World → Prop) (w : World), Prop) (a0 : Int) (a1 : Int) (K : Int → Bool → World → Prop) (w : World) : Prop :=
 LOOP (Int × Int × Int × Unit) (a0, a1, i64 (a1 - 1), ()) w fun s1 _ w2 next3 =>
 CND (decide ((s1.2.2.1 : Int) > 0)) (
 2 ≠ (0 : Int) ∧
 LET (minI s1.2.2.1 (maxI 1 (i64 (Int.tdiv s1.2.1 2))) : Int) fun by_4 =>
 (0 : Int) ≤ by_4 ∧
 LET (bitK .u64 0 s1.1 (Int.fdiv s1.1 (2 ^ (min (Int.toNat by_4) (IntKind.bits .u64)))) : Int) fun w_5 =>
 next3 (w_5, i64 (s1.2.1 - by_4), i64 (s1.2.2.1 - by_4), ()) w2
 ) (
 c_math_bits_TrailingZeros64 s1.1 (fun r6 w7 =>
 K r6 ((s1.1 : Int) != 0) w7
 ) w2
 )

theorem tieZ126 (c_math_bits_TrailingZeros64 : ∀ (a0 : Int) (K : Int → World → Prop) (w : World), Prop) (x : ArgsV [.one (.int .u64), .one (.int .i64)]) (K Kp : Value → World → Prop) (w : World) : T0.pcache_find env c_math_bits_TrailingZeros64 x.1 x.2.1 (fun r1 r2 w' => K (.tuple ⟨[.int .i64 r1, .bool r2]⟩) w') w =
 ev Tryz.prog (tabC [(47, fun args w K Kp => unArgs [.one (.int .u64)] args.toList fun x => c_math_bits_TrailingZeros64 x.1 (fun r1 w' => K (.int .i64 r1) w') w)]) (ground Tryz.prog) ann126 body126 (finQ Tryz.prog Tryz.f126 K Kp) (initF (mkArgs [.one (.int .u64), .one (.int .i64)] x)) w := by kernel_rfl
theorem tie126 (x : ArgsV [.one (.int .u64), .one (.int .i64)]) (K Kp : Value → World → Prop) (w : World) : F.pcache_find env x.1 x.2.1 (fun r1 r2 w' => K (.tuple ⟨[.int .i64 r1, .bool r2]⟩) w') w =
 ev Tryz.prog (tabC [(47, C47)]) (ground Tryz.prog) ann126 body126 (finQ Tryz.prog Tryz.f126 K Kp) (initF (mkArgs [.one (.int .u64), .one (.int .i64)] x)) w := tieZ126 (F.math_bits_TrailingZeros64 env) x K Kp w
theorem fits126 : FitsOne Tryz.prog 126 C126 :=
 fits_of_tie (T := [(47, C47)]) (A := ann126) (fn := Tryz.f126) (c := body126) (fits_cons fits47 fits_nil) mixed Tryz.func126 Tryz.call126 (by kernel_rfl) (by kernel_rfl) (by kernel_rfl) tie126

noncomputable def C127 : Entry := fun args w K Kp => unArgs [.one (.int .u64)] args.toList fun x => F.math_bits_OnesCount64 env x.1 (fun r1 w' => K (.int .i64 r1) w') w
noncomputable def body127 : Code := (Tryz.f127.body).getD .skip
def ann127 : Ann := { loops := [], joins := [] }
theorem tie127 (x : ArgsV [.one (.int .u64)]) (K Kp : Value → World → Prop) (w : World) : F.math_bits_OnesCount64 env x.1 (fun r1 w' => K (.int .i64 r1) w') w =
 ev Tryz.prog (tabC []) (ground Tryz.prog) ann127 body127 (finQ Tryz.prog Tryz.f127 K Kp) (initF (mkArgs [.one (.int .u64)] x)) w := by kernel_rfl
theorem fits127 : FitsOne Tryz.prog 127 C127 :=
 fits_of_tie (T := []) (A := ann127) (fn := Tryz.f127) (c := body127) fits_nil mixed Tryz.func127 Tryz.call127 (by kernel_rfl) (by kernel_rfl) (by kernel_rfl) tie127

noncomputable def C112 : Entry := fun args w K Kp => unArgs [.one (.ptr), .one (.int .i64)] args.toList fun x => F.pcache_Cache_Alloc env x.1 x.2.1 (fun r1 r2 r3 w' => K (.tuple ⟨[.int .u64 r1, .int .i64 r2, .int .i64 r3]⟩) w') w
noncomputable def body112 : Code := (Tryz.f112.body).getD .skip
def ann112 : Ann := { loops := [], joins := [(2, [(16, .one (.bool))])] }
def T0.pcache_Cache_Alloc (E : Env) (c_pcache_find : ∀ (a0 : Int) (a1 : Int) (K : Int → Bool → World → Prop) (w : World), Prop) (c_math_bits_OnesCount64 : ∀ (a0 : Int) (K : Int → World → Prop) (w : World), Prop) (a0 : (Option Addr)) (a1 : Int) (K : Int → Int → Int → World → Prop) (w : World) : Prop :=
 JOIN (Bool × Unit) (fun J1 =>
 CND (decide ((a1 : Int) < 1)) (
 J1 (true, ()) w
 ) (
 J1 (decide ((a1 : Int) > 64), ()) w
 )
 ) fun s2 _ w3 =>
 CND (s2.1) (
 K 0 0 1 w3
 ) (
 NC a0 fun p4 =>
 ∃ x5 : Int, w3.cell? (p4.add 1) = some (.int .u64 x5) ∧
 c_pcache_find x5 a1 (fun r6 r7 w8 =>
 CND (!r7) (
 K 0 0 30 w8
 ) (
 (0 : Int) ≤ (i64 (64 - a1)) ∧
 (0 : Int) ≤ r6 ∧
 LET (u64 ((Int.fdiv 18446744073709551615 (2 ^ (min (Int.toNat (i64 (64 - a1))) (IntKind.bits .u64)))) * 2 ^ (min (Int.toNat r6) (IntKind.bits .u64))) : Int) fun mask_9 =>
 NC a0 fun p10 =>
 ∃ x11 : Int, w8.cell? (p10.add 2) = some (.int .u64 x11) ∧
 c_math_bits_OnesCount64 (bitK .u64 0 x11 mask_9) (fun r12 w13 =>
 NC a0 fun p14 =>
 ∃ x15 : Int, w13.cell? (p14.add 1) = some (.int .u64 x15) ∧
 NC a0 fun p16 =>
 stCells (p16.add 1) 0 [.int .u64 (bitK .u64 3 x15 mask_9)] w13 fun w17 =>
 NC a0 fun p18 =>
 ∃ x19 : Int, w17.cell? (p18.add 2) = some (.int .u64 x19) ∧
 NC a0 fun p20 =>
 stCells (p20.add 2) 0 [.int .u64 (bitK .u64 3 x19 mask_9)] w17 fun w21 =>
 NC a0 fun p22 =>
 ∃ x23 : Int, w21.cell? p22 = some (.int .u64 x23) ∧
 K (u64 (x23 + (u64 (r6)))) r12 0 w21
 ) w8
 )
 ) w3
 )

theorem tieZ112 (c_pcache_find : ∀ (a0 : Int) (a1 : Int) (K : Int → Bool → World → Prop) (w : World), Prop) (c_math_bits_OnesCount64 : ∀ (a0 : Int) (K : Int → World → Prop) (w : World), Prop) (x : ArgsV [.one (.ptr), .one (.int .i64)]) (K Kp : Value → World → Prop) (w : World) : T0.pcache_Cache_Alloc env c_pcache_find c_math_bits_OnesCount64 x.1 x.2.1 (fun r1 r2 r3 w' => K (.tuple ⟨[.int .u64 r1, .int .i64 r2, .int .i64 r3]⟩) w') w =
 ev Tryz.prog (tabC [(126, fun args w K Kp => unArgs [.one (.int .u64), .one (.int .i64)] args.toList fun x => c_pcache_find x.1 x.2.1 (fun r1 r2 w' => K (.tuple ⟨[.int .i64 r1, .bool r2]⟩) w') w), (127, fun args w K Kp => unArgs [.one (.int .u64)] args.toList fun x => c_math_bits_OnesCount64 x.1 (fun r1 w' => K (.int .i64 r1) w') w)]) (ground Tryz.prog) ann112 body112 (finQ Tryz.prog Tryz.f112 K Kp) (initF (mkArgs [.one (.ptr), .one (.int .i64)] x)) w := by kernel_rfl
theorem tie112 (x : ArgsV [.one (.ptr), .one (.int .i64)]) (K Kp : Value → World → Prop) (w : World) : F.pcache_Cache_Alloc env x.1 x.2.1 (fun r1 r2 r3 w' => K (.tuple ⟨[.int .u64 r1, .int .i64 r2, .int .i64 r3]⟩) w') w =
 ev Tryz.prog (tabC [(126, C126), (127, C127)]) (ground Tryz.prog) ann112 body112 (finQ Tryz.prog Tryz.f112 K Kp) (initF (mkArgs [.one (.ptr), .one (.int .i64)] x)) w := tieZ112 (F.pcache_find env) (F.math_bits_OnesCount64 env) x K Kp w
theorem fits112 : FitsOne Tryz.prog 112 C112 :=
 fits_of_tie (T := [(126, C126), (127, C127)]) (A := ann112) (fn := Tryz.f112) (c := body112) (fits_cons fits126 (fits_cons fits127 fits_nil)) mixed Tryz.func112 Tryz.call112 (by kernel_rfl) (by kernel_rfl) (by kernel_rfl) tie112

noncomputable def C96 : Entry := fun args w K Kp => unArgs [.one (.ptr), .one (.int .u64)] args.toList fun x => F.radix_Tree_Alloc env x.1 x.2.1 (fun r1 r2 r3 w' => K (.tuple ⟨[.int .u64 r1, .int .u64 r2, .int .i64 r3]⟩) w') w
noncomputable def body96 : Code := (Tryz.f96.body).getD .skip
def ann96 : Ann := { loops := [], joins := [] }
def T0.radix_Tree_Alloc (E : Env) (c_radix_Tree_Find : ∀ (a0 : (Option Addr)) (a1 : Int) (K : Int → Bool → World → Prop) (w : World), Prop) (c_radix_Tree_Take : ∀ (a0 : (Option Addr)) (a1 : Int) (a2 : Int) (K : Int → Int → World → Prop) (w : World), Prop) (a0 : (Option Addr)) (a1 : Int) (K : Int → Int → Int → World → Prop) (w : World) : Prop :=
 CND ((a1 : Int) == 0) (
 K 0 0 1 w
 ) (
 c_radix_Tree_Find a0 a1 (fun r1 r2 w3 =>
 CND (!r2) (
 K 0 0 30 w3
 ) (
 c_radix_Tree_Take a0 r1 a1 (fun r4 r5 w6 =>
 K r1 r4 r5 w6
 ) w3
 )
 ) w
 )

theorem tieZ96 (c_radix_Tree_Find : ∀ (a0 : (Option Addr)) (a1 : Int) (K : Int → Bool → World → Prop) (w : World), Prop) (c_radix_Tree_Take : ∀ (a0 : (Option Addr)) (a1 : Int) (a2 : Int) (K : Int → Int → World → Prop) (w : World), Prop) (x : ArgsV [.one (.ptr), .one (.int .u64)]) (K Kp : Value → World → Prop) (w : World) : T0.radix_Tree_Alloc env c_radix_Tree_Find c_radix_Tree_Take x.1 x.2.1 (fun r1 r2 r3 w' => K (.tuple ⟨[.int .u64 r1, .int .u64 r2, .int .i64 r3]⟩) w') w =
 ev Tryz.prog (tabC [(116, fun args w K Kp => unArgs [.one (.ptr), .one (.int .u64)] args.toList fun x => c_radix_Tree_Find x.1 x.2.1 (fun r1 r2 w' => K (.tuple ⟨[.int .u64 r1, .bool r2]⟩) w') w), (117, fun args w K Kp => unArgs [.one (.ptr), .one (.int .u64), .one (.int .u64)] args.toList fun x => c_radix_Tree_Take x.1 x.2.1 x.2.2.1 (fun r1 r2 w' => K (.tuple ⟨[.int .u64 r1, .int .i64 r2]⟩) w') w)]) (ground Tryz.prog) ann96 body96 (finQ Tryz.prog Tryz.f96 K Kp) (initF (mkArgs [.one (.ptr), .one (.int .u64)] x)) w := by kernel_rfl
theorem tie96 (x : ArgsV [.one (.ptr), .one (.int .u64)]) (K Kp : Value → World → Prop) (w : World) : F.radix_Tree_Alloc env x.1 x.2.1 (fun r1 r2 r3 w' => K (.tuple ⟨[.int .u64 r1, .int .u64 r2, .int .i64 r3]⟩) w') w =
 ev Tryz.prog (tabC [(116, C116), (117, C117)]) (ground Tryz.prog) ann96 body96 (finQ Tryz.prog Tryz.f96 K Kp) (initF (mkArgs [.one (.ptr), .one (.int .u64)] x)) w := tieZ96 (F.radix_Tree_Find env) (F.radix_Tree_Take env) x K Kp w
theorem fits96 : FitsOne Tryz.prog 96 C96 :=
 fits_of_tie (T := [(116, C116), (117, C117)]) (A := ann96) (fn := Tryz.f96) (c := body96) (fits_cons fits116 (fits_cons fits117 fits_nil)) mixed Tryz.func96 Tryz.call96 (by kernel_rfl) (by kernel_rfl) (by kernel_rfl) tie96

noncomputable def C94 : Entry := fun args w K Kp => unArgs [.one (.ptr), .one (.int .i64), .one (.int .u64)] args.toList fun x => F.mheap_Heap_got env x.1 x.2.1 x.2.2.1 (fun r1 r2 w' => K (.tuple ⟨[.int .u64 r1, .bool r2]⟩) w') w
noncomputable def body94 : Code := (Tryz.f94.body).getD .skip
def ann94 : Ann := { loops := [], joins := [(2, [(20, .one (.bool))]), (5, []), (8, [])] }
def T0.mheap_Heap_got (E : Env) (c_mheap_is : ∀ (a0 : Int) (K : Bool → World → Prop) (w : World), Prop) (c_pcache_Cache_Empty : ∀ (a0 : (Option Addr)) (K : Bool → World → Prop) (w : World), Prop) (c_pcache_Cache_Fill : ∀ (a0 : (Option Addr)) (a1 : (Option Addr)) (K : Int → World → Prop) (w : World), Prop) (c_pcache_Cache_Alloc : ∀ (a0 : (Option Addr)) (a1 : Int) (K : Int → Int → Int → World → Prop) (w : World), Prop) (c_radix_Tree_Alloc : ∀ (a0 : (Option Addr)) (a1 : Int) (K : Int → Int → Int → World → Prop) (w : World), Prop) (a0 : (Option Addr)) (a1 : Int) (a2 : Int) (K : Int → Bool → World → Prop) (w : World) : Prop :=
 JOIN (Unit) (fun J1 =>
 JOIN (Bool × Unit) (fun J4 =>
 c_mheap_is a1 (fun r7 w8 =>
 CND (r7) (
 J4 (decide ((a2 : Int) < 16), ()) w8
 ) (
 J4 (false, ()) w8
 )
 ) w
 ) fun s5 _ w6 =>
 CND (s5.1) (
 NC a0 fun p9 =>
 ((0 : Int) ≤ a1 ∧ (a1 : Int) < (64 : Nat)) ∧
 ∃ x10 : (Option Addr), w6.cell? ((p9.add 5).add (Int.toNat a1 * 1)) = some (.pointer x10) ∧
 JOIN (Unit) (fun J11 =>
 c_pcache_Cache_Empty x10 (fun r14 w15 =>
 CND (r14) (
 NC a0 fun p16 =>
 ∃ x17 : (Option Addr), w15.cell? (p16.add 1) = some (.pointer x17) ∧
 c_pcache_Cache_Fill x10 x17 (fun r18 w19 =>
 J11 (()) w19
 ) w15
 ) (
 J11 (()) w15
 )
 ) w6
 ) fun s12 _ w13 =>
 c_pcache_Cache_Alloc x10 (i64 (a2)) (fun r20 r21 r22 w23 =>
 CND ((r22 : Int) == 0) (
 K r20 true w23
 ) (
 J1 (()) w23
 )
 ) w13
 ) (
 J1 (()) w6
 )
 ) fun s2 _ w3 =>
 NC a0 fun p24 =>
 ∃ x25 : (Option Addr), w3.cell? (p24.add 1) = some (.pointer x25) ∧
 c_radix_Tree_Alloc x25 a2 (fun r26 r27 r28 w29 =>
 K r26 ((r28 : Int) == 0) w29
 ) w3

theorem tieZ94 (c_mheap_is : ∀ (a0 : Int) (K : Bool → World → Prop) (w : World), Prop) (c_pcache_Cache_Empty : ∀ (a0 : (Option Addr)) (K : Bool → World → Prop) (w : World), Prop) (c_pcache_Cache_Fill : ∀ (a0 : (Option Addr)) (a1 : (Option Addr)) (K : Int → World → Prop) (w : World), Prop) (c_pcache_Cache_Alloc : ∀ (a0 : (Option Addr)) (a1 : Int) (K : Int → Int → Int → World → Prop) (w : World), Prop) (c_radix_Tree_Alloc : ∀ (a0 : (Option Addr)) (a1 : Int) (K : Int → Int → Int → World → Prop) (w : World), Prop) (x : ArgsV [.one (.ptr), .one (.int .i64), .one (.int .u64)]) (K Kp : Value → World → Prop) (w : World) : T0.mheap_Heap_got env c_mheap_is c_pcache_Cache_Empty c_pcache_Cache_Fill c_pcache_Cache_Alloc c_radix_Tree_Alloc x.1 x.2.1 x.2.2.1 (fun r1 r2 w' => K (.tuple ⟨[.int .u64 r1, .bool r2]⟩) w') w =
 ev Tryz.prog (tabC [(110, fun args w K Kp => unArgs [.one (.int .i64)] args.toList fun x => c_mheap_is x.1 (fun r1 w' => K (.bool r1) w') w), (63, fun args w K Kp => unArgs [.one (.ptr)] args.toList fun x => c_pcache_Cache_Empty x.1 (fun r1 w' => K (.bool r1) w') w), (111, fun args w K Kp => unArgs [.one (.ptr), .one (.ptr)] args.toList fun x => c_pcache_Cache_Fill x.1 x.2.1 (fun r1 w' => K (.int .i64 r1) w') w), (112, fun args w K Kp => unArgs [.one (.ptr), .one (.int .i64)] args.toList fun x => c_pcache_Cache_Alloc x.1 x.2.1 (fun r1 r2 r3 w' => K (.tuple ⟨[.int .u64 r1, .int .i64 r2, .int .i64 r3]⟩) w') w), (96, fun args w K Kp => unArgs [.one (.ptr), .one (.int .u64)] args.toList fun x => c_radix_Tree_Alloc x.1 x.2.1 (fun r1 r2 r3 w' => K (.tuple ⟨[.int .u64 r1, .int .u64 r2, .int .i64 r3]⟩) w') w)]) (ground Tryz.prog) ann94 body94 (finQ Tryz.prog Tryz.f94 K Kp) (initF (mkArgs [.one (.ptr), .one (.int .i64), .one (.int .u64)] x)) w := by kernel_rfl
theorem tie94 (x : ArgsV [.one (.ptr), .one (.int .i64), .one (.int .u64)]) (K Kp : Value → World → Prop) (w : World) : F.mheap_Heap_got env x.1 x.2.1 x.2.2.1 (fun r1 r2 w' => K (.tuple ⟨[.int .u64 r1, .bool r2]⟩) w') w =
 ev Tryz.prog (tabC [(110, C110), (63, C63), (111, C111), (112, C112), (96, C96)]) (ground Tryz.prog) ann94 body94 (finQ Tryz.prog Tryz.f94 K Kp) (initF (mkArgs [.one (.ptr), .one (.int .i64), .one (.int .u64)] x)) w := tieZ94 (F.mheap_is env) (F.pcache_Cache_Empty env) (F.pcache_Cache_Fill env) (F.pcache_Cache_Alloc env) (F.radix_Tree_Alloc env) x K Kp w
theorem fits94 : FitsOne Tryz.prog 94 C94 :=
 fits_of_tie (T := [(110, C110), (63, C63), (111, C111), (112, C112), (96, C96)]) (A := ann94) (fn := Tryz.f94) (c := body94) (fits_cons fits110 (fits_cons fits63 (fits_cons fits111 (fits_cons fits112 (fits_cons fits96 fits_nil))))) mixed Tryz.func94 Tryz.call94 (by kernel_rfl) (by kernel_rfl) (by kernel_rfl) tie94

noncomputable def C121 : Entry := fun args w K Kp => unArgs [.one (.ptr)] args.toList fun x => F.vmem_used_bool_ env x.1 (fun r1 r2 w' => K (.tuple ⟨[.bool r1, .bool r2]⟩) w') w
noncomputable def body121 : Code := (Tryz.f121.body).getD .skip
def ann121 : Ann := { loops := [], joins := [] }
theorem tie121 (x : ArgsV [.one (.ptr)]) (K Kp : Value → World → Prop) (w : World) : F.vmem_used_bool_ env x.1 (fun r1 r2 w' => K (.tuple ⟨[.bool r1, .bool r2]⟩) w') w =
 ev Tryz.prog (tabC []) (ground Tryz.prog) ann121 body121 (finQ Tryz.prog Tryz.f121 K Kp) (initF (mkArgs [.one (.ptr)] x)) w := by kernel_rfl
theorem fits121 : FitsOne Tryz.prog 121 C121 :=
 fits_of_tie (T := []) (A := ann121) (fn := Tryz.f121) (c := body121) fits_nil mixed Tryz.func121 Tryz.call121 (by kernel_rfl) (by kernel_rfl) (by kernel_rfl) tie121

noncomputable def C123 : Entry := fun args w K Kp => unArgs [.one (.ptr)] args.toList fun x => F.vmem_used_uint64_ env x.1 (fun r1 r2 w' => K (.tuple ⟨[.int .u64 r1, .bool r2]⟩) w') w
noncomputable def body123 : Code := (Tryz.f123.body).getD .skip
def ann123 : Ann := { loops := [], joins := [] }
theorem tie123 (x : ArgsV [.one (.ptr)]) (K Kp : Value → World → Prop) (w : World) : F.vmem_used_uint64_ env x.1 (fun r1 r2 w' => K (.tuple ⟨[.int .u64 r1, .bool r2]⟩) w') w =
 ev Tryz.prog (tabC []) (ground Tryz.prog) ann123 body123 (finQ Tryz.prog Tryz.f123 K Kp) (initF (mkArgs [.one (.ptr)] x)) w := by kernel_rfl
theorem fits123 : FitsOne Tryz.prog 123 C123 :=
 fits_of_tie (T := []) (A := ann123) (fn := Tryz.f123) (c := body123) fits_nil mixed Tryz.func123 Tryz.call123 (by kernel_rfl) (by kernel_rfl) (by kernel_rfl) tie123

noncomputable def C128 : Entry := fun args w K Kp => unArgs [.one (.ptr), .one (.int .u64), .one (.int .u64)] args.toList fun x => F.vmem_Mem_fits env x.1 x.2.1 x.2.2.1 (fun r1 w' => K (.bool r1) w') w
noncomputable def body128 : Code := (Tryz.f128.body).getD .skip
def ann128 : Ann := { loops := [], joins := [] }
def T0.vmem_Mem_fits (E : Env) (c_stretch_Set_Count : ∀ (a0 : (Option Addr)) (a1 : Int) (a2 : Int) (K : Int → World → Prop) (w : World), Prop) (a0 : (Option Addr)) (a1 : Int) (a2 : Int) (K : Bool → World → Prop) (w : World) : Prop :=
 512 ≠ (0 : Int) ∧
 CND (((Int.tmod a1 512) : Int) == 0) (
 CND ((a1 : Int) != 0) (
 CND (decide ((a1 : Int) ≤ 34359738368)) (
 CND (decide ((a2 : Int) ≤ (u64 (34359738368 - a1)))) (
 NC a0 fun p1 =>
 c_stretch_Set_Count (some (p1.add 3)) a1 (u64 (a1 + a2)) (fun r2 w3 =>
 K ((r2 : Int) == 0) w3
 ) w
 ) (
 K false w
 )
 ) (
 K false w
 )
 ) (
 K false w
 )
 ) (
 K false w
 )

theorem tieZ128 (c_stretch_Set_Count : ∀ (a0 : (Option Addr)) (a1 : Int) (a2 : Int) (K : Int → World → Prop) (w : World), Prop) (x : ArgsV [.one (.ptr), .one (.int .u64), .one (.int .u64)]) (K Kp : Value → World → Prop) (w : World) : T0.vmem_Mem_fits env c_stretch_Set_Count x.1 x.2.1 x.2.2.1 (fun r1 w' => K (.bool r1) w') w =
 ev Tryz.prog (tabC [(76, fun args w K Kp => unArgs [.one (.ptr), .one (.int .u64), .one (.int .u64)] args.toList fun x => c_stretch_Set_Count x.1 x.2.1 x.2.2.1 (fun r1 w' => K (.int .u64 r1) w') w)]) (ground Tryz.prog) ann128 body128 (finQ Tryz.prog Tryz.f128 K Kp) (initF (mkArgs [.one (.ptr), .one (.int .u64), .one (.int .u64)] x)) w := by kernel_rfl
theorem tie128 (x : ArgsV [.one (.ptr), .one (.int .u64), .one (.int .u64)]) (K Kp : Value → World → Prop) (w : World) : F.vmem_Mem_fits env x.1 x.2.1 x.2.2.1 (fun r1 w' => K (.bool r1) w') w =
 ev Tryz.prog (tabC [(76, C76)]) (ground Tryz.prog) ann128 body128 (finQ Tryz.prog Tryz.f128 K Kp) (initF (mkArgs [.one (.ptr), .one (.int .u64), .one (.int .u64)] x)) w := tieZ128 (F.stretch_Set_Count env) x K Kp w
theorem fits128 : FitsOne Tryz.prog 128 C128 :=
 fits_of_tie (T := [(76, C76)]) (A := ann128) (fn := Tryz.f128) (c := body128) (fits_cons fits76 fits_nil) mixed Tryz.func128 Tryz.call128 (by kernel_rfl) (by kernel_rfl) (by kernel_rfl) tie128

noncomputable def C129 : Entry := fun args w K Kp => unArgs [.one (.ptr), .one (.int .u64), .one (.int .u64)] args.toList fun x => F.vmem_Mem_place env x.1 x.2.1 x.2.2.1 (fun r1 r2 w' => K (.tuple ⟨[.int .u64 r1, .bool r2]⟩) w') w
noncomputable def body129 : Code := (Tryz.f129.body).getD .skip
def ann129 : Ann := { loops := [(5, [(8, .one (.int .u64)), (24, .one (.int .i64))])], joins := [(9, []), (11, [(8, .one (.int .u64))])] }
def T0.vmem_Mem_place (E : Env) (c_stretch_Set_All : ∀ (a0 : (Option Addr)) (K : SlV → World → Prop) (w : World), Prop) (c_vmem_Mem_fits : ∀ (a0 : (Option Addr)) (a1 : Int) (a2 : Int) (K : Bool → World → Prop) (w : World), Prop) (a0 : (Option Addr)) (a1 : Int) (a2 : Int) (K : Int → Bool → World → Prop) (w : World) : Prop :=
 CND (decide ((a1 : Int) > 34359738368)) (
 K 0 false w
 ) (
 512 ≠ (0 : Int) ∧
 LET (maxI (u64 ((u64 (Int.tdiv (u64 ((u64 (a1 + 512)) - 1)) 512)) * 512)) 512 : Int) fun at_1 =>
 JOIN (Int × Unit) (fun J2 =>
 NC a0 fun p5 =>
 c_stretch_Set_All (some (p5.add 3)) (fun r6 w7 =>
 LOOP (Int × Int × Unit) (at_1, 0, ()) w7 fun s8 _ w9 next10 =>
 CND (decide ((s8.2.1 : Int) < ((r6.len : Nat) : Int))) (
 NC r6.base fun p11 =>
 ((0 : Int) ≤ s8.2.1 ∧ (s8.2.1 : Int) < (r6.len : Nat)) ∧
 ∃ c12 : Int, w9.cell? ((p11.add (Int.toNat s8.2.1 * 2)).add 0) = some (.int .u64 c12) ∧
 ∃ c13 : Int, w9.cell? ((p11.add (Int.toNat s8.2.1 * 2)).add 1) = some (.int .u64 c13) ∧
 AL (.cells #[.int .u64 0, .int .u64 0] E.t_stretch_One) w9 fun b14 w15 =>
 stCells (Addr.mk b14 0 none) 0 [.int .u64 c12, .int .u64 c13] w15 fun w16 =>
 ∃ x17 : Int, w16.cell? ((Addr.mk b14 0 none).add 1) = some (.int .u64 x17) ∧
 CND (decide ((x17 : Int) ≤ s8.1)) (
 next10 (s8.1, i64 (s8.2.1 + 1), ()) w16
 ) (
 JOIN (Unit) (fun J18 =>
 ∃ x21 : Int, w16.cell? (Addr.mk b14 0 none) = some (.int .u64 x21) ∧
 CND (decide ((x21 : Int) ≥ s8.1)) (
 ∃ x22 : Int, w16.cell? (Addr.mk b14 0 none) = some (.int .u64 x22) ∧
 CND (decide (((u64 (x22 - s8.1)) : Int) ≥ a2)) (
 J2 (s8.1, ()) w16
 ) (
 J18 (()) w16
 )
 ) (
 J18 (()) w16
 )
 ) fun s19 _ w20 =>
 ∃ x23 : Int, w20.cell? ((Addr.mk b14 0 none).add 1) = some (.int .u64 x23) ∧
 512 ≠ (0 : Int) ∧
 LET (u64 ((u64 (Int.tdiv (u64 ((u64 (x23 + 512)) - 1)) 512)) * 512) : Int) fun at_24 =>
 next10 (at_24, i64 (s8.2.1 + 1), ()) w20
 )
 ) (
 J2 (s8.1, ()) w9
 )
 ) w
 ) fun s3 _ w4 =>
 c_vmem_Mem_fits a0 s3.1 a2 (fun r25 w26 =>
 K s3.1 r25 w26
 ) w4
 )

theorem tieZ129 (c_stretch_Set_All : ∀ (a0 : (Option Addr)) (K : SlV → World → Prop) (w : World), Prop) (c_vmem_Mem_fits : ∀ (a0 : (Option Addr)) (a1 : Int) (a2 : Int) (K : Bool → World → Prop) (w : World), Prop) (x : ArgsV [.one (.ptr), .one (.int .u64), .one (.int .u64)]) (K Kp : Value → World → Prop) (w : World) : T0.vmem_Mem_place env c_stretch_Set_All c_vmem_Mem_fits x.1 x.2.1 x.2.2.1 (fun r1 r2 w' => K (.tuple ⟨[.int .u64 r1, .bool r2]⟩) w') w =
 ev Tryz.prog (tabC [(130, fun args w K Kp => unArgs [.one (.ptr)] args.toList fun x => c_stretch_Set_All x.1 (fun r1 w' => K (.slice r1.base r1.len r1.cap) w') w), (128, fun args w K Kp => unArgs [.one (.ptr), .one (.int .u64), .one (.int .u64)] args.toList fun x => c_vmem_Mem_fits x.1 x.2.1 x.2.2.1 (fun r1 w' => K (.bool r1) w') w)]) (ground Tryz.prog) ann129 body129 (finQ Tryz.prog Tryz.f129 K Kp) (initF (mkArgs [.one (.ptr), .one (.int .u64), .one (.int .u64)] x)) w := by kernel_rfl
theorem tie129 (x : ArgsV [.one (.ptr), .one (.int .u64), .one (.int .u64)]) (K Kp : Value → World → Prop) (w : World) : F.vmem_Mem_place env x.1 x.2.1 x.2.2.1 (fun r1 r2 w' => K (.tuple ⟨[.int .u64 r1, .bool r2]⟩) w') w =
 ev Tryz.prog (tabC [(130, C130), (128, C128)]) (ground Tryz.prog) ann129 body129 (finQ Tryz.prog Tryz.f129 K Kp) (initF (mkArgs [.one (.ptr), .one (.int .u64), .one (.int .u64)] x)) w := tieZ129 (F.stretch_Set_All env) (F.vmem_Mem_fits env) x K Kp w
theorem fits129 : FitsOne Tryz.prog 129 C129 :=
 fits_of_tie (T := [(130, C130), (128, C128)]) (A := ann129) (fn := Tryz.f129) (c := body129) (fits_cons fits130 (fits_cons fits128 fits_nil)) mixed Tryz.func129 Tryz.call129 (by kernel_rfl) (by kernel_rfl) (by kernel_rfl) tie129

noncomputable def C102 : Entry := fun args w K Kp => unArgs [.one (.ptr), .one (.int .u64), .one (.int .u64)] args.toList fun x => F.stretch_Set_Add env x.1 x.2.1 x.2.2.1 (fun  w' => K (.tuple ⟨[]⟩) w') w
noncomputable def body102 : Code := (Tryz.f102.body).getD .skip
def ann102 : Ann := { loops := [], joins := [(7, [(51, .one (.bool))]), (9, [(8, .one (.int .i64))]), (10, [(77, .one (.bool))]), (12, [(6, .one (.int .i64))])] }
def T0.stretch_Set_Add (E : Env) (c_stretch_Set_Cut : ∀ (a0 : (Option Addr)) (a1 : Int) (a2 : Int) (K : World → Prop) (w : World), Prop) (c_stretch_Set_at : ∀ (a0 : (Option Addr)) (a1 : Int) (K : Int → World → Prop) (w : World), Prop) (a0 : (Option Addr)) (a1 : Int) (a2 : Int) (K : World → Prop) (w : World) : Prop :=
 CND (decide ((a1 : Int) ≥ a2)) (
 K  w
 ) (
 c_stretch_Set_Cut a0 a1 a2 (fun  w1 =>
 NC a0 fun p2 =>
 ∃ x3 : Int, w1.cell? (p2.add 1) = some (.int .u64 x3) ∧
 NC a0 fun p4 =>
 stCells (p4.add 1) 0 [.int .u64 (u64 (x3 + (u64 (a2 - a1))))] w1 fun w5 =>
 c_stretch_Set_at a0 a1 (fun r6 w7 =>
 AL (.cells #[.int .u64 0, .int .u64 0] E.t_stretch_One) w7 fun b8 w9 =>
 stCells (Addr.mk b8 0 none) 0 [.int .u64 a1, .int .u64 a2] w9 fun w10 =>
 JOIN (Int × Unit) (fun J11 =>
 JOIN (Bool × Unit) (fun J14 =>
 NC a0 fun p17 =>
 ∃ x18 : SlV, w10.cell? p17 = some (.slice x18.base x18.len x18.cap) ∧
 CND (decide ((r6 : Int) < ((x18.len : Nat) : Int))) (
 NC a0 fun p19 =>
 ∃ x20 : SlV, w10.cell? p19 = some (.slice x20.base x20.len x20.cap) ∧
 NC x20.base fun p21 =>
 ((0 : Int) ≤ r6 ∧ (r6 : Int) < (x20.len : Nat)) ∧
 ∃ x22 : Int, w10.cell? (p21.add (Int.toNat r6 * 2)) = some (.int .u64 x22) ∧
 J14 ((x22 : Int) == a2, ()) w10
 ) (
 J14 (false, ()) w10
 )
 ) fun s15 _ w16 =>
 CND (s15.1) (
 NC a0 fun p23 =>
 ∃ x24 : SlV, w16.cell? p23 = some (.slice x24.base x24.len x24.cap) ∧
 NC x24.base fun p25 =>
 ((0 : Int) ≤ r6 ∧ (r6 : Int) < (x24.len : Nat)) ∧
 ∃ x26 : Int, w16.cell? ((p25.add (Int.toNat r6 * 2)).add 1) = some (.int .u64 x26) ∧
 stCells ((Addr.mk b8 0 none).add 1) 0 [.int .u64 x26] w16 fun w27 =>
 J11 (i64 (r6 + 1), ()) w27
 ) (
 J11 (r6, ()) w16
 )
 ) fun s12 _ w13 =>
 JOIN (Int × Unit) (fun J28 =>
 JOIN (Bool × Unit) (fun J31 =>
 CND (decide ((r6 : Int) > 0)) (
 NC a0 fun p34 =>
 ∃ x35 : SlV, w13.cell? p34 = some (.slice x35.base x35.len x35.cap) ∧
 NC x35.base fun p36 =>
 ((0 : Int) ≤ (i64 (r6 - 1)) ∧ ((i64 (r6 - 1)) : Int) < (x35.len : Nat)) ∧
 ∃ x37 : Int, w13.cell? ((p36.add (Int.toNat (i64 (r6 - 1)) * 2)).add 1) = some (.int .u64 x37) ∧
 J31 ((x37 : Int) == a1, ()) w13
 ) (
 J31 (false, ()) w13
 )
 ) fun s32 _ w33 =>
 CND (s32.1) (
 NC a0 fun p38 =>
 ∃ x39 : SlV, w33.cell? p38 = some (.slice x39.base x39.len x39.cap) ∧
 NC x39.base fun p40 =>
 ((0 : Int) ≤ (i64 (r6 - 1)) ∧ ((i64 (r6 - 1)) : Int) < (x39.len : Nat)) ∧
 ∃ x41 : Int, w33.cell? (p40.add (Int.toNat (i64 (r6 - 1)) * 2)) = some (.int .u64 x41) ∧
 stCells (Addr.mk b8 0 none) 0 [.int .u64 x41] w33 fun w42 =>
 J28 (i64 (r6 - 1), ()) w42
 ) (
 J28 (r6, ()) w33
 )
 ) fun s29 _ w30 =>
 NC a0 fun p43 =>
 ∃ x44 : SlV, w30.drew.cell? p43 = some (.slice x44.base x44.len x44.cap) ∧
 ((0 : Int) ≤ s29.1 ∧ (s29.1 : Int) ≤ (x44.cap : Nat)) ∧
 ∃ c45 : Int, w30.drew.cell? ((Addr.mk b8 0 none).add 0) = some (.int .u64 c45) ∧
 ∃ c46 : Int, w30.drew.cell? ((Addr.mk b8 0 none).add 1) = some (.int .u64 c46) ∧
 NC a0 fun p47 =>
 ∃ x48 : SlV, w30.drew.cell? p47 = some (.slice x48.base x48.len x48.cap) ∧
 ((0 : Int) ≤ s12.1 ∧ (s12.1 : Int) ≤ (x48.len : Nat)) ∧
 (
 AL (.cells ⟨[]⟩ E.t_stretch_One) w30.drew fun b49 w50 =>
 w50.cell? p47 = some (.slice x48.base x48.len x48.cap) ∧
 (w50.cell? ((Addr.mk b8 0 none).add 0) = some (.int .u64 c45) ∧ (w50.cell? ((Addr.mk b8 0 none).add 1) = some (.int .u64 c46) ∧ True)) ∧
 w50.cell? p43 = some (.slice x44.base x44.len x44.cap) ∧
 (
 APP E.t_stretch_One 2 16 #[.int .u64 0, .int .u64 0] ⟨(some (Addr.mk b49 0 none)), 0, 0⟩ ⟨(slB x44.base x44.cap 0 2), (Int.toNat s29.1), x44.cap⟩ w50 fun s51 w52 =>
 w52.cell? p47 = some (.slice x48.base x48.len x48.cap) ∧
 (w52.cell? ((Addr.mk b8 0 none).add 0) = some (.int .u64 c45) ∧ (w52.cell? ((Addr.mk b8 0 none).add 1) = some (.int .u64 c46) ∧ True)) ∧
 w52.cell? p43 = some (.slice x44.base x44.len x44.cap) ∧
 AL (.cells ⟨[.int .u64 c45, .int .u64 c46]⟩ E.t_stretch_One) w52 fun b53 w54 =>
 w54.cell? p47 = some (.slice x48.base x48.len x48.cap) ∧
 w54.cell? p43 = some (.slice x44.base x44.len x44.cap) ∧
 APP E.t_stretch_One 2 16 #[.int .u64 0, .int .u64 0] s51 ⟨(some (Addr.mk b53 0 none)), 1, 1⟩ w54 fun s55 w56 =>
 w56.cell? p47 = some (.slice x48.base x48.len x48.cap) ∧
 w56.cell? p43 = some (.slice x44.base x44.len x44.cap) ∧
 APP E.t_stretch_One 2 16 #[.int .u64 0, .int .u64 0] s55 ⟨(slB x48.base x48.cap (Int.toNat s12.1) 2), (x48.len - (Int.toNat s12.1)), (x48.cap - (Int.toNat s12.1))⟩ w56 fun s57 w58 =>
 w58.cell? p47 = some (.slice x48.base x48.len x48.cap) ∧
 w58.cell? p43 = some (.slice x44.base x44.len x44.cap) ∧
 NC a0 fun p59 =>
 stCells p59 0 [.slice s57.base s57.len s57.cap] w58 fun w60 =>
 K  w60

 ) ∧ (
 AL (.cells ⟨[.int .u64 c45, .int .u64 c46]⟩ E.t_stretch_One) w50 fun b61 w62 =>
 w62.cell? p47 = some (.slice x48.base x48.len x48.cap) ∧
 w62.cell? p43 = some (.slice x44.base x44.len x44.cap) ∧
 APP E.t_stretch_One 2 16 #[.int .u64 0, .int .u64 0] ⟨(some (Addr.mk b49 0 none)), 0, 0⟩ ⟨(slB x44.base x44.cap 0 2), (Int.toNat s29.1), x44.cap⟩ w62 fun s63 w64 =>
 w64.cell? p47 = some (.slice x48.base x48.len x48.cap) ∧
 w64.cell? p43 = some (.slice x44.base x44.len x44.cap) ∧
 APP E.t_stretch_One 2 16 #[.int .u64 0, .int .u64 0] s63 ⟨(some (Addr.mk b61 0 none)), 1, 1⟩ w64 fun s65 w66 =>
 w66.cell? p47 = some (.slice x48.base x48.len x48.cap) ∧
 w66.cell? p43 = some (.slice x44.base x44.len x44.cap) ∧
 APP E.t_stretch_One 2 16 #[.int .u64 0, .int .u64 0] s65 ⟨(slB x48.base x48.cap (Int.toNat s12.1) 2), (x48.len - (Int.toNat s12.1)), (x48.cap - (Int.toNat s12.1))⟩ w66 fun s67 w68 =>
 w68.cell? p47 = some (.slice x48.base x48.len x48.cap) ∧
 w68.cell? p43 = some (.slice x44.base x44.len x44.cap) ∧
 NC a0 fun p69 =>
 stCells p69 0 [.slice s67.base s67.len s67.cap] w68 fun w70 =>
 K  w70
 )

 ) ∧ (
 AL (.cells ⟨[.int .u64 c45, .int .u64 c46]⟩ E.t_stretch_One) w30.drew fun b71 w72 =>
 w72.cell? p47 = some (.slice x48.base x48.len x48.cap) ∧
 w72.cell? p43 = some (.slice x44.base x44.len x44.cap) ∧
 AL (.cells ⟨[]⟩ E.t_stretch_One) w72 fun b73 w74 =>
 w74.cell? p47 = some (.slice x48.base x48.len x48.cap) ∧
 w74.cell? p43 = some (.slice x44.base x44.len x44.cap) ∧
 APP E.t_stretch_One 2 16 #[.int .u64 0, .int .u64 0] ⟨(some (Addr.mk b73 0 none)), 0, 0⟩ ⟨(slB x44.base x44.cap 0 2), (Int.toNat s29.1), x44.cap⟩ w74 fun s75 w76 =>
 w76.cell? p47 = some (.slice x48.base x48.len x48.cap) ∧
 w76.cell? p43 = some (.slice x44.base x44.len x44.cap) ∧
 APP E.t_stretch_One 2 16 #[.int .u64 0, .int .u64 0] s75 ⟨(some (Addr.mk b71 0 none)), 1, 1⟩ w76 fun s77 w78 =>
 w78.cell? p47 = some (.slice x48.base x48.len x48.cap) ∧
 w78.cell? p43 = some (.slice x44.base x44.len x44.cap) ∧
 APP E.t_stretch_One 2 16 #[.int .u64 0, .int .u64 0] s77 ⟨(slB x48.base x48.cap (Int.toNat s12.1) 2), (x48.len - (Int.toNat s12.1)), (x48.cap - (Int.toNat s12.1))⟩ w78 fun s79 w80 =>
 w80.cell? p47 = some (.slice x48.base x48.len x48.cap) ∧
 w80.cell? p43 = some (.slice x44.base x44.len x44.cap) ∧
 NC a0 fun p81 =>
 stCells p81 0 [.slice s79.base s79.len s79.cap] w80 fun w82 =>
 K  w82
 )
 ) w5
 ) w
 )

theorem tieZ102 (c_stretch_Set_Cut : ∀ (a0 : (Option Addr)) (a1 : Int) (a2 : Int) (K : World → Prop) (w : World), Prop) (c_stretch_Set_at : ∀ (a0 : (Option Addr)) (a1 : Int) (K : Int → World → Prop) (w : World), Prop) (x : ArgsV [.one (.ptr), .one (.int .u64), .one (.int .u64)]) (K Kp : Value → World → Prop) (w : World) : T0.stretch_Set_Add env c_stretch_Set_Cut c_stretch_Set_at x.1 x.2.1 x.2.2.1 (fun  w' => K (.tuple ⟨[]⟩) w') w =
 ev Tryz.prog (tabC [(124, fun args w K Kp => unArgs [.one (.ptr), .one (.int .u64), .one (.int .u64)] args.toList fun x => c_stretch_Set_Cut x.1 x.2.1 x.2.2.1 (fun  w' => K (.tuple ⟨[]⟩) w') w), (83, fun args w K Kp => unArgs [.one (.ptr), .one (.int .u64)] args.toList fun x => c_stretch_Set_at x.1 x.2.1 (fun r1 w' => K (.int .i64 r1) w') w)]) (ground Tryz.prog) ann102 body102 (finQ Tryz.prog Tryz.f102 K Kp) (initF (mkArgs [.one (.ptr), .one (.int .u64), .one (.int .u64)] x)) w := by kernel_rfl
theorem tie102 (x : ArgsV [.one (.ptr), .one (.int .u64), .one (.int .u64)]) (K Kp : Value → World → Prop) (w : World) : F.stretch_Set_Add env x.1 x.2.1 x.2.2.1 (fun  w' => K (.tuple ⟨[]⟩) w') w =
 ev Tryz.prog (tabC [(124, C124), (83, C83)]) (ground Tryz.prog) ann102 body102 (finQ Tryz.prog Tryz.f102 K Kp) (initF (mkArgs [.one (.ptr), .one (.int .u64), .one (.int .u64)] x)) w := tieZ102 (F.stretch_Set_Cut env) (F.stretch_Set_at env) x K Kp w
theorem fits102 : FitsOne Tryz.prog 102 C102 :=
 fits_of_tie (T := [(124, C124), (83, C83)]) (A := ann102) (fn := Tryz.f102) (c := body102) (fits_cons fits124 (fits_cons fits83 fits_nil)) mixed Tryz.func102 Tryz.call102 (by kernel_rfl) (by kernel_rfl) (by kernel_rfl) tie102

noncomputable def C113 : Entry := fun args w K Kp => unArgs [.one (.ptr), .one (.int .u64), .one (.int .u64)] args.toList fun x => F.vmem_Mem_Reserve env x.1 x.2.1 x.2.2.1 (fun r1 r2 w' => K (.tuple ⟨[.int .u64 r1, .int .i64 r2]⟩) w') w
noncomputable def body113 : Code := (Tryz.f113.body).getD .skip
def ann113 : Ann := { loops := [(9, [(10, .one (.int .u64)), (11, .one (.bool)), (52, .one (.int .i64))])], joins := [(2, [(24, .one (.bool))]), (8, [(11, .one (.bool))])] }
def T0.vmem_Mem_Reserve (E : Env) (c_vmem_used_bool_ : ∀ (a0 : (Option Addr)) (K : Bool → Bool → World → Prop) (w : World), Prop) (c_vmem_used_uint64_ : ∀ (a0 : (Option Addr)) (K : Int → Bool → World → Prop) (w : World), Prop) (c_vmem_Mem_fits : ∀ (a0 : (Option Addr)) (a1 : Int) (a2 : Int) (K : Bool → World → Prop) (w : World), Prop) (c_vmem_Mem_place : ∀ (a0 : (Option Addr)) (a1 : Int) (a2 : Int) (K : Int → Bool → World → Prop) (w : World), Prop) (c_stretch_Set_Add : ∀ (a0 : (Option Addr)) (a1 : Int) (a2 : Int) (K : World → Prop) (w : World), Prop) (a0 : (Option Addr)) (a1 : Int) (a2 : Int) (K : Int → Int → World → Prop) (w : World) : Prop :=
 JOIN (Bool × Unit) (fun J1 =>
 CND ((a2 : Int) == 0) (
 J1 (true, ()) w
 ) (
 512 ≠ (0 : Int) ∧
 CND (((Int.tmod a2 512) : Int) != 0) (
 J1 (true, ()) w
 ) (
 J1 (decide ((a2 : Int) > 134217728), ()) w
 )
 )
 ) fun s2 _ w3 =>
 CND (s2.1) (
 K 0 1 w3
 ) (
 NC a0 fun p4 =>
 c_vmem_used_bool_ (some (p4.add 1)) (fun r5 r6 w7 =>
 CND (r5) (
 K 0 13 w7
 ) (
 NC a0 fun p8 =>
 c_vmem_used_uint64_ (some p8) (fun r9 r10 w11 =>
 JOIN (Bool × Unit) (fun J12 =>
 CND (r10) (
 c_vmem_Mem_fits a0 r9 a2 (fun r15 w16 =>
 J12 (r15, ()) w16
 ) w11
 ) (
 J12 (false, ()) w11
 )
 ) fun s13 _ w14 =>
 AL (.cells ⟨[.int .u64 a1, .int .u64 0]⟩ E.t_uint64) w14 fun b17 w18 =>
 LOOP (Int × Bool × Int × Unit) (r9, s13.1, 0, ()) w18 fun s19 _ w20 next21 =>
 CND (decide ((s19.2.2.1 : Int) < 2)) (
 ((0 : Int) ≤ s19.2.2.1 ∧ (s19.2.2.1 : Int) < (2 : Nat)) ∧
 ∃ x22 : Int, w20.cell? ((Addr.mk b17 0 none).add (Int.toNat s19.2.2.1 * 1)) = some (.int .u64 x22) ∧
 CND (!s19.2.1) (
 c_vmem_Mem_place a0 x22 a2 (fun r23 r24 w25 =>
 next21 (r23, r24, i64 (s19.2.2.1 + 1), ()) w25
 ) w20
 ) (
 next21 (s19.1, s19.2.1, i64 (s19.2.2.1 + 1), ()) w20
 )
 ) (
 CND (!s19.2.1) (
 K 0 13 w20
 ) (
 NC a0 fun p26 =>
 c_stretch_Set_Add (some (p26.add 3)) s19.1 (u64 (s19.1 + a2)) (fun  w27 =>
 K s19.1 0 w27
 ) w20
 )
 )
 ) w7
 )
 ) w3
 )

theorem tieZ113 (c_vmem_used_bool_ : ∀ (a0 : (Option Addr)) (K : Bool → Bool → World → Prop) (w : World), Prop) (c_vmem_used_uint64_ : ∀ (a0 : (Option Addr)) (K : Int → Bool → World → Prop) (w : World), Prop) (c_vmem_Mem_fits : ∀ (a0 : (Option Addr)) (a1 : Int) (a2 : Int) (K : Bool → World → Prop) (w : World), Prop) (c_vmem_Mem_place : ∀ (a0 : (Option Addr)) (a1 : Int) (a2 : Int) (K : Int → Bool → World → Prop) (w : World), Prop) (c_stretch_Set_Add : ∀ (a0 : (Option Addr)) (a1 : Int) (a2 : Int) (K : World → Prop) (w : World), Prop) (x : ArgsV [.one (.ptr), .one (.int .u64), .one (.int .u64)]) (K Kp : Value → World → Prop) (w : World) : T0.vmem_Mem_Reserve env c_vmem_used_bool_ c_vmem_used_uint64_ c_vmem_Mem_fits c_vmem_Mem_place c_stretch_Set_Add x.1 x.2.1 x.2.2.1 (fun r1 r2 w' => K (.tuple ⟨[.int .u64 r1, .int .i64 r2]⟩) w') w =
 ev Tryz.prog (tabC [(121, fun args w K Kp => unArgs [.one (.ptr)] args.toList fun x => c_vmem_used_bool_ x.1 (fun r1 r2 w' => K (.tuple ⟨[.bool r1, .bool r2]⟩) w') w), (123, fun args w K Kp => unArgs [.one (.ptr)] args.toList fun x => c_vmem_used_uint64_ x.1 (fun r1 r2 w' => K (.tuple ⟨[.int .u64 r1, .bool r2]⟩) w') w), (128, fun args w K Kp => unArgs [.one (.ptr), .one (.int .u64), .one (.int .u64)] args.toList fun x => c_vmem_Mem_fits x.1 x.2.1 x.2.2.1 (fun r1 w' => K (.bool r1) w') w), (129, fun args w K Kp => unArgs [.one (.ptr), .one (.int .u64), .one (.int .u64)] args.toList fun x => c_vmem_Mem_place x.1 x.2.1 x.2.2.1 (fun r1 r2 w' => K (.tuple ⟨[.int .u64 r1, .bool r2]⟩) w') w), (102, fun args w K Kp => unArgs [.one (.ptr), .one (.int .u64), .one (.int .u64)] args.toList fun x => c_stretch_Set_Add x.1 x.2.1 x.2.2.1 (fun  w' => K (.tuple ⟨[]⟩) w') w)]) (ground Tryz.prog) ann113 body113 (finQ Tryz.prog Tryz.f113 K Kp) (initF (mkArgs [.one (.ptr), .one (.int .u64), .one (.int .u64)] x)) w := by kernel_rfl
theorem tie113 (x : ArgsV [.one (.ptr), .one (.int .u64), .one (.int .u64)]) (K Kp : Value → World → Prop) (w : World) : F.vmem_Mem_Reserve env x.1 x.2.1 x.2.2.1 (fun r1 r2 w' => K (.tuple ⟨[.int .u64 r1, .int .i64 r2]⟩) w') w =
 ev Tryz.prog (tabC [(121, C121), (123, C123), (128, C128), (129, C129), (102, C102)]) (ground Tryz.prog) ann113 body113 (finQ Tryz.prog Tryz.f113 K Kp) (initF (mkArgs [.one (.ptr), .one (.int .u64), .one (.int .u64)] x)) w := tieZ113 (F.vmem_used_bool_ env) (F.vmem_used_uint64_ env) (F.vmem_Mem_fits env) (F.vmem_Mem_place env) (F.stretch_Set_Add env) x K Kp w
theorem fits113 : FitsOne Tryz.prog 113 C113 :=
 fits_of_tie (T := [(121, C121), (123, C123), (128, C128), (129, C129), (102, C102)]) (A := ann113) (fn := Tryz.f113) (c := body113) (fits_cons fits121 (fits_cons fits123 (fits_cons fits128 (fits_cons fits129 (fits_cons fits102 fits_nil))))) mixed Tryz.func113 Tryz.call113 (by kernel_rfl) (by kernel_rfl) (by kernel_rfl) tie113

noncomputable def C114 : Entry := fun args w K Kp => unArgs [.one (.ptr), .one (.int .u64), .one (.int .u64)] args.toList fun x => F.radix_Tree_Grow env x.1 x.2.1 x.2.2.1 (fun r1 w' => K (.int .i64 r1) w') w
noncomputable def body114 : Code := (Tryz.f114.body).getD .skip
def ann114 : Ann := { loops := [], joins := [(2, [(24, .one (.bool))])] }
def T0.radix_Tree_Grow (E : Env) (c_stretch_Set_Count : ∀ (a0 : (Option Addr)) (a1 : Int) (a2 : Int) (K : Int → World → Prop) (w : World), Prop) (c_stretch_Set_Add : ∀ (a0 : (Option Addr)) (a1 : Int) (a2 : Int) (K : World → Prop) (w : World), Prop) (c_radix_Tree_changed : ∀ (a0 : (Option Addr)) (K : World → Prop) (w : World), Prop) (a0 : (Option Addr)) (a1 : Int) (a2 : Int) (K : Int → World → Prop) (w : World) : Prop :=
 JOIN (Bool × Unit) (fun J1 =>
 CND ((a2 : Int) == 0) (
 J1 (true, ()) w
 ) (
 CND (decide ((a2 : Int) > 262144)) (
 J1 (true, ()) w
 ) (
 CND (decide ((a1 : Int) > 67108864)) (
 J1 (true, ()) w
 ) (
 J1 (decide ((a2 : Int) > (u64 (67108864 - a1))), ()) w
 )
 )
 )
 ) fun s2 _ w3 =>
 CND (s2.1) (
 K 1 w3
 ) (
 LET (u64 ((u64 (a1 + a2)) * 512) : Int) fun to_4 =>
 NC a0 fun p5 =>
 c_stretch_Set_Count (some p5) (u64 (a1 * 512)) to_4 (fun r6 w7 =>
 CND (decide ((r6 : Int) > 0)) (
 K 34 w7
 ) (
 NC a0 fun p8 =>
 c_stretch_Set_Add (some p8) (u64 (a1 * 512)) to_4 (fun  w9 =>
 NC a0 fun p10 =>
 c_stretch_Set_Add (some (p10.add 2)) (u64 (a1 * 512)) to_4 (fun  w11 =>
 NC a0 fun p12 =>
 c_stretch_Set_Add (some (p12.add 4)) (u64 (a1 * 512)) to_4 (fun  w13 =>
 c_radix_Tree_changed a0 (fun  w14 =>
 K 0 w14
 ) w13
 ) w11
 ) w9
 ) w7
 )
 ) w3
 )

theorem tieZ114 (c_stretch_Set_Count : ∀ (a0 : (Option Addr)) (a1 : Int) (a2 : Int) (K : Int → World → Prop) (w : World), Prop) (c_stretch_Set_Add : ∀ (a0 : (Option Addr)) (a1 : Int) (a2 : Int) (K : World → Prop) (w : World), Prop) (c_radix_Tree_changed : ∀ (a0 : (Option Addr)) (K : World → Prop) (w : World), Prop) (x : ArgsV [.one (.ptr), .one (.int .u64), .one (.int .u64)]) (K Kp : Value → World → Prop) (w : World) : T0.radix_Tree_Grow env c_stretch_Set_Count c_stretch_Set_Add c_radix_Tree_changed x.1 x.2.1 x.2.2.1 (fun r1 w' => K (.int .i64 r1) w') w =
 ev Tryz.prog (tabC [(76, fun args w K Kp => unArgs [.one (.ptr), .one (.int .u64), .one (.int .u64)] args.toList fun x => c_stretch_Set_Count x.1 x.2.1 x.2.2.1 (fun r1 w' => K (.int .u64 r1) w') w), (102, fun args w K Kp => unArgs [.one (.ptr), .one (.int .u64), .one (.int .u64)] args.toList fun x => c_stretch_Set_Add x.1 x.2.1 x.2.2.1 (fun  w' => K (.tuple ⟨[]⟩) w') w), (67, fun args w K Kp => unArgs [.one (.ptr)] args.toList fun x => c_radix_Tree_changed x.1 (fun  w' => K (.tuple ⟨[]⟩) w') w)]) (ground Tryz.prog) ann114 body114 (finQ Tryz.prog Tryz.f114 K Kp) (initF (mkArgs [.one (.ptr), .one (.int .u64), .one (.int .u64)] x)) w := by kernel_rfl
theorem tie114 (x : ArgsV [.one (.ptr), .one (.int .u64), .one (.int .u64)]) (K Kp : Value → World → Prop) (w : World) : F.radix_Tree_Grow env x.1 x.2.1 x.2.2.1 (fun r1 w' => K (.int .i64 r1) w') w =
 ev Tryz.prog (tabC [(76, C76), (102, C102), (67, C67)]) (ground Tryz.prog) ann114 body114 (finQ Tryz.prog Tryz.f114 K Kp) (initF (mkArgs [.one (.ptr), .one (.int .u64), .one (.int .u64)] x)) w := tieZ114 (F.stretch_Set_Count env) (F.stretch_Set_Add env) (F.radix_Tree_changed env) x K Kp w
theorem fits114 : FitsOne Tryz.prog 114 C114 :=
 fits_of_tie (T := [(76, C76), (102, C102), (67, C67)]) (A := ann114) (fn := Tryz.f114) (c := body114) (fits_cons fits76 (fits_cons fits102 (fits_cons fits67 fits_nil))) mixed Tryz.func114 Tryz.call114 (by kernel_rfl) (by kernel_rfl) (by kernel_rfl) tie114

noncomputable def C115 : Entry := fun args w K Kp => unArgs [.one (.ptr), .one (.int .u64), .one (.int .u64)] args.toList fun x => F.arena_Map_Many env x.1 x.2.1 x.2.2.1 (fun  w' => K (.tuple ⟨[]⟩) w') w
noncomputable def body115 : Code := (Tryz.f115.body).getD .skip
def ann115 : Ann := { loops := [], joins := [] }
def T0.arena_Map_Many (E : Env) (c_stretch_Set_Add : ∀ (a0 : (Option Addr)) (a1 : Int) (a2 : Int) (K : World → Prop) (w : World), Prop) (a0 : (Option Addr)) (a1 : Int) (a2 : Int) (K : World → Prop) (w : World) : Prop :=
 NC a0 fun p1 =>
 c_stretch_Set_Add (some p1) a1 a2 (fun  w2 =>
 K  w2
 ) w

theorem tieZ115 (c_stretch_Set_Add : ∀ (a0 : (Option Addr)) (a1 : Int) (a2 : Int) (K : World → Prop) (w : World), Prop) (x : ArgsV [.one (.ptr), .one (.int .u64), .one (.int .u64)]) (K Kp : Value → World → Prop) (w : World) : T0.arena_Map_Many env c_stretch_Set_Add x.1 x.2.1 x.2.2.1 (fun  w' => K (.tuple ⟨[]⟩) w') w =
 ev Tryz.prog (tabC [(102, fun args w K Kp => unArgs [.one (.ptr), .one (.int .u64), .one (.int .u64)] args.toList fun x => c_stretch_Set_Add x.1 x.2.1 x.2.2.1 (fun  w' => K (.tuple ⟨[]⟩) w') w)]) (ground Tryz.prog) ann115 body115 (finQ Tryz.prog Tryz.f115 K Kp) (initF (mkArgs [.one (.ptr), .one (.int .u64), .one (.int .u64)] x)) w := by kernel_rfl
theorem tie115 (x : ArgsV [.one (.ptr), .one (.int .u64), .one (.int .u64)]) (K Kp : Value → World → Prop) (w : World) : F.arena_Map_Many env x.1 x.2.1 x.2.2.1 (fun  w' => K (.tuple ⟨[]⟩) w') w =
 ev Tryz.prog (tabC [(102, C102)]) (ground Tryz.prog) ann115 body115 (finQ Tryz.prog Tryz.f115 K Kp) (initF (mkArgs [.one (.ptr), .one (.int .u64), .one (.int .u64)] x)) w := tieZ115 (F.stretch_Set_Add env) x K Kp w
theorem fits115 : FitsOne Tryz.prog 115 C115 :=
 fits_of_tie (T := [(102, C102)]) (A := ann115) (fn := Tryz.f115) (c := body115) (fits_cons fits102 fits_nil) mixed Tryz.func115 Tryz.call115 (by kernel_rfl) (by kernel_rfl) (by kernel_rfl) tie115

noncomputable def C95 : Entry := fun args w K Kp => unArgs [.one (.ptr), .one (.int .u64)] args.toList fun x => F.mheap_Heap_grow env x.1 x.2.1 (fun r1 w' => K (.int .i64 r1) w') w
noncomputable def body95 : Code := (Tryz.f95.body).getD .skip
def ann95 : Ann := { loops := [], joins := [] }
def T0.mheap_Heap_grow (E : Env) (c_vmem_Mem_Reserve : ∀ (a0 : (Option Addr)) (a1 : Int) (a2 : Int) (K : Int → Int → World → Prop) (w : World), Prop) (c_radix_Tree_Grow : ∀ (a0 : (Option Addr)) (a1 : Int) (a2 : Int) (K : Int → World → Prop) (w : World), Prop) (c_arena_Map_Many : ∀ (a0 : (Option Addr)) (a1 : Int) (a2 : Int) (K : World → Prop) (w : World), Prop) (a0 : (Option Addr)) (a1 : Int) (K : Int → World → Prop) (w : World) : Prop :=
 512 ≠ (0 : Int) ∧
 LET (u64 ((u64 (Int.tdiv (u64 ((u64 (a1 + 512)) - 1)) 512)) * 512) : Int) fun n_1 =>
 NC a0 fun p2 =>
 ∃ x3 : (Option Addr), w.drew.cell? p2 = some (.pointer x3) ∧
 NC a0 fun p4 =>
 ∃ x5 : Int, w.drew.cell? (p4.add 69) = some (.int .u64 x5) ∧
 c_vmem_Mem_Reserve x3 x5 n_1 (fun r6 r7 w8 =>
 CND ((r7 : Int) != 0) (
 K 13 w8
 ) (
 NC a0 fun p9 =>
 stCells (p9.add 69) 0 [.int .u64 (u64 (r6 + n_1))] w8 fun w10 =>
 NC a0 fun p11 =>
 ∃ x12 : (Option Addr), w10.cell? (p11.add 1) = some (.pointer x12) ∧
 512 ≠ (0 : Int) ∧
 512 ≠ (0 : Int) ∧
 c_radix_Tree_Grow x12 (u64 (Int.tdiv r6 512)) (u64 (Int.tdiv n_1 512)) (fun r13 w14 =>
 NC a0 fun p15 =>
 ∃ x16 : (Option Addr), w14.drew.cell? (p15.add 2) = some (.pointer x16) ∧
 512 ≠ (0 : Int) ∧
 NC a0 fun p17 =>
 ∃ x18 : Int, w14.drew.cell? (p17.add 69) = some (.int .u64 x18) ∧
 512 ≠ (0 : Int) ∧
 c_arena_Map_Many x16 (u64 (Int.tdiv r6 512)) (u64 (Int.tdiv x18 512)) (fun  w19 =>
 w19.cell? (p17.add 69) = some (.int .u64 x18) ∧
 K 0 w19
 ) w14.drew
 ) w10
 )
 ) w.drew

theorem tieZ95 (c_vmem_Mem_Reserve : ∀ (a0 : (Option Addr)) (a1 : Int) (a2 : Int) (K : Int → Int → World → Prop) (w : World), Prop) (c_radix_Tree_Grow : ∀ (a0 : (Option Addr)) (a1 : Int) (a2 : Int) (K : Int → World → Prop) (w : World), Prop) (c_arena_Map_Many : ∀ (a0 : (Option Addr)) (a1 : Int) (a2 : Int) (K : World → Prop) (w : World), Prop) (x : ArgsV [.one (.ptr), .one (.int .u64)]) (K Kp : Value → World → Prop) (w : World) : T0.mheap_Heap_grow env c_vmem_Mem_Reserve c_radix_Tree_Grow c_arena_Map_Many x.1 x.2.1 (fun r1 w' => K (.int .i64 r1) w') w =
 ev Tryz.prog (tabC [(113, fun args w K Kp => unArgs [.one (.ptr), .one (.int .u64), .one (.int .u64)] args.toList fun x => c_vmem_Mem_Reserve x.1 x.2.1 x.2.2.1 (fun r1 r2 w' => K (.tuple ⟨[.int .u64 r1, .int .i64 r2]⟩) w') w), (114, fun args w K Kp => unArgs [.one (.ptr), .one (.int .u64), .one (.int .u64)] args.toList fun x => c_radix_Tree_Grow x.1 x.2.1 x.2.2.1 (fun r1 w' => K (.int .i64 r1) w') w), (115, fun args w K Kp => unArgs [.one (.ptr), .one (.int .u64), .one (.int .u64)] args.toList fun x => c_arena_Map_Many x.1 x.2.1 x.2.2.1 (fun  w' => K (.tuple ⟨[]⟩) w') w)]) (ground Tryz.prog) ann95 body95 (finQ Tryz.prog Tryz.f95 K Kp) (initF (mkArgs [.one (.ptr), .one (.int .u64)] x)) w := by kernel_rfl
theorem tie95 (x : ArgsV [.one (.ptr), .one (.int .u64)]) (K Kp : Value → World → Prop) (w : World) : F.mheap_Heap_grow env x.1 x.2.1 (fun r1 w' => K (.int .i64 r1) w') w =
 ev Tryz.prog (tabC [(113, C113), (114, C114), (115, C115)]) (ground Tryz.prog) ann95 body95 (finQ Tryz.prog Tryz.f95 K Kp) (initF (mkArgs [.one (.ptr), .one (.int .u64)] x)) w := tieZ95 (F.vmem_Mem_Reserve env) (F.radix_Tree_Grow env) (F.arena_Map_Many env) x K Kp w
theorem fits95 : FitsOne Tryz.prog 95 C95 :=
 fits_of_tie (T := [(113, C113), (114, C114), (115, C115)]) (A := ann95) (fn := Tryz.f95) (c := body95) (fits_cons fits113 (fits_cons fits114 (fits_cons fits115 fits_nil))) mixed Tryz.func95 Tryz.call95 (by kernel_rfl) (by kernel_rfl) (by kernel_rfl) tie95

noncomputable def C120 : Entry := fun args w K Kp => unArgs [.one (.int .u64), .one (.int .u64)] args.toList fun x => F.vmem_right env x.1 x.2.1 (fun r1 w' => K (.bool r1) w') w
noncomputable def body120 : Code := (Tryz.f120.body).getD .skip
def ann120 : Ann := { loops := [], joins := [] }
theorem tie120 (x : ArgsV [.one (.int .u64), .one (.int .u64)]) (K Kp : Value → World → Prop) (w : World) : F.vmem_right env x.1 x.2.1 (fun r1 w' => K (.bool r1) w') w =
 ev Tryz.prog (tabC []) (ground Tryz.prog) ann120 body120 (finQ Tryz.prog Tryz.f120 K Kp) (initF (mkArgs [.one (.int .u64), .one (.int .u64)] x)) w := by kernel_rfl
theorem fits120 : FitsOne Tryz.prog 120 C120 :=
 fits_of_tie (T := []) (A := ann120) (fn := Tryz.f120) (c := body120) fits_nil mixed Tryz.func120 Tryz.call120 (by kernel_rfl) (by kernel_rfl) (by kernel_rfl) tie120

noncomputable def C122 : Entry := fun args w K Kp => unArgs [.one (.ptr), .one (.int .u64), .one (.int .u64)] args.toList fun x => F.stretch_Set_Within env x.1 x.2.1 x.2.2.1 (fun r1 w' => K (.slice r1.base r1.len r1.cap) w') w
noncomputable def body122 : Code := (Tryz.f122.body).getD .skip
def ann122 : Ann := { loops := [(3, [(7, .one (.sl)), (8, .one (.int .i64))])], joins := [] }
def T0.stretch_Set_Within (E : Env) (c_stretch_Set_at : ∀ (a0 : (Option Addr)) (a1 : Int) (K : Int → World → Prop) (w : World), Prop) (a0 : (Option Addr)) (a1 : Int) (a2 : Int) (K : SlV → World → Prop) (w : World) : Prop :=
 c_stretch_Set_at a0 a1 (fun r1 w2 =>
 LOOP (SlV × Int × Unit) (⟨none, 0, 0⟩, r1, ()) w2 fun s3 _ w4 next5 =>
 NC a0 fun p6 =>
 ∃ x7 : SlV, w4.cell? p6 = some (.slice x7.base x7.len x7.cap) ∧
 CND (decide ((s3.2.1 : Int) < ((x7.len : Nat) : Int))) (
 NC a0 fun p8 =>
 ∃ x9 : SlV, w4.cell? p8 = some (.slice x9.base x9.len x9.cap) ∧
 NC x9.base fun p10 =>
 ((0 : Int) ≤ s3.2.1 ∧ (s3.2.1 : Int) < (x9.len : Nat)) ∧
 ∃ x11 : Int, w4.cell? (p10.add (Int.toNat s3.2.1 * 2)) = some (.int .u64 x11) ∧
 CND (decide ((x11 : Int) < a2)) (
 NC a0 fun p12 =>
 ∃ x13 : SlV, w4.drew.cell? p12 = some (.slice x13.base x13.len x13.cap) ∧
 NC x13.base fun p14 =>
 ((0 : Int) ≤ s3.2.1 ∧ (s3.2.1 : Int) < (x13.len : Nat)) ∧
 ∃ x15 : Int, w4.drew.cell? (p14.add (Int.toNat s3.2.1 * 2)) = some (.int .u64 x15) ∧
 NC a0 fun p16 =>
 ∃ x17 : SlV, w4.drew.cell? p16 = some (.slice x17.base x17.len x17.cap) ∧
 NC x17.base fun p18 =>
 ((0 : Int) ≤ s3.2.1 ∧ (s3.2.1 : Int) < (x17.len : Nat)) ∧
 ∃ x19 : Int, w4.drew.cell? ((p18.add (Int.toNat s3.2.1 * 2)).add 1) = some (.int .u64 x19) ∧
 AL (.cells ⟨[.int .u64 (maxI x15 a1), .int .u64 (minI x19 a2)]⟩ E.t_stretch_One) w4.drew fun b20 w21 =>
 w21.cell? ((p18.add (Int.toNat s3.2.1 * 2)).add 1) = some (.int .u64 x19) ∧
 w21.cell? p16 = some (.slice x17.base x17.len x17.cap) ∧
 w21.cell? (p14.add (Int.toNat s3.2.1 * 2)) = some (.int .u64 x15) ∧
 w21.cell? p12 = some (.slice x13.base x13.len x13.cap) ∧
 APP E.t_stretch_One 2 16 #[.int .u64 0, .int .u64 0] s3.1 ⟨(some (Addr.mk b20 0 none)), 1, 1⟩ w21 fun s22 w23 =>
 w23.cell? ((p18.add (Int.toNat s3.2.1 * 2)).add 1) = some (.int .u64 x19) ∧
 w23.cell? p16 = some (.slice x17.base x17.len x17.cap) ∧
 w23.cell? (p14.add (Int.toNat s3.2.1 * 2)) = some (.int .u64 x15) ∧
 w23.cell? p12 = some (.slice x13.base x13.len x13.cap) ∧
 next5 (s22, i64 (s3.2.1 + 1), ()) w23
 ) (
 K s3.1 w4
 )
 ) (
 K s3.1 w4
 )
 ) w

theorem tieZ122 (c_stretch_Set_at : ∀ (a0 : (Option Addr)) (a1 : Int) (K : Int → World → Prop) (w : World), Prop) (x : ArgsV [.one (.ptr), .one (.int .u64), .one (.int .u64)]) (K Kp : Value → World → Prop) (w : World) : T0.stretch_Set_Within env c_stretch_Set_at x.1 x.2.1 x.2.2.1 (fun r1 w' => K (.slice r1.base r1.len r1.cap) w') w =
 ev Tryz.prog (tabC [(83, fun args w K Kp => unArgs [.one (.ptr), .one (.int .u64)] args.toList fun x => c_stretch_Set_at x.1 x.2.1 (fun r1 w' => K (.int .i64 r1) w') w)]) (ground Tryz.prog) ann122 body122 (finQ Tryz.prog Tryz.f122 K Kp) (initF (mkArgs [.one (.ptr), .one (.int .u64), .one (.int .u64)] x)) w := by kernel_rfl
theorem tie122 (x : ArgsV [.one (.ptr), .one (.int .u64), .one (.int .u64)]) (K Kp : Value → World → Prop) (w : World) : F.stretch_Set_Within env x.1 x.2.1 x.2.2.1 (fun r1 w' => K (.slice r1.base r1.len r1.cap) w') w =
 ev Tryz.prog (tabC [(83, C83)]) (ground Tryz.prog) ann122 body122 (finQ Tryz.prog Tryz.f122 K Kp) (initF (mkArgs [.one (.ptr), .one (.int .u64), .one (.int .u64)] x)) w := tieZ122 (F.stretch_Set_at env) x K Kp w
theorem fits122 : FitsOne Tryz.prog 122 C122 :=
 fits_of_tie (T := [(83, C83)]) (A := ann122) (fn := Tryz.f122) (c := body122) (fits_cons fits83 fits_nil) mixed Tryz.func122 Tryz.call122 (by kernel_rfl) (by kernel_rfl) (by kernel_rfl) tie122

noncomputable def C99 : Entry := fun args w K Kp => unArgs [.one (.ptr), .one (.int .u64), .one (.int .u64)] args.toList fun x => F.vmem_Mem_Commit env x.1 x.2.1 x.2.2.1 (fun r1 w' => K (.int .i64 r1) w') w
noncomputable def body99 : Code := (Tryz.f99.body).getD .skip
def ann99 : Ann := { loops := [(12, [(56, .one (.int .i64))]), (15, [(12, .one (.int .u64))])], joins := [(22, [])] }
def T0.vmem_Mem_Commit (E : Env) (c_vmem_right : ∀ (a0 : Int) (a1 : Int) (K : Bool → World → Prop) (w : World), Prop) (c_stretch_Set_Count : ∀ (a0 : (Option Addr)) (a1 : Int) (a2 : Int) (K : Int → World → Prop) (w : World), Prop) (c_vmem_used_bool_ : ∀ (a0 : (Option Addr)) (K : Bool → Bool → World → Prop) (w : World), Prop) (c_stretch_Set_Within : ∀ (a0 : (Option Addr)) (a1 : Int) (a2 : Int) (K : SlV → World → Prop) (w : World), Prop) (c_vmem_used_uint64_ : ∀ (a0 : (Option Addr)) (K : Int → Bool → World → Prop) (w : World), Prop) (c_stretch_Set_Cut : ∀ (a0 : (Option Addr)) (a1 : Int) (a2 : Int) (K : World → Prop) (w : World), Prop) (c_stretch_Set_Add : ∀ (a0 : (Option Addr)) (a1 : Int) (a2 : Int) (K : World → Prop) (w : World), Prop) (a0 : (Option Addr)) (a1 : Int) (a2 : Int) (K : Int → World → Prop) (w : World) : Prop :=
 c_vmem_right a1 a2 (fun r1 w2 =>
 CND (!r1) (
 K 1 w2
 ) (
 NC a0 fun p3 =>
 c_stretch_Set_Count (some (p3.add 3)) a1 (u64 (a1 + a2)) (fun r4 w5 =>
 CND ((r4 : Int) != a2) (
 K 33 w5
 ) (
 NC a0 fun p6 =>
 c_stretch_Set_Count (some (p6.add 5)) a1 (u64 (a1 + a2)) (fun r7 w8 =>
 CND ((r7 : Int) == a2) (
 K 0 w8
 ) (
 NC a0 fun p9 =>
 c_vmem_used_bool_ (some (p9.add 1)) (fun r10 r11 w12 =>
 CND (r10) (
 K 13 w12
 ) (
 JOIN (Unit) (fun J13 =>
 NC a0 fun p16 =>
 c_stretch_Set_Within (some (p16.add 7)) a1 (u64 (a1 + a2)) (fun r17 w18 =>
 LOOP (Int × Unit) (0, ()) w18 fun s19 _ w20 next21 =>
 CND (decide ((s19.1 : Int) < ((r17.len : Nat) : Int))) (
 NC r17.base fun p22 =>
 ((0 : Int) ≤ s19.1 ∧ (s19.1 : Int) < (r17.len : Nat)) ∧
 ∃ c23 : Int, w20.cell? ((p22.add (Int.toNat s19.1 * 2)).add 0) = some (.int .u64 c23) ∧
 ∃ c24 : Int, w20.cell? ((p22.add (Int.toNat s19.1 * 2)).add 1) = some (.int .u64 c24) ∧
 AL (.cells #[.int .u64 0, .int .u64 0] E.t_stretch_One) w20 fun b25 w26 =>
 stCells (Addr.mk b25 0 none) 0 [.int .u64 c23, .int .u64 c24] w26 fun w27 =>
 ∃ x28 : Int, w27.cell? (Addr.mk b25 0 none) = some (.int .u64 x28) ∧
 LOOP (Int × Unit) (x28, ()) w27 fun s29 _ w30 next31 =>
 ∃ x32 : Int, w30.cell? ((Addr.mk b25 0 none).add 1) = some (.int .u64 x32) ∧
 CND (decide ((s29.1 : Int) < x32)) (
 NC a0 fun p33 =>
 ∃ x34 : SlV, w30.cell? (p33.add 2) = some (.slice x34.base x34.len x34.cap) ∧
 CND ((((x34.len : Nat) : Int) : Int) == 0) (
 J13 (()) w30
 ) (
 NC a0 fun p35 =>
 c_vmem_used_uint64_ (some (p35.add 2)) (fun r36 r37 w38 =>
 CND ((r36 : Int) != 0) (
 NC a0 fun p39 =>
 ∃ x40 : (Option Nat), w38.cell? (p39.add 9) = some (.map x40) ∧
 MUPD .u64 s29.1 (.int .u64 r36) x40 w38 fun w41 =>
 next31 (u64 (s29.1 + 1), ()) w41
 ) (
 next31 (u64 (s29.1 + 1), ()) w38
 )
 ) w30
 )
 ) (
 next21 (i64 (s19.1 + 1), ()) w30
 )
 ) (
 J13 (()) w20
 )
 ) w12
 ) fun s14 _ w15 =>
 NC a0 fun p42 =>
 c_stretch_Set_Cut (some (p42.add 7)) a1 (u64 (a1 + a2)) (fun  w43 =>
 NC a0 fun p44 =>
 c_stretch_Set_Add (some (p44.add 5)) a1 (u64 (a1 + a2)) (fun  w45 =>
 K 0 w45
 ) w43
 ) w15
 )
 ) w8
 )
 ) w5
 )
 ) w2
 )
 ) w

theorem tieZ99 (c_vmem_right : ∀ (a0 : Int) (a1 : Int) (K : Bool → World → Prop) (w : World), Prop) (c_stretch_Set_Count : ∀ (a0 : (Option Addr)) (a1 : Int) (a2 : Int) (K : Int → World → Prop) (w : World), Prop) (c_vmem_used_bool_ : ∀ (a0 : (Option Addr)) (K : Bool → Bool → World → Prop) (w : World), Prop) (c_stretch_Set_Within : ∀ (a0 : (Option Addr)) (a1 : Int) (a2 : Int) (K : SlV → World → Prop) (w : World), Prop) (c_vmem_used_uint64_ : ∀ (a0 : (Option Addr)) (K : Int → Bool → World → Prop) (w : World), Prop) (c_stretch_Set_Cut : ∀ (a0 : (Option Addr)) (a1 : Int) (a2 : Int) (K : World → Prop) (w : World), Prop) (c_stretch_Set_Add : ∀ (a0 : (Option Addr)) (a1 : Int) (a2 : Int) (K : World → Prop) (w : World), Prop) (x : ArgsV [.one (.ptr), .one (.int .u64), .one (.int .u64)]) (K Kp : Value → World → Prop) (w : World) : T0.vmem_Mem_Commit env c_vmem_right c_stretch_Set_Count c_vmem_used_bool_ c_stretch_Set_Within c_vmem_used_uint64_ c_stretch_Set_Cut c_stretch_Set_Add x.1 x.2.1 x.2.2.1 (fun r1 w' => K (.int .i64 r1) w') w =
 ev Tryz.prog (tabC [(120, fun args w K Kp => unArgs [.one (.int .u64), .one (.int .u64)] args.toList fun x => c_vmem_right x.1 x.2.1 (fun r1 w' => K (.bool r1) w') w), (76, fun args w K Kp => unArgs [.one (.ptr), .one (.int .u64), .one (.int .u64)] args.toList fun x => c_stretch_Set_Count x.1 x.2.1 x.2.2.1 (fun r1 w' => K (.int .u64 r1) w') w), (121, fun args w K Kp => unArgs [.one (.ptr)] args.toList fun x => c_vmem_used_bool_ x.1 (fun r1 r2 w' => K (.tuple ⟨[.bool r1, .bool r2]⟩) w') w), (122, fun args w K Kp => unArgs [.one (.ptr), .one (.int .u64), .one (.int .u64)] args.toList fun x => c_stretch_Set_Within x.1 x.2.1 x.2.2.1 (fun r1 w' => K (.slice r1.base r1.len r1.cap) w') w), (123, fun args w K Kp => unArgs [.one (.ptr)] args.toList fun x => c_vmem_used_uint64_ x.1 (fun r1 r2 w' => K (.tuple ⟨[.int .u64 r1, .bool r2]⟩) w') w), (124, fun args w K Kp => unArgs [.one (.ptr), .one (.int .u64), .one (.int .u64)] args.toList fun x => c_stretch_Set_Cut x.1 x.2.1 x.2.2.1 (fun  w' => K (.tuple ⟨[]⟩) w') w), (102, fun args w K Kp => unArgs [.one (.ptr), .one (.int .u64), .one (.int .u64)] args.toList fun x => c_stretch_Set_Add x.1 x.2.1 x.2.2.1 (fun  w' => K (.tuple ⟨[]⟩) w') w)]) (ground Tryz.prog) ann99 body99 (finQ Tryz.prog Tryz.f99 K Kp) (initF (mkArgs [.one (.ptr), .one (.int .u64), .one (.int .u64)] x)) w := by kernel_rfl
theorem tie99 (x : ArgsV [.one (.ptr), .one (.int .u64), .one (.int .u64)]) (K Kp : Value → World → Prop) (w : World) : F.vmem_Mem_Commit env x.1 x.2.1 x.2.2.1 (fun r1 w' => K (.int .i64 r1) w') w =
 ev Tryz.prog (tabC [(120, C120), (76, C76), (121, C121), (122, C122), (123, C123), (124, C124), (102, C102)]) (ground Tryz.prog) ann99 body99 (finQ Tryz.prog Tryz.f99 K Kp) (initF (mkArgs [.one (.ptr), .one (.int .u64), .one (.int .u64)] x)) w := tieZ99 (F.vmem_right env) (F.stretch_Set_Count env) (F.vmem_used_bool_ env) (F.stretch_Set_Within env) (F.vmem_used_uint64_ env) (F.stretch_Set_Cut env) (F.stretch_Set_Add env) x K Kp w
theorem fits99 : FitsOne Tryz.prog 99 C99 :=
 fits_of_tie (T := [(120, C120), (76, C76), (121, C121), (122, C122), (123, C123), (124, C124), (102, C102)]) (A := ann99) (fn := Tryz.f99) (c := body99) (fits_cons fits120 (fits_cons fits76 (fits_cons fits121 (fits_cons fits122 (fits_cons fits123 (fits_cons fits124 (fits_cons fits102 fits_nil))))))) mixed Tryz.func99 Tryz.call99 (by kernel_rfl) (by kernel_rfl) (by kernel_rfl) tie99

noncomputable def C118 : Entry := fun args w K Kp => unArgs [.one (.ptr), .one (.int .u64), .one (.int .u64)] args.toList fun x => F.vmem_Mem_Ready env x.1 x.2.1 x.2.2.1 (fun r1 w' => K (.slice r1.base r1.len r1.cap) w') w
noncomputable def body118 : Code := (Tryz.f118.body).getD .skip
def ann118 : Ann := { loops := [], joins := [] }
def T0.vmem_Mem_Ready (E : Env) (c_stretch_Set_Within : ∀ (a0 : (Option Addr)) (a1 : Int) (a2 : Int) (K : SlV → World → Prop) (w : World), Prop) (a0 : (Option Addr)) (a1 : Int) (a2 : Int) (K : SlV → World → Prop) (w : World) : Prop :=
 NC a0 fun p1 =>
 c_stretch_Set_Within (some (p1.add 5)) a1 a2 (fun r2 w3 =>
 K r2 w3
 ) w

theorem tieZ118 (c_stretch_Set_Within : ∀ (a0 : (Option Addr)) (a1 : Int) (a2 : Int) (K : SlV → World → Prop) (w : World), Prop) (x : ArgsV [.one (.ptr), .one (.int .u64), .one (.int .u64)]) (K Kp : Value → World → Prop) (w : World) : T0.vmem_Mem_Ready env c_stretch_Set_Within x.1 x.2.1 x.2.2.1 (fun r1 w' => K (.slice r1.base r1.len r1.cap) w') w =
 ev Tryz.prog (tabC [(122, fun args w K Kp => unArgs [.one (.ptr), .one (.int .u64), .one (.int .u64)] args.toList fun x => c_stretch_Set_Within x.1 x.2.1 x.2.2.1 (fun r1 w' => K (.slice r1.base r1.len r1.cap) w') w)]) (ground Tryz.prog) ann118 body118 (finQ Tryz.prog Tryz.f118 K Kp) (initF (mkArgs [.one (.ptr), .one (.int .u64), .one (.int .u64)] x)) w := by kernel_rfl
theorem tie118 (x : ArgsV [.one (.ptr), .one (.int .u64), .one (.int .u64)]) (K Kp : Value → World → Prop) (w : World) : F.vmem_Mem_Ready env x.1 x.2.1 x.2.2.1 (fun r1 w' => K (.slice r1.base r1.len r1.cap) w') w =
 ev Tryz.prog (tabC [(122, C122)]) (ground Tryz.prog) ann118 body118 (finQ Tryz.prog Tryz.f118 K Kp) (initF (mkArgs [.one (.ptr), .one (.int .u64), .one (.int .u64)] x)) w := tieZ118 (F.stretch_Set_Within env) x K Kp w
theorem fits118 : FitsOne Tryz.prog 118 C118 :=
 fits_of_tie (T := [(122, C122)]) (A := ann118) (fn := Tryz.f118) (c := body118) (fits_cons fits122 fits_nil) mixed Tryz.func118 Tryz.call118 (by kernel_rfl) (by kernel_rfl) (by kernel_rfl) tie118

noncomputable def C80 : Entry := fun args w K Kp => unArgs [.one (.ptr), .one (.int .u64), .one (.int .u64), .one (.ptr)] args.toList fun x => F.radix_Tree_freed env x.1 x.2.1 x.2.2.1 x.2.2.2.1 (fun r1 w' => K (.int .i64 r1) w') w
noncomputable def body80 : Code := (Tryz.f80.body).getD .skip
def ann80 : Ann := { loops := [], joins := [] }
def T0.radix_Tree_freed (E : Env) (c_radix_Tree_looked : ∀ (a0 : (Option Addr)) (a1 : Int) (a2 : Int) (a3 : Bool) (a4 : Int) (K : Int → World → Prop) (w : World), Prop) (c_stretch_Set_Add : ∀ (a0 : (Option Addr)) (a1 : Int) (a2 : Int) (K : World → Prop) (w : World), Prop) (c_radix_Tree_changed : ∀ (a0 : (Option Addr)) (K : World → Prop) (w : World), Prop) (a0 : (Option Addr)) (a1 : Int) (a2 : Int) (a3 : (Option Addr)) (K : Int → World → Prop) (w : World) : Prop :=
 c_radix_Tree_looked a0 a1 a2 false 31 (fun r1 w2 =>
 CND ((r1 : Int) != 0) (
 K r1 w2
 ) (
 NC a0 fun p3 =>
 c_stretch_Set_Add (some (p3.add 2)) a1 (u64 (a1 + a2)) (fun  w4 =>
 c_stretch_Set_Add a3 a1 (u64 (a1 + a2)) (fun  w5 =>
 c_radix_Tree_changed a0 (fun  w6 =>
 K 0 w6
 ) w5
 ) w4
 ) w2
 )
 ) w

theorem tieZ80 (c_radix_Tree_looked : ∀ (a0 : (Option Addr)) (a1 : Int) (a2 : Int) (a3 : Bool) (a4 : Int) (K : Int → World → Prop) (w : World), Prop) (c_stretch_Set_Add : ∀ (a0 : (Option Addr)) (a1 : Int) (a2 : Int) (K : World → Prop) (w : World), Prop) (c_radix_Tree_changed : ∀ (a0 : (Option Addr)) (K : World → Prop) (w : World), Prop) (x : ArgsV [.one (.ptr), .one (.int .u64), .one (.int .u64), .one (.ptr)]) (K Kp : Value → World → Prop) (w : World) : T0.radix_Tree_freed env c_radix_Tree_looked c_stretch_Set_Add c_radix_Tree_changed x.1 x.2.1 x.2.2.1 x.2.2.2.1 (fun r1 w' => K (.int .i64 r1) w') w =
 ev Tryz.prog (tabC [(101, fun args w K Kp => unArgs [.one (.ptr), .one (.int .u64), .one (.int .u64), .one (.bool), .one (.int .i64)] args.toList fun x => c_radix_Tree_looked x.1 x.2.1 x.2.2.1 x.2.2.2.1 x.2.2.2.2.1 (fun r1 w' => K (.int .i64 r1) w') w), (102, fun args w K Kp => unArgs [.one (.ptr), .one (.int .u64), .one (.int .u64)] args.toList fun x => c_stretch_Set_Add x.1 x.2.1 x.2.2.1 (fun  w' => K (.tuple ⟨[]⟩) w') w), (67, fun args w K Kp => unArgs [.one (.ptr)] args.toList fun x => c_radix_Tree_changed x.1 (fun  w' => K (.tuple ⟨[]⟩) w') w)]) (ground Tryz.prog) ann80 body80 (finQ Tryz.prog Tryz.f80 K Kp) (initF (mkArgs [.one (.ptr), .one (.int .u64), .one (.int .u64), .one (.ptr)] x)) w := by kernel_rfl
theorem tie80 (x : ArgsV [.one (.ptr), .one (.int .u64), .one (.int .u64), .one (.ptr)]) (K Kp : Value → World → Prop) (w : World) : F.radix_Tree_freed env x.1 x.2.1 x.2.2.1 x.2.2.2.1 (fun r1 w' => K (.int .i64 r1) w') w =
 ev Tryz.prog (tabC [(101, C101), (102, C102), (67, C67)]) (ground Tryz.prog) ann80 body80 (finQ Tryz.prog Tryz.f80 K Kp) (initF (mkArgs [.one (.ptr), .one (.int .u64), .one (.int .u64), .one (.ptr)] x)) w := tieZ80 (F.radix_Tree_looked env) (F.stretch_Set_Add env) (F.radix_Tree_changed env) x K Kp w
theorem fits80 : FitsOne Tryz.prog 80 C80 :=
 fits_of_tie (T := [(101, C101), (102, C102), (67, C67)]) (A := ann80) (fn := Tryz.f80) (c := body80) (fits_cons fits101 (fits_cons fits102 (fits_cons fits67 fits_nil))) mixed Tryz.func80 Tryz.call80 (by kernel_rfl) (by kernel_rfl) (by kernel_rfl) tie80

noncomputable def C119 : Entry := fun args w K Kp => unArgs [.one (.ptr), .one (.int .u64), .one (.int .u64)] args.toList fun x => F.radix_Tree_Back env x.1 x.2.1 x.2.2.1 (fun r1 w' => K (.int .i64 r1) w') w
noncomputable def body119 : Code := (Tryz.f119.body).getD .skip
def ann119 : Ann := { loops := [], joins := [] }
def T0.radix_Tree_Back (E : Env) (c_radix_Tree_freed : ∀ (a0 : (Option Addr)) (a1 : Int) (a2 : Int) (a3 : (Option Addr)) (K : Int → World → Prop) (w : World), Prop) (a0 : (Option Addr)) (a1 : Int) (a2 : Int) (K : Int → World → Prop) (w : World) : Prop :=
 NC a0 fun p1 =>
 c_radix_Tree_freed a0 a1 a2 (some (p1.add 4)) (fun r2 w3 =>
 K r2 w3
 ) w

theorem tieZ119 (c_radix_Tree_freed : ∀ (a0 : (Option Addr)) (a1 : Int) (a2 : Int) (a3 : (Option Addr)) (K : Int → World → Prop) (w : World), Prop) (x : ArgsV [.one (.ptr), .one (.int .u64), .one (.int .u64)]) (K Kp : Value → World → Prop) (w : World) : T0.radix_Tree_Back env c_radix_Tree_freed x.1 x.2.1 x.2.2.1 (fun r1 w' => K (.int .i64 r1) w') w =
 ev Tryz.prog (tabC [(80, fun args w K Kp => unArgs [.one (.ptr), .one (.int .u64), .one (.int .u64), .one (.ptr)] args.toList fun x => c_radix_Tree_freed x.1 x.2.1 x.2.2.1 x.2.2.2.1 (fun r1 w' => K (.int .i64 r1) w') w)]) (ground Tryz.prog) ann119 body119 (finQ Tryz.prog Tryz.f119 K Kp) (initF (mkArgs [.one (.ptr), .one (.int .u64), .one (.int .u64)] x)) w := by kernel_rfl
theorem tie119 (x : ArgsV [.one (.ptr), .one (.int .u64), .one (.int .u64)]) (K Kp : Value → World → Prop) (w : World) : F.radix_Tree_Back env x.1 x.2.1 x.2.2.1 (fun r1 w' => K (.int .i64 r1) w') w =
 ev Tryz.prog (tabC [(80, C80)]) (ground Tryz.prog) ann119 body119 (finQ Tryz.prog Tryz.f119 K Kp) (initF (mkArgs [.one (.ptr), .one (.int .u64), .one (.int .u64)] x)) w := tieZ119 (F.radix_Tree_freed env) x K Kp w
theorem fits119 : FitsOne Tryz.prog 119 C119 :=
 fits_of_tie (T := [(80, C80)]) (A := ann119) (fn := Tryz.f119) (c := body119) (fits_cons fits80 fits_nil) mixed Tryz.func119 Tryz.call119 (by kernel_rfl) (by kernel_rfl) (by kernel_rfl) tie119

noncomputable def C58 : Entry := fun args w K Kp => unArgs [.one (.ptr), .one (.int .u64), .one (.int .u64)] args.toList fun x => F.radix_Tree_Give env x.1 x.2.1 x.2.2.1 (fun r1 w' => K (.int .i64 r1) w') w
noncomputable def body58 : Code := (Tryz.f58.body).getD .skip
def ann58 : Ann := { loops := [], joins := [] }
def T0.radix_Tree_Give (E : Env) (c_radix_Tree_freed : ∀ (a0 : (Option Addr)) (a1 : Int) (a2 : Int) (a3 : (Option Addr)) (K : Int → World → Prop) (w : World), Prop) (a0 : (Option Addr)) (a1 : Int) (a2 : Int) (K : Int → World → Prop) (w : World) : Prop :=
 NC a0 fun p1 =>
 c_radix_Tree_freed a0 a1 a2 (some (p1.add 6)) (fun r2 w3 =>
 K r2 w3
 ) w

theorem tieZ58 (c_radix_Tree_freed : ∀ (a0 : (Option Addr)) (a1 : Int) (a2 : Int) (a3 : (Option Addr)) (K : Int → World → Prop) (w : World), Prop) (x : ArgsV [.one (.ptr), .one (.int .u64), .one (.int .u64)]) (K Kp : Value → World → Prop) (w : World) : T0.radix_Tree_Give env c_radix_Tree_freed x.1 x.2.1 x.2.2.1 (fun r1 w' => K (.int .i64 r1) w') w =
 ev Tryz.prog (tabC [(80, fun args w K Kp => unArgs [.one (.ptr), .one (.int .u64), .one (.int .u64), .one (.ptr)] args.toList fun x => c_radix_Tree_freed x.1 x.2.1 x.2.2.1 x.2.2.2.1 (fun r1 w' => K (.int .i64 r1) w') w)]) (ground Tryz.prog) ann58 body58 (finQ Tryz.prog Tryz.f58 K Kp) (initF (mkArgs [.one (.ptr), .one (.int .u64), .one (.int .u64)] x)) w := by kernel_rfl
theorem tie58 (x : ArgsV [.one (.ptr), .one (.int .u64), .one (.int .u64)]) (K Kp : Value → World → Prop) (w : World) : F.radix_Tree_Give env x.1 x.2.1 x.2.2.1 (fun r1 w' => K (.int .i64 r1) w') w =
 ev Tryz.prog (tabC [(80, C80)]) (ground Tryz.prog) ann58 body58 (finQ Tryz.prog Tryz.f58 K Kp) (initF (mkArgs [.one (.ptr), .one (.int .u64), .one (.int .u64)] x)) w := tieZ58 (F.radix_Tree_freed env) x K Kp w
theorem fits58 : FitsOne Tryz.prog 58 C58 :=
 fits_of_tie (T := [(80, C80)]) (A := ann58) (fn := Tryz.f58) (c := body58) (fits_cons fits80 fits_nil) mixed Tryz.func58 Tryz.call58 (by kernel_rfl) (by kernel_rfl) (by kernel_rfl) tie58

noncomputable def C98 : Entry := fun args w K Kp => unArgs [.one (.ptr), .one (.int .u64), .one (.int .u64)] args.toList fun x => F.mheap_Heap_back env x.1 x.2.1 x.2.2.1 (fun  w' => K (.tuple ⟨[]⟩) w') w
noncomputable def body98 : Code := (Tryz.f98.body).getD .skip
def ann98 : Ann := { loops := [(2, [(6, .one (.int .u64)), (20, .one (.int .i64))])], joins := [] }
def T0.mheap_Heap_back (E : Env) (c_vmem_Mem_Ready : ∀ (a0 : (Option Addr)) (a1 : Int) (a2 : Int) (K : SlV → World → Prop) (w : World), Prop) (c_radix_Tree_Back : ∀ (a0 : (Option Addr)) (a1 : Int) (a2 : Int) (K : Int → World → Prop) (w : World), Prop) (c_radix_Tree_Give : ∀ (a0 : (Option Addr)) (a1 : Int) (a2 : Int) (K : Int → World → Prop) (w : World), Prop) (a0 : (Option Addr)) (a1 : Int) (a2 : Int) (K : World → Prop) (w : World) : Prop :=
 NC a0 fun p1 =>
 ∃ x2 : (Option Addr), w.cell? p1 = some (.pointer x2) ∧
 c_vmem_Mem_Ready x2 a1 (u64 (a1 + a2)) (fun r3 w4 =>
 LOOP (Int × Int × Unit) (a1, 0, ()) w4 fun s5 _ w6 next7 =>
 CND (decide ((s5.2.1 : Int) < ((r3.len : Nat) : Int))) (
 NC r3.base fun p8 =>
 ((0 : Int) ≤ s5.2.1 ∧ (s5.2.1 : Int) < (r3.len : Nat)) ∧
 ∃ c9 : Int, w6.cell? ((p8.add (Int.toNat s5.2.1 * 2)).add 0) = some (.int .u64 c9) ∧
 ∃ c10 : Int, w6.cell? ((p8.add (Int.toNat s5.2.1 * 2)).add 1) = some (.int .u64 c10) ∧
 AL (.cells #[.int .u64 0, .int .u64 0] E.t_stretch_One) w6 fun b11 w12 =>
 stCells (Addr.mk b11 0 none) 0 [.int .u64 c9, .int .u64 c10] w12 fun w13 =>
 NC a0 fun p14 =>
 ∃ x15 : (Option Addr), w13.drew.cell? (p14.add 1) = some (.pointer x15) ∧
 ∃ x16 : Int, w13.drew.cell? (Addr.mk b11 0 none) = some (.int .u64 x16) ∧
 c_radix_Tree_Back x15 s5.1 (u64 (x16 - s5.1)) (fun r17 w18 =>
 w18.cell? (Addr.mk b11 0 none) = some (.int .u64 x16) ∧
 NC a0 fun p19 =>
 ∃ x20 : (Option Addr), w18.drew.cell? (p19.add 1) = some (.pointer x20) ∧
 ∃ x21 : Int, w18.drew.cell? (Addr.mk b11 0 none) = some (.int .u64 x21) ∧
 ∃ x22 : Int, w18.drew.cell? ((Addr.mk b11 0 none).add 1) = some (.int .u64 x22) ∧
 ∃ x23 : Int, w18.drew.cell? (Addr.mk b11 0 none) = some (.int .u64 x23) ∧
 c_radix_Tree_Give x20 x21 (u64 (x22 - x23)) (fun r24 w25 =>
 w25.cell? (Addr.mk b11 0 none) = some (.int .u64 x23) ∧
 w25.cell? ((Addr.mk b11 0 none).add 1) = some (.int .u64 x22) ∧
 ∃ x26 : Int, w25.cell? ((Addr.mk b11 0 none).add 1) = some (.int .u64 x26) ∧
 next7 (x26, i64 (s5.2.1 + 1), ()) w25
 ) w18.drew
 ) w13.drew
 ) (
 NC a0 fun p27 =>
 ∃ x28 : (Option Addr), w6.cell? (p27.add 1) = some (.pointer x28) ∧
 c_radix_Tree_Back x28 s5.1 (u64 ((u64 (a1 + a2)) - s5.1)) (fun r29 w30 =>
 K  w30
 ) w6
 )
 ) w

theorem tieZ98 (c_vmem_Mem_Ready : ∀ (a0 : (Option Addr)) (a1 : Int) (a2 : Int) (K : SlV → World → Prop) (w : World), Prop) (c_radix_Tree_Back : ∀ (a0 : (Option Addr)) (a1 : Int) (a2 : Int) (K : Int → World → Prop) (w : World), Prop) (c_radix_Tree_Give : ∀ (a0 : (Option Addr)) (a1 : Int) (a2 : Int) (K : Int → World → Prop) (w : World), Prop) (x : ArgsV [.one (.ptr), .one (.int .u64), .one (.int .u64)]) (K Kp : Value → World → Prop) (w : World) : T0.mheap_Heap_back env c_vmem_Mem_Ready c_radix_Tree_Back c_radix_Tree_Give x.1 x.2.1 x.2.2.1 (fun  w' => K (.tuple ⟨[]⟩) w') w =
 ev Tryz.prog (tabC [(118, fun args w K Kp => unArgs [.one (.ptr), .one (.int .u64), .one (.int .u64)] args.toList fun x => c_vmem_Mem_Ready x.1 x.2.1 x.2.2.1 (fun r1 w' => K (.slice r1.base r1.len r1.cap) w') w), (119, fun args w K Kp => unArgs [.one (.ptr), .one (.int .u64), .one (.int .u64)] args.toList fun x => c_radix_Tree_Back x.1 x.2.1 x.2.2.1 (fun r1 w' => K (.int .i64 r1) w') w), (58, fun args w K Kp => unArgs [.one (.ptr), .one (.int .u64), .one (.int .u64)] args.toList fun x => c_radix_Tree_Give x.1 x.2.1 x.2.2.1 (fun r1 w' => K (.int .i64 r1) w') w)]) (ground Tryz.prog) ann98 body98 (finQ Tryz.prog Tryz.f98 K Kp) (initF (mkArgs [.one (.ptr), .one (.int .u64), .one (.int .u64)] x)) w := by kernel_rfl
theorem tie98 (x : ArgsV [.one (.ptr), .one (.int .u64), .one (.int .u64)]) (K Kp : Value → World → Prop) (w : World) : F.mheap_Heap_back env x.1 x.2.1 x.2.2.1 (fun  w' => K (.tuple ⟨[]⟩) w') w =
 ev Tryz.prog (tabC [(118, C118), (119, C119), (58, C58)]) (ground Tryz.prog) ann98 body98 (finQ Tryz.prog Tryz.f98 K Kp) (initF (mkArgs [.one (.ptr), .one (.int .u64), .one (.int .u64)] x)) w := tieZ98 (F.vmem_Mem_Ready env) (F.radix_Tree_Back env) (F.radix_Tree_Give env) x K Kp w
theorem fits98 : FitsOne Tryz.prog 98 C98 :=
 fits_of_tie (T := [(118, C118), (119, C119), (58, C58)]) (A := ann98) (fn := Tryz.f98) (c := body98) (fits_cons fits118 (fits_cons fits119 (fits_cons fits58 fits_nil))) mixed Tryz.func98 Tryz.call98 (by kernel_rfl) (by kernel_rfl) (by kernel_rfl) tie98

noncomputable def body97 : Code := (Tryz.f97.body).getD .skip
def ann97 : Ann := { loops := [], joins := [] }
def T0.mheap_Heap_find_1 (E : Env) (c_mheap_Heap_back : ∀ (a0 : (Option Addr)) (a1 : Int) (a2 : Int) (K : World → Prop) (w : World), Prop) (a0 : (Option Addr)) (a1 : (Option Addr)) (a2 : (Option Addr)) (a3 : (Option Addr)) (K : World → Prop) (w : World) : Prop :=
 NC a0 fun p1 =>
 ∃ x2 : Int, w.cell? p1 = some (.int .i64 x2) ∧
 CND ((x2 : Int) != 0) (
 NC a1 fun p3 =>
 ∃ x4 : (Option Addr), w.cell? p3 = some (.pointer x4) ∧
 NC a2 fun p5 =>
 ∃ x6 : Int, w.cell? p5 = some (.int .u64 x6) ∧
 NC a3 fun p7 =>
 ∃ x8 : Int, w.cell? p7 = some (.int .u64 x8) ∧
 c_mheap_Heap_back x4 x6 x8 (fun  w9 =>
 K  w9
 ) w
 ) (
 K  w
 )

theorem tieZ97 (c_mheap_Heap_back : ∀ (a0 : (Option Addr)) (a1 : Int) (a2 : Int) (K : World → Prop) (w : World), Prop) (x : ArgsV [.one (.ptr), .one (.ptr), .one (.ptr), .one (.ptr)]) (K Kp : Value → World → Prop) (w : World) : T0.mheap_Heap_find_1 env c_mheap_Heap_back x.1 x.2.1 x.2.2.1 x.2.2.2.1 (fun  w' => K (.tuple ⟨[]⟩) w') w =
 ev Tryz.prog (tabC [(98, fun args w K Kp => unArgs [.one (.ptr), .one (.int .u64), .one (.int .u64)] args.toList fun x => c_mheap_Heap_back x.1 x.2.1 x.2.2.1 (fun  w' => K (.tuple ⟨[]⟩) w') w)]) (ground Tryz.prog) ann97 body97 (finQ Tryz.prog Tryz.f97 K Kp) (initF (mkArgs [.one (.ptr), .one (.ptr), .one (.ptr), .one (.ptr)] x)) w := by kernel_rfl
theorem tie97 (x : ArgsV [.one (.ptr), .one (.ptr), .one (.ptr), .one (.ptr)]) (K Kp : Value → World → Prop) (w : World) : F.mheap_Heap_find_1 env x.1 x.2.1 x.2.2.1 x.2.2.2.1 (fun  w' => K (.tuple ⟨[]⟩) w') w =
 ev Tryz.prog (tabC [(98, C98)]) (ground Tryz.prog) ann97 body97 (finQ Tryz.prog Tryz.f97 K Kp) (initF (mkArgs [.one (.ptr), .one (.ptr), .one (.ptr), .one (.ptr)] x)) w := tieZ97 (F.mheap_Heap_back env) x K Kp w
noncomputable def D97 : EntryD := fun args pv w K => unArgs [.one (.ptr), .one (.ptr), .one (.ptr), .one (.ptr)] args.toList fun x => F.mheap_Heap_find_1 env x.1 x.2.1 x.2.2.1 x.2.2.2.1 (fun w' => K false w') w
theorem fitsD97 : FitsDOne Tryz.prog 97 D97 :=
 fitsD_plain (T := [(98, C98)]) (A := ann97) (fn := Tryz.f97) (c := body97) (l := [.one (.ptr), .one (.ptr), .one (.ptr), .one (.ptr)]) (F := fun (x : ArgsV [.one (.ptr), .one (.ptr), .one (.ptr), .one (.ptr)]) K w => F.mheap_Heap_find_1 env x.1 x.2.1 x.2.2.1 x.2.2.2.1 K w) (fits_cons fits98 fits_nil) mixed Tryz.func97 Tryz.call97 (by kernel_rfl) (by kernel_rfl) (by kernel_rfl) (fun x K w => tie97 x (fun _ w' => K w') noP w)

noncomputable def C71 : Entry := fun args w K Kp => unArgs [.one (.ptr), .one (.int .i64), .one (.int .u64)] args.toList fun x => F.mheap_Heap_find env x.1 x.2.1 x.2.2.1 (fun r1 r2 w' => K (.tuple ⟨[.int .u64 r1, .int .i64 r2]⟩) w') w
noncomputable def body71 : Code := (Tryz.f71.body).getD .skip
def ann71 : Ann := { loops := [], joins := [(7, [(6, .one (.int .u64))])] }
def T0.mheap_Heap_find (E : Env) (c_mheap_Heap_got : ∀ (a0 : (Option Addr)) (a1 : Int) (a2 : Int) (K : Int → Bool → World → Prop) (w : World), Prop) (c_mheap_Heap_grow : ∀ (a0 : (Option Addr)) (a1 : Int) (K : Int → World → Prop) (w : World), Prop) (c_radix_Tree_Alloc : ∀ (a0 : (Option Addr)) (a1 : Int) (K : Int → Int → Int → World → Prop) (w : World), Prop) (c_vmem_Mem_Commit : ∀ (a0 : (Option Addr)) (a1 : Int) (a2 : Int) (K : Int → World → Prop) (w : World), Prop) (a0 : (Option Addr)) (a1 : Int) (a2 : Int) (K : Int → Int → World → Prop) (w : World) : Prop :=
 AL (.cells #[.pointer a0] E.t__mheap_Heap) w fun b1 w2 =>
 AL (.cells #[.int .u64 a2] E.t_uint64) w2 fun b3 w4 =>
 AL (.cells #[.int .i64 0] E.t_api_Errno) w4 fun b5 w6 =>
 ∃ x7 : (Option Addr), w6.cell? (Addr.mk b1 0 none) = some (.pointer x7) ∧
 ∃ x8 : Int, w6.cell? (Addr.mk b3 0 none) = some (.int .u64 x8) ∧
 c_mheap_Heap_got x7 a1 x8 (fun r9 r10 w11 =>
 JOIN (Int × Unit) (fun J12 =>
 CND (!r10) (
 ∃ x15 : (Option Addr), w11.cell? (Addr.mk b1 0 none) = some (.pointer x15) ∧
 ∃ x16 : Int, w11.cell? (Addr.mk b3 0 none) = some (.int .u64 x16) ∧
 c_mheap_Heap_grow x15 x16 (fun r17 w18 =>
 stCells (Addr.mk b5 0 none) 0 [.int .i64 r17] w18 fun w19 =>
 ∃ x20 : Int, w19.cell? (Addr.mk b5 0 none) = some (.int .i64 x20) ∧
 CND ((x20 : Int) != 0) (
 ∃ x21 : Int, w19.drew.cell? (Addr.mk b5 0 none) = some (.int .i64 x21) ∧
 stCells (Addr.mk b5 0 none) 0 [.int .i64 x21] w19.drew fun w22 =>
 ∃ x23 : Int, w22.cell? (Addr.mk b5 0 none) = some (.int .i64 x23) ∧
 K 0 x23 w22
 ) (
 ∃ x24 : (Option Addr), w19.drew.cell? (Addr.mk b1 0 none) = some (.pointer x24) ∧
 NC x24 fun p25 =>
 ∃ x26 : (Option Addr), w19.drew.cell? (p25.add 1) = some (.pointer x26) ∧
 ∃ x27 : Int, w19.drew.cell? (Addr.mk b3 0 none) = some (.int .u64 x27) ∧
 c_radix_Tree_Alloc x26 x27 (fun r28 r29 r30 w31 =>
 w31.cell? (Addr.mk b1 0 none) = some (.pointer x24) ∧
 J12 (r28, ()) w31
 ) w19.drew
 )
 ) w11
 ) (
 J12 (r9, ()) w11
 )
 ) fun s13 _ w14 =>
 AL (.cells #[.int .u64 0] E.t_uint64) w14 fun b32 w33 =>
 stCells (Addr.mk b32 0 none) 0 [.int .u64 s13.1] w33 fun w34 =>
 ∃ x35 : (Option Addr), w34.drew.cell? (Addr.mk b1 0 none) = some (.pointer x35) ∧
 NC x35 fun p36 =>
 ∃ x37 : (Option Addr), w34.drew.cell? p36 = some (.pointer x37) ∧
 ∃ x38 : Int, w34.drew.cell? (Addr.mk b3 0 none) = some (.int .u64 x38) ∧
 c_vmem_Mem_Commit x37 s13.1 x38 (fun r39 w40 =>
 w40.cell? (Addr.mk b1 0 none) = some (.pointer x35) ∧
 CND ((r39 : Int) != 0) (
 stCells (Addr.mk b5 0 none) 0 [.int .i64 13] w40 fun w41 =>
 F.mheap_Heap_find_1 E (some (Addr.mk b5 0 none)) (some (Addr.mk b1 0 none)) (some (Addr.mk b32 0 none)) (some (Addr.mk b3 0 none)) (fun w42 =>
 ∃ x43 : Int, w42.cell? (Addr.mk b5 0 none) = some (.int .i64 x43) ∧
 K 0 x43 w42
 ) w41
 ) (
 stCells (Addr.mk b5 0 none) 0 [.int .i64 0] w40 fun w44 =>
 F.mheap_Heap_find_1 E (some (Addr.mk b5 0 none)) (some (Addr.mk b1 0 none)) (some (Addr.mk b32 0 none)) (some (Addr.mk b3 0 none)) (fun w45 =>
 ∃ x46 : Int, w45.cell? (Addr.mk b5 0 none) = some (.int .i64 x46) ∧
 K s13.1 x46 w45
 ) w44
 )
 ) w34.drew
 ) w6

theorem tieZ71 (c_mheap_Heap_got : ∀ (a0 : (Option Addr)) (a1 : Int) (a2 : Int) (K : Int → Bool → World → Prop) (w : World), Prop) (c_mheap_Heap_grow : ∀ (a0 : (Option Addr)) (a1 : Int) (K : Int → World → Prop) (w : World), Prop) (c_radix_Tree_Alloc : ∀ (a0 : (Option Addr)) (a1 : Int) (K : Int → Int → Int → World → Prop) (w : World), Prop) (c_vmem_Mem_Commit : ∀ (a0 : (Option Addr)) (a1 : Int) (a2 : Int) (K : Int → World → Prop) (w : World), Prop) (x : ArgsV [.one (.ptr), .one (.int .i64), .one (.int .u64)]) (K : Value → World → Prop) (w : World) : T0.mheap_Heap_find env c_mheap_Heap_got c_mheap_Heap_grow c_radix_Tree_Alloc c_vmem_Mem_Commit x.1 x.2.1 x.2.2.1 (fun r1 r2 w' => K (.tuple ⟨[.int .u64 r1, .int .i64 r2]⟩) w') w =
 evD Tryz.prog (tabC [(94, fun args w K Kp => unArgs [.one (.ptr), .one (.int .i64), .one (.int .u64)] args.toList fun x => c_mheap_Heap_got x.1 x.2.1 x.2.2.1 (fun r1 r2 w' => K (.tuple ⟨[.int .u64 r1, .bool r2]⟩) w') w), (95, fun args w K Kp => unArgs [.one (.ptr), .one (.int .u64)] args.toList fun x => c_mheap_Heap_grow x.1 x.2.1 (fun r1 w' => K (.int .i64 r1) w') w), (96, fun args w K Kp => unArgs [.one (.ptr), .one (.int .u64)] args.toList fun x => c_radix_Tree_Alloc x.1 x.2.1 (fun r1 r2 r3 w' => K (.tuple ⟨[.int .u64 r1, .int .u64 r2, .int .i64 r3]⟩) w') w), (99, fun args w K Kp => unArgs [.one (.ptr), .one (.int .u64), .one (.int .u64)] args.toList fun x => c_vmem_Mem_Commit x.1 x.2.1 x.2.2.1 (fun r1 w' => K (.int .i64 r1) w') w)]) (ground Tryz.prog) ann71 (finQ Tryz.prog Tryz.f71 K noP) (finD Tryz.prog Tryz.f71 (tabD [(97, D97)]) K noP) body71 (initF (mkArgs [.one (.ptr), .one (.int .i64), .one (.int .u64)] x)) w := by kernel_rfl
theorem tie71 (x : ArgsV [.one (.ptr), .one (.int .i64), .one (.int .u64)]) (K : Value → World → Prop) (w : World) : F.mheap_Heap_find env x.1 x.2.1 x.2.2.1 (fun r1 r2 w' => K (.tuple ⟨[.int .u64 r1, .int .i64 r2]⟩) w') w =
 evD Tryz.prog (tabC [(94, C94), (95, C95), (96, C96), (99, C99)]) (ground Tryz.prog) ann71 (finQ Tryz.prog Tryz.f71 K noP) (finD Tryz.prog Tryz.f71 (tabD [(97, D97)]) K noP) body71 (initF (mkArgs [.one (.ptr), .one (.int .i64), .one (.int .u64)] x)) w := tieZ71 (F.mheap_Heap_got env) (F.mheap_Heap_grow env) (F.radix_Tree_Alloc env) (F.vmem_Mem_Commit env) x K w
theorem fits71 : FitsOne Tryz.prog 71 C71 :=
 fits_of_tieD (T := [(94, C94), (95, C95), (96, C96), (99, C99)]) (TD := [(97, D97)]) (A := ann71) (fn := Tryz.f71) (c := body71) (fits_cons fits94 (fits_cons fits95 (fits_cons fits96 (fits_cons fits99 fits_nil)))) (fitsD_cons fitsD97 fitsD_nil) mixed Tryz.func71 Tryz.call71 (by kernel_rfl) (by kernel_rfl) (by kernel_rfl) tie71

noncomputable def C100 : Entry := fun args w K Kp => unArgs [.one (.ptr)] args.toList fun x => F.fix_Fix_Take env x.1 (fun r1 w' => K (.int .i64 r1) w') w
noncomputable def body100 : Code := (Tryz.f100.body).getD .skip
def ann100 : Ann := { loops := [], joins := [(6, [(3, .one (.ptr))])] }
theorem tie100 (x : ArgsV [.one (.ptr)]) (K Kp : Value → World → Prop) (w : World) : F.fix_Fix_Take env x.1 (fun r1 w' => K (.int .i64 r1) w') w =
 ev Tryz.prog (tabC []) (ground Tryz.prog) ann100 body100 (finQ Tryz.prog Tryz.f100 K Kp) (initF (mkArgs [.one (.ptr)] x)) w := by kernel_rfl
theorem fits100 : FitsOne Tryz.prog 100 C100 :=
 fits_of_tie (T := []) (A := ann100) (fn := Tryz.f100) (c := body100) fits_nil mixed Tryz.func100 Tryz.call100 (by kernel_rfl) (by kernel_rfl) (by kernel_rfl) tie100

noncomputable def C77 : Entry := fun args w K Kp => unArgs [.one (.ptr), .one (.int .u64), .one (.int .u64)] args.toList fun x => F.arena_Map_cut env x.1 x.2.1 x.2.2.1 (fun  w' => K (.tuple ⟨[]⟩) w') w
noncomputable def body77 : Code := (Tryz.f77.body).getD .skip
def ann77 : Ann := { loops := [(2, [(6, .one (.sl)), (16, .one (.int .i64))]), (14, []), (19, [(10, .one (.int .u64))])], joins := [(5, [(29, .one (.bool))]), (8, [(6, .one (.sl))]), (15, [(81, .one (.bool))]), (17, [(91, .one (.bool))])] }
theorem tie77 (x : ArgsV [.one (.ptr), .one (.int .u64), .one (.int .u64)]) (K Kp : Value → World → Prop) (w : World) : F.arena_Map_cut env x.1 x.2.1 x.2.2.1 (fun  w' => K (.tuple ⟨[]⟩) w') w =
 ev Tryz.prog (tabC []) (ground Tryz.prog) ann77 body77 (finQ Tryz.prog Tryz.f77 K Kp) (initF (mkArgs [.one (.ptr), .one (.int .u64), .one (.int .u64)] x)) w := by kernel_rfl
theorem fits77 : FitsOne Tryz.prog 77 C77 :=
 fits_of_tie (T := []) (A := ann77) (fn := Tryz.f77) (c := body77) fits_nil mixed Tryz.func77 Tryz.call77 (by kernel_rfl) (by kernel_rfl) (by kernel_rfl) tie77

noncomputable def C57 : Entry := fun args w K Kp => unArgs [.one (.ptr), .one (.int .u64), .one (.int .u64), .one (.int .i64)] args.toList fun x => F.arena_Map_Set env x.1 x.2.1 x.2.2.1 x.2.2.2.1 (fun r1 w' => K (.int .i64 r1) w') w
noncomputable def body57 : Code := (Tryz.f57.body).getD .skip
def ann57 : Ann := { loops := [], joins := [(2, [(20, .one (.bool))]), (4, [(28, .one (.bool))]), (14, [])] }
def T0.arena_Map_Set (E : Env) (c_stretch_Set_Count : ∀ (a0 : (Option Addr)) (a1 : Int) (a2 : Int) (K : Int → World → Prop) (w : World), Prop) (c_arena_Map_cut : ∀ (a0 : (Option Addr)) (a1 : Int) (a2 : Int) (K : World → Prop) (w : World), Prop) (a0 : (Option Addr)) (a1 : Int) (a2 : Int) (a3 : Int) (K : Int → World → Prop) (w : World) : Prop :=
 AL (.cells #[.pointer a0] E.t__arena_Map) w fun b1 w2 =>
 AL (.cells #[.int .i64 a3] E.t_int) w2 fun b3 w4 =>
 JOIN (Bool × Unit) (fun J5 =>
 CND ((a2 : Int) == 0) (
 J5 (true, ()) w4
 ) (
 ∃ x8 : Int, w4.cell? (Addr.mk b3 0 none) = some (.int .i64 x8) ∧
 J5 (decide ((x8 : Int) < 0), ()) w4
 )
 ) fun s6 _ w7 =>
 CND (s6.1) (
 K 1 w7
 ) (
 JOIN (Bool × Unit) (fun J9 =>
 CND (decide ((a1 : Int) ≥ 34359738368)) (
 J9 (true, ()) w7
 ) (
 J9 (decide ((a2 : Int) > (u64 (34359738368 - a1))), ()) w7
 )
 ) fun s10 _ w11 =>
 CND (s10.1) (
 K 10 w11
 ) (
 512 ≠ (0 : Int) ∧
 512 ≠ (0 : Int) ∧
 LET (u64 (Int.tdiv (u64 ((u64 ((u64 (a1 + a2)) + 512)) - 1)) 512) : Int) fun last_12 =>
 ∃ x13 : (Option Addr), w11.cell? (Addr.mk b1 0 none) = some (.pointer x13) ∧
 NC x13 fun p14 =>
 c_stretch_Set_Count (some p14) (u64 (Int.tdiv a1 512)) last_12 (fun r15 w16 =>
 CND ((r15 : Int) != (u64 (last_12 - (u64 (Int.tdiv a1 512))))) (
 K 10 w16
 ) (
 512 ≠ (0 : Int) ∧
 512 ≠ (0 : Int) ∧
 LET (u64 (Int.tdiv (u64 ((u64 (a1 + 512)) - 1)) 512) : Int) fun from_17 =>
 LET (u64 (Int.tdiv (u64 (a1 + a2)) 512) : Int) fun to_18 =>
 JOIN (Unit) (fun J19 =>
 CND (decide ((from_17 : Int) < to_18)) (
 ∃ x22 : (Option Addr), w16.cell? (Addr.mk b1 0 none) = some (.pointer x22) ∧
 c_arena_Map_cut x22 from_17 to_18 (fun  w23 =>
 ∃ x24 : Int, w23.cell? (Addr.mk b3 0 none) = some (.int .i64 x24) ∧
 CND (decide ((x24 : Int) > 0)) (
 ∃ x25 : (Option Addr), w23.drew.cell? (Addr.mk b1 0 none) = some (.pointer x25) ∧
 ∃ x26 : (Option Addr), w23.drew.cell? (Addr.mk b1 0 none) = some (.pointer x26) ∧
 NC x26 fun p27 =>
 ∃ x28 : SlV, w23.drew.cell? (p27.add 2) = some (.slice x28.base x28.len x28.cap) ∧
 ∃ x29 : Int, w23.drew.cell? (Addr.mk b3 0 none) = some (.int .i64 x29) ∧
 AL (.cells ⟨[.int .u64 from_17, .int .u64 to_18, .int .i64 x29]⟩ E.t_arena_wide) w23.drew fun b30 w31 =>
 w31.cell? (Addr.mk b3 0 none) = some (.int .i64 x29) ∧
 w31.cell? (p27.add 2) = some (.slice x28.base x28.len x28.cap) ∧
 w31.cell? (Addr.mk b1 0 none) = some (.pointer x26) ∧
 w31.cell? (Addr.mk b1 0 none) = some (.pointer x25) ∧
 APP E.t_arena_wide 3 24 #[.int .u64 0, .int .u64 0, .int .i64 0] x28 ⟨(some (Addr.mk b30 0 none)), 1, 1⟩ w31 fun s32 w33 =>
 w33.cell? (Addr.mk b3 0 none) = some (.int .i64 x29) ∧
 w33.cell? (Addr.mk b1 0 none) = some (.pointer x26) ∧
 w33.cell? (Addr.mk b1 0 none) = some (.pointer x25) ∧
 NC x25 fun p34 =>
 stCells (p34.add 2) 0 [.slice s32.base s32.len s32.cap] w33 fun w35 =>
 J19 (()) w35
 ) (
 J19 (()) w23
 )
 ) w16
 ) (
 J19 (()) w16
 )
 ) fun s20 _ w21 =>
 CND (decide ((from_17 : Int) > to_18)) (
 CAL E.call E.f_arena_Map_Set_1 #[.int .u64 a1, .int .u64 (u64 (a1 + a2)), .pointer (some (Addr.mk b3 0 none)), .pointer (some (Addr.mk b1 0 none))] w21 fun r36 w37 =>
 r36 = .tuple ⟨[]⟩ ∧
 K 0 w37
 ) (
 CAL E.call E.f_arena_Map_Set_1 #[.int .u64 a1, .int .u64 (u64 (from_17 * 512)), .pointer (some (Addr.mk b3 0 none)), .pointer (some (Addr.mk b1 0 none))] w21 fun r38 w39 =>
 r38 = .tuple ⟨[]⟩ ∧
 CAL E.call E.f_arena_Map_Set_1 #[.int .u64 (u64 (to_18 * 512)), .int .u64 (u64 (a1 + a2)), .pointer (some (Addr.mk b3 0 none)), .pointer (some (Addr.mk b1 0 none))] w39 fun r40 w41 =>
 r40 = .tuple ⟨[]⟩ ∧
 K 0 w41
 )
 )
 ) w11
 )
 )

theorem tieZ57 (c_stretch_Set_Count : ∀ (a0 : (Option Addr)) (a1 : Int) (a2 : Int) (K : Int → World → Prop) (w : World), Prop) (c_arena_Map_cut : ∀ (a0 : (Option Addr)) (a1 : Int) (a2 : Int) (K : World → Prop) (w : World), Prop) (x : ArgsV [.one (.ptr), .one (.int .u64), .one (.int .u64), .one (.int .i64)]) (K Kp : Value → World → Prop) (w : World) : T0.arena_Map_Set env c_stretch_Set_Count c_arena_Map_cut x.1 x.2.1 x.2.2.1 x.2.2.2.1 (fun r1 w' => K (.int .i64 r1) w') w =
 ev Tryz.prog (tabC [(76, fun args w K Kp => unArgs [.one (.ptr), .one (.int .u64), .one (.int .u64)] args.toList fun x => c_stretch_Set_Count x.1 x.2.1 x.2.2.1 (fun r1 w' => K (.int .u64 r1) w') w), (77, fun args w K Kp => unArgs [.one (.ptr), .one (.int .u64), .one (.int .u64)] args.toList fun x => c_arena_Map_cut x.1 x.2.1 x.2.2.1 (fun  w' => K (.tuple ⟨[]⟩) w') w)]) (ground Tryz.prog) ann57 body57 (finQ Tryz.prog Tryz.f57 K Kp) (initF (mkArgs [.one (.ptr), .one (.int .u64), .one (.int .u64), .one (.int .i64)] x)) w := by kernel_rfl
theorem tie57 (x : ArgsV [.one (.ptr), .one (.int .u64), .one (.int .u64), .one (.int .i64)]) (K Kp : Value → World → Prop) (w : World) : F.arena_Map_Set env x.1 x.2.1 x.2.2.1 x.2.2.2.1 (fun r1 w' => K (.int .i64 r1) w') w =
 ev Tryz.prog (tabC [(76, C76), (77, C77)]) (ground Tryz.prog) ann57 body57 (finQ Tryz.prog Tryz.f57 K Kp) (initF (mkArgs [.one (.ptr), .one (.int .u64), .one (.int .u64), .one (.int .i64)] x)) w := tieZ57 (F.stretch_Set_Count env) (F.arena_Map_cut env) x K Kp w
theorem fits57 : FitsOne Tryz.prog 57 C57 :=
 fits_of_tie (T := [(76, C76), (77, C77)]) (A := ann57) (fn := Tryz.f57) (c := body57) (fits_cons fits76 (fits_cons fits77 fits_nil)) mixed Tryz.func57 Tryz.call57 (by kernel_rfl) (by kernel_rfl) (by kernel_rfl) tie57

noncomputable def C72 : Entry := fun args w K Kp => unArgs [.one (.ptr), .one (.ptr)] args.toList fun x => F.mheap_Heap_keep env x.1 x.2.1 (fun r1 w' => K (.int .i64 r1) w') w
noncomputable def body72 : Code := (Tryz.f72.body).getD .skip
def ann72 : Ann := { loops := [], joins := [] }
def T0.mheap_Heap_keep (E : Env) (c_fix_Fix_Take : ∀ (a0 : (Option Addr)) (K : Int → World → Prop) (w : World), Prop) (c_span_Span_Info : ∀ (a0 : (Option Addr)) (K : Int → Int → Int → Int → Bool → Int → Int → Int → Bool → Bool → World → Prop) (w : World), Prop) (c_arena_Map_Set : ∀ (a0 : (Option Addr)) (a1 : Int) (a2 : Int) (a3 : Int) (K : Int → World → Prop) (w : World), Prop) (a0 : (Option Addr)) (a1 : (Option Addr)) (K : Int → World → Prop) (w : World) : Prop :=
 NC a0 fun p1 =>
 ∃ x2 : (Option Addr), w.cell? (p1.add 3) = some (.pointer x2) ∧
 c_fix_Fix_Take x2 (fun r3 w4 =>
 NC a0 fun p5 =>
 ∃ x6 : (Option Nat), w4.cell? (p5.add 4) = some (.map x6) ∧
 MUPD .i64 r3 (.pointer a1) x6 w4 fun w7 =>
 c_span_Span_Info a1 (fun r8 r9 r10 r11 r12 r13 r14 r15 r16 r17 w18 =>
 AL (.cells #[.int .u64 0, .int .i64 0, .int .i64 0, .int .i64 0, .bool false, .int .i64 0, .int .i64 0, .int .i64 0, .bool false, .bool false] E.t_api_Info) w18 fun b19 w20 =>
 stCells (Addr.mk b19 0 none) 0 [.int .u64 r8, .int .i64 r9, .int .i64 r10, .int .i64 r11, .bool r12, .int .i64 r13, .int .i64 r14, .int .i64 r15, .bool r16, .bool r17] w20 fun w21 =>
 NC a0 fun p22 =>
 ∃ x23 : (Option Addr), w21.drew.cell? (p22.add 2) = some (.pointer x23) ∧
 ∃ x24 : Int, w21.drew.cell? (Addr.mk b19 0 none) = some (.int .u64 x24) ∧
 8192 ≠ (0 : Int) ∧
 ∃ x25 : Int, w21.drew.cell? ((Addr.mk b19 0 none).add 1) = some (.int .i64 x25) ∧
 c_arena_Map_Set x23 (u64 (Int.tdiv x24 8192)) (u64 (x25)) r3 (fun r26 w27 =>
 w27.cell? ((Addr.mk b19 0 none).add 1) = some (.int .i64 x25) ∧
 w27.cell? (Addr.mk b19 0 none) = some (.int .u64 x24) ∧
 NC a0 fun p28 =>
 ∃ x29 : Int, w27.drew.cell? (p28.add 70) = some (.int .u64 x29) ∧
 ∃ x30 : Int, w27.drew.cell? ((Addr.mk b19 0 none).add 1) = some (.int .i64 x30) ∧
 NC a0 fun p31 =>
 stCells (p31.add 70) 0 [.int .u64 (u64 (x29 + (u64 (x30))))] w27.drew fun w32 =>
 K r3 w32
 ) w21.drew
 ) w7
 ) w

theorem tieZ72 (c_fix_Fix_Take : ∀ (a0 : (Option Addr)) (K : Int → World → Prop) (w : World), Prop) (c_span_Span_Info : ∀ (a0 : (Option Addr)) (K : Int → Int → Int → Int → Bool → Int → Int → Int → Bool → Bool → World → Prop) (w : World), Prop) (c_arena_Map_Set : ∀ (a0 : (Option Addr)) (a1 : Int) (a2 : Int) (a3 : Int) (K : Int → World → Prop) (w : World), Prop) (x : ArgsV [.one (.ptr), .one (.ptr)]) (K Kp : Value → World → Prop) (w : World) : T0.mheap_Heap_keep env c_fix_Fix_Take c_span_Span_Info c_arena_Map_Set x.1 x.2.1 (fun r1 w' => K (.int .i64 r1) w') w =
 ev Tryz.prog (tabC [(100, fun args w K Kp => unArgs [.one (.ptr)] args.toList fun x => c_fix_Fix_Take x.1 (fun r1 w' => K (.int .i64 r1) w') w), (26, fun args w K Kp => unArgs [.one (.ptr)] args.toList fun x => c_span_Span_Info x.1 (fun r1 r2 r3 r4 r5 r6 r7 r8 r9 r10 w' => K (.agg ⟨[.int .u64 r1, .int .i64 r2, .int .i64 r3, .int .i64 r4, .bool r5, .int .i64 r6, .int .i64 r7, .int .i64 r8, .bool r9, .bool r10]⟩) w') w), (57, fun args w K Kp => unArgs [.one (.ptr), .one (.int .u64), .one (.int .u64), .one (.int .i64)] args.toList fun x => c_arena_Map_Set x.1 x.2.1 x.2.2.1 x.2.2.2.1 (fun r1 w' => K (.int .i64 r1) w') w)]) (ground Tryz.prog) ann72 body72 (finQ Tryz.prog Tryz.f72 K Kp) (initF (mkArgs [.one (.ptr), .one (.ptr)] x)) w := by kernel_rfl
theorem tie72 (x : ArgsV [.one (.ptr), .one (.ptr)]) (K Kp : Value → World → Prop) (w : World) : F.mheap_Heap_keep env x.1 x.2.1 (fun r1 w' => K (.int .i64 r1) w') w =
 ev Tryz.prog (tabC [(100, C100), (26, C26), (57, C57)]) (ground Tryz.prog) ann72 body72 (finQ Tryz.prog Tryz.f72 K Kp) (initF (mkArgs [.one (.ptr), .one (.ptr)] x)) w := tieZ72 (F.fix_Fix_Take env) (F.span_Span_Info env) (F.arena_Map_Set env) x K Kp w
theorem fits72 : FitsOne Tryz.prog 72 C72 :=
 fits_of_tie (T := [(100, C100), (26, C26), (57, C57)]) (A := ann72) (fn := Tryz.f72) (c := body72) (fits_cons fits100 (fits_cons fits26 (fits_cons fits57 fits_nil))) mixed Tryz.func72 Tryz.call72 (by kernel_rfl) (by kernel_rfl) (by kernel_rfl) tie72

noncomputable def C50 : Entry := fun args w K Kp => unArgs [.one (.ptr), .one (.int .u64), .one (.int .i64)] args.toList fun x => F.mheap_Heap_Manual env x.1 x.2.1 x.2.2.1 (fun r1 r2 w' => K (.tuple ⟨[.int .i64 r1, .int .i64 r2]⟩) w') w
noncomputable def body50 : Code := (Tryz.f50.body).getD .skip
def ann50 : Ann := { loops := [], joins := [] }
def T0.mheap_Heap_Manual (E : Env) (c_span_Manual : ∀ (a0 : Int) (a1 : Int) (a2 : Int) (K : (Option Addr) → Int → World → Prop) (w : World), Prop) (c_mheap_Heap_find : ∀ (a0 : (Option Addr)) (a1 : Int) (a2 : Int) (K : Int → Int → World → Prop) (w : World), Prop) (c_mheap_Heap_keep : ∀ (a0 : (Option Addr)) (a1 : (Option Addr)) (K : Int → World → Prop) (w : World), Prop) (a0 : (Option Addr)) (a1 : Int) (a2 : Int) (K : Int → Int → World → Prop) (w : World) : Prop :=
 c_span_Manual 0 a1 a2 (fun r1 r2 w3 =>
 CND ((r2 : Int) != 0) (
 K 0 1 w3
 ) (
 c_mheap_Heap_find a0 (-1) a1 (fun r4 r5 w6 =>
 CND ((r5 : Int) != 0) (
 K 0 r5 w6
 ) (
 c_span_Manual r4 a1 a2 (fun r7 r8 w9 =>
 c_mheap_Heap_keep a0 r7 (fun r10 w11 =>
 K r10 0 w11
 ) w9
 ) w6
 )
 ) w3
 )
 ) w

theorem tieZ50 (c_span_Manual : ∀ (a0 : Int) (a1 : Int) (a2 : Int) (K : (Option Addr) → Int → World → Prop) (w : World), Prop) (c_mheap_Heap_find : ∀ (a0 : (Option Addr)) (a1 : Int) (a2 : Int) (K : Int → Int → World → Prop) (w : World), Prop) (c_mheap_Heap_keep : ∀ (a0 : (Option Addr)) (a1 : (Option Addr)) (K : Int → World → Prop) (w : World), Prop) (x : ArgsV [.one (.ptr), .one (.int .u64), .one (.int .i64)]) (K Kp : Value → World → Prop) (w : World) : T0.mheap_Heap_Manual env c_span_Manual c_mheap_Heap_find c_mheap_Heap_keep x.1 x.2.1 x.2.2.1 (fun r1 r2 w' => K (.tuple ⟨[.int .i64 r1, .int .i64 r2]⟩) w') w =
 ev Tryz.prog (tabC [(70, fun args w K Kp => unArgs [.one (.int .u64), .one (.int .u64), .one (.int .i64)] args.toList fun x => c_span_Manual x.1 x.2.1 x.2.2.1 (fun r1 r2 w' => K (.tuple ⟨[.pointer r1, .int .i64 r2]⟩) w') w), (71, fun args w K Kp => unArgs [.one (.ptr), .one (.int .i64), .one (.int .u64)] args.toList fun x => c_mheap_Heap_find x.1 x.2.1 x.2.2.1 (fun r1 r2 w' => K (.tuple ⟨[.int .u64 r1, .int .i64 r2]⟩) w') w), (72, fun args w K Kp => unArgs [.one (.ptr), .one (.ptr)] args.toList fun x => c_mheap_Heap_keep x.1 x.2.1 (fun r1 w' => K (.int .i64 r1) w') w)]) (ground Tryz.prog) ann50 body50 (finQ Tryz.prog Tryz.f50 K Kp) (initF (mkArgs [.one (.ptr), .one (.int .u64), .one (.int .i64)] x)) w := by kernel_rfl
theorem tie50 (x : ArgsV [.one (.ptr), .one (.int .u64), .one (.int .i64)]) (K Kp : Value → World → Prop) (w : World) : F.mheap_Heap_Manual env x.1 x.2.1 x.2.2.1 (fun r1 r2 w' => K (.tuple ⟨[.int .i64 r1, .int .i64 r2]⟩) w') w =
 ev Tryz.prog (tabC [(70, C70), (71, C71), (72, C72)]) (ground Tryz.prog) ann50 body50 (finQ Tryz.prog Tryz.f50 K Kp) (initF (mkArgs [.one (.ptr), .one (.int .u64), .one (.int .i64)] x)) w := tieZ50 (F.span_Manual env) (F.mheap_Heap_find env) (F.mheap_Heap_keep env) x K Kp w
theorem fits50 : FitsOne Tryz.prog 50 C50 :=
 fits_of_tie (T := [(70, C70), (71, C71), (72, C72)]) (A := ann50) (fn := Tryz.f50) (c := body50) (fits_cons fits70 (fits_cons fits71 (fits_cons fits72 fits_nil))) mixed Tryz.func50 Tryz.call50 (by kernel_rfl) (by kernel_rfl) (by kernel_rfl) tie50

noncomputable def C25 : Entry := fun args w K Kp => unArgs [.one (.ptr), .one (.int .i64)] args.toList fun x => F.mheap_Heap_Span env x.1 x.2.1 (fun r1 r2 w' => K (.tuple ⟨[.pointer r1, .int .i64 r2]⟩) w') w
noncomputable def body25 : Code := (Tryz.f25.body).getD .skip
def ann25 : Ann := { loops := [], joins := [] }
theorem tie25 (x : ArgsV [.one (.ptr), .one (.int .i64)]) (K Kp : Value → World → Prop) (w : World) : F.mheap_Heap_Span env x.1 x.2.1 (fun r1 r2 w' => K (.tuple ⟨[.pointer r1, .int .i64 r2]⟩) w') w =
 ev Tryz.prog (tabC []) (ground Tryz.prog) ann25 body25 (finQ Tryz.prog Tryz.f25 K Kp) (initF (mkArgs [.one (.ptr), .one (.int .i64)] x)) w := by kernel_rfl
theorem fits25 : FitsOne Tryz.prog 25 C25 :=
 fits_of_tie (T := []) (A := ann25) (fn := Tryz.f25) (c := body25) fits_nil mixed Tryz.func25 Tryz.call25 (by kernel_rfl) (by kernel_rfl) (by kernel_rfl) tie25

noncomputable def C73 : Entry := fun args w K Kp => unArgs [.one (.sl), .one (.int .i64)] args.toList fun x => F._span_row_free env x.1 x.2.1 (fun r1 w' => K (.int .i64 r1) w') w
noncomputable def body73 : Code := (Tryz.f73.body).getD .skip
def ann73 : Ann := { loops := [(2, [(5, .one (.int .i64))])], joins := [(7, [(6, .one (.int .u64))])] }
def T0._span_row_free (E : Env) (c_math_bits_TrailingZeros64 : ∀ (a0 : Int) (K : Int → World → Prop) (w : World), Prop) (a0 : SlV) (a1 : Int) (K : Int → World → Prop) (w : World) : Prop :=
 (0 : Int) ≤ 6 ∧
 LET (Int.fdiv a1 (2 ^ (min (Int.toNat 6) (IntKind.bits .i64))) : Int) fun k_1 =>
 LOOP (Int × Unit) (k_1, ()) w fun s2 _ w3 next4 =>
 CND (decide ((s2.1 : Int) < ((a0.len : Nat) : Int))) (
 NC a0.base fun p5 =>
 ((0 : Int) ≤ s2.1 ∧ (s2.1 : Int) < (a0.len : Nat)) ∧
 ∃ x6 : Int, w3.cell? (p5.add (Int.toNat s2.1 * 1)) = some (.int .u64 x6) ∧
 JOIN (Int × Unit) (fun J7 =>
 (0 : Int) ≤ 6 ∧
 CND ((s2.1 : Int) == (Int.fdiv a1 (2 ^ (min (Int.toNat 6) (IntKind.bits .i64))))) (
 (0 : Int) ≤ (bitK .i64 0 a1 63) ∧
 LET (bitK .u64 1 x6 (u64 ((u64 (1 * 2 ^ (min (Int.toNat (bitK .i64 0 a1 63)) (IntKind.bits .u64)))) - 1)) : Int) fun w_10 =>
 J7 (w_10, ()) w3
 ) (
 J7 (x6, ()) w3
 )
 ) fun s8 _ w9 =>
 CND ((s8.1 : Int) != 18446744073709551615) (
 (0 : Int) ≤ 6 ∧
 c_math_bits_TrailingZeros64 (bitK .u64 2 18446744073709551615 s8.1) (fun r11 w12 =>
 LET (i64 ((i64 (s2.1 * 2 ^ (min (Int.toNat 6) (IntKind.bits .i64)))) + r11) : Int) fun t13 =>
 K t13 w12
 ) w9
 ) (
 next4 (i64 (s2.1 + 1), ()) w9
 )
 ) (
 (0 : Int) ≤ 6 ∧
 LET (maxI a1 (i64 (((a0.len : Nat) : Int) * 2 ^ (min (Int.toNat 6) (IntKind.bits .i64)))) : Int) fun t14 =>
 K t14 w3
 )

theorem tieZ73 (c_math_bits_TrailingZeros64 : ∀ (a0 : Int) (K : Int → World → Prop) (w : World), Prop) (x : ArgsV [.one (.sl), .one (.int .i64)]) (K Kp : Value → World → Prop) (w : World) : T0._span_row_free env c_math_bits_TrailingZeros64 x.1 x.2.1 (fun r1 w' => K (.int .i64 r1) w') w =
 ev Tryz.prog (tabC [(47, fun args w K Kp => unArgs [.one (.int .u64)] args.toList fun x => c_math_bits_TrailingZeros64 x.1 (fun r1 w' => K (.int .i64 r1) w') w)]) (ground Tryz.prog) ann73 body73 (finQ Tryz.prog Tryz.f73 K Kp) (initF (mkArgs [.one (.sl), .one (.int .i64)] x)) w := by kernel_rfl
theorem tie73 (x : ArgsV [.one (.sl), .one (.int .i64)]) (K Kp : Value → World → Prop) (w : World) : F._span_row_free env x.1 x.2.1 (fun r1 w' => K (.int .i64 r1) w') w =
 ev Tryz.prog (tabC [(47, C47)]) (ground Tryz.prog) ann73 body73 (finQ Tryz.prog Tryz.f73 K Kp) (initF (mkArgs [.one (.sl), .one (.int .i64)] x)) w := tieZ73 (F.math_bits_TrailingZeros64 env) x K Kp w
theorem fits73 : FitsOne Tryz.prog 73 C73 :=
 fits_of_tie (T := [(47, C47)]) (A := ann73) (fn := Tryz.f73) (c := body73) (fits_cons fits47 fits_nil) mixed Tryz.func73 Tryz.call73 (by kernel_rfl) (by kernel_rfl) (by kernel_rfl) tie73

noncomputable def C74 : Entry := fun args w K Kp => unArgs [.one (.ptr), .one (.int .i64)] args.toList fun x => F.span_row_set env x.1 x.2.1 (fun  w' => K (.tuple ⟨[]⟩) w') w
noncomputable def body74 : Code := (Tryz.f74.body).getD .skip
def ann74 : Ann := { loops := [(0, [])], joins := [] }
theorem tie74 (x : ArgsV [.one (.ptr), .one (.int .i64)]) (K Kp : Value → World → Prop) (w : World) : F.span_row_set env x.1 x.2.1 (fun  w' => K (.tuple ⟨[]⟩) w') w =
 ev Tryz.prog (tabC []) (ground Tryz.prog) ann74 body74 (finQ Tryz.prog Tryz.f74 K Kp) (initF (mkArgs [.one (.ptr), .one (.int .i64)] x)) w := by kernel_rfl
theorem fits74 : FitsOne Tryz.prog 74 C74 :=
 fits_of_tie (T := []) (A := ann74) (fn := Tryz.f74) (c := body74) fits_nil mixed Tryz.func74 Tryz.call74 (by kernel_rfl) (by kernel_rfl) (by kernel_rfl) tie74

noncomputable def C51 : Entry := fun args w K Kp => unArgs [.one (.ptr)] args.toList fun x => F.span_Span_Next env x.1 (fun r1 r2 w' => K (.tuple ⟨[.int .i64 r1, .int .i64 r2]⟩) w') w
noncomputable def body51 : Code := (Tryz.f51.body).getD .skip
def ann51 : Ann := { loops := [], joins := [] }
def T0.span_Span_Next (E : Env) (c__span_row_free : ∀ (a0 : SlV) (a1 : Int) (K : Int → World → Prop) (w : World), Prop) (c_span_row_set : ∀ (a0 : (Option Addr)) (a1 : Int) (K : World → Prop) (w : World), Prop) (a0 : (Option Addr)) (K : Int → Int → World → Prop) (w : World) : Prop :=
 NC a0 fun p1 =>
 ∃ x2 : Int, w.cell? (p1.add 2) = some (.int .i64 x2) ∧
 CND ((x2 : Int) == 0) (
 K 0 33 w
 ) (
 NC a0 fun p3 =>
 ∃ x4 : SlV, w.drew.cell? (p3.add 11) = some (.slice x4.base x4.len x4.cap) ∧
 NC a0 fun p5 =>
 ∃ x6 : Int, w.drew.cell? (p5.add 13) = some (.int .i64 x6) ∧
 c__span_row_free x4 x6 (fun r7 w8 =>
 NC a0 fun p9 =>
 ∃ x10 : Int, w8.cell? (p9.add 6) = some (.int .i64 x10) ∧
 CND (decide ((r7 : Int) ≥ x10)) (
 K 0 30 w8
 ) (
 NC a0 fun p11 =>
 c_span_row_set (some (p11.add 11)) r7 (fun  w12 =>
 NC a0 fun p13 =>
 ∃ x14 : Int, w12.cell? (p13.add 7) = some (.int .i64 x14) ∧
 NC a0 fun p15 =>
 stCells (p15.add 7) 0 [.int .i64 (i64 (x14 + 1))] w12 fun w16 =>
 NC a0 fun p17 =>
 stCells (p17.add 13) 0 [.int .i64 (i64 (r7 + 1))] w16 fun w18 =>
 K r7 0 w18
 ) w8
 )
 ) w.drew
 )

theorem tieZ51 (c__span_row_free : ∀ (a0 : SlV) (a1 : Int) (K : Int → World → Prop) (w : World), Prop) (c_span_row_set : ∀ (a0 : (Option Addr)) (a1 : Int) (K : World → Prop) (w : World), Prop) (x : ArgsV [.one (.ptr)]) (K Kp : Value → World → Prop) (w : World) : T0.span_Span_Next env c__span_row_free c_span_row_set x.1 (fun r1 r2 w' => K (.tuple ⟨[.int .i64 r1, .int .i64 r2]⟩) w') w =
 ev Tryz.prog (tabC [(73, fun args w K Kp => unArgs [.one (.sl), .one (.int .i64)] args.toList fun x => c__span_row_free x.1 x.2.1 (fun r1 w' => K (.int .i64 r1) w') w), (74, fun args w K Kp => unArgs [.one (.ptr), .one (.int .i64)] args.toList fun x => c_span_row_set x.1 x.2.1 (fun  w' => K (.tuple ⟨[]⟩) w') w)]) (ground Tryz.prog) ann51 body51 (finQ Tryz.prog Tryz.f51 K Kp) (initF (mkArgs [.one (.ptr)] x)) w := by kernel_rfl
theorem tie51 (x : ArgsV [.one (.ptr)]) (K Kp : Value → World → Prop) (w : World) : F.span_Span_Next env x.1 (fun r1 r2 w' => K (.tuple ⟨[.int .i64 r1, .int .i64 r2]⟩) w') w =
 ev Tryz.prog (tabC [(73, C73), (74, C74)]) (ground Tryz.prog) ann51 body51 (finQ Tryz.prog Tryz.f51 K Kp) (initF (mkArgs [.one (.ptr)] x)) w := tieZ51 (F._span_row_free env) (F.span_row_set env) x K Kp w
theorem fits51 : FitsOne Tryz.prog 51 C51 :=
 fits_of_tie (T := [(73, C73), (74, C74)]) (A := ann51) (fn := Tryz.f51) (c := body51) (fits_cons fits73 (fits_cons fits74 fits_nil)) mixed Tryz.func51 Tryz.call51 (by kernel_rfl) (by kernel_rfl) (by kernel_rfl) tie51

end Go.Sh

