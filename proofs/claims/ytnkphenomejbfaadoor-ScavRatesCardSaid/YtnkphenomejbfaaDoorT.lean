/- Each shallow form is what the code of its function comes to: the first half. No further condition. -/
import Derived.Test.YtnkphenomejbfaaDoorF
import Derived.Test.YtnkphenomejbfaaDoorProg
import Derived.KernelRfl
set_option linter.all false
set_option maxRecDepth 100000
set_option maxHeartbeats 4000000
namespace Go.Sh
open Go.Proofs

theorem mixed : Go.Proofs.Tryd.prog.follows .mixedOrders = true := by kernel_rfl
noncomputable def env : Env := { call := ground Go.Proofs.Tryd.prog, t_uint64 := 22, t_bool := 4, t_api_Answers := 28, t_vmem_Mem := 81, t_map_uint64_api_Sum := 159, t_radix_Tree := 123, t_arena_Map := 114, t_fix_Fix := 128, t_pcache_Cache := 139, t_mheap_Heap := 67, t_api_Class := 103, t_span_Span := 86, t_stretch_One := 134, t__stretch_Set := 120, t__mheap_Heap := 23, t_api_Errno := 29, t_fix_record := 130, t__fix_record := 125, t_api_Info := 47, t_arena_wide := 116, t__arena_Map := 61, t_int := 3, t_scav_Pacer := 71, t_vmem_fault := 136, t__1024_uint64 := 137, t__512_int := 153, f_stretch_Set_at_1 := 90, f_arena_Map_Set_1 := 54, g_math_bits_deBruijn64tab := 1 }

noncomputable def C38 : Entry := fun args w K Kp => unArgs [.one (.sl)] args.toList fun x => F.slices_Clone___uint64_uint64_ env x.1 (fun r1 w' => K (.slice r1.base r1.len r1.cap) w') w
noncomputable def body38 : Code := (Go.Proofs.Tryd.f38.body).getD .skip
def ann38 : Ann := { loops := [], joins := [] }
theorem tie38 (x : ArgsV [.one (.sl)]) (K Kp : Value → World → Prop) (w : World) : F.slices_Clone___uint64_uint64_ env x.1 (fun r1 w' => K (.slice r1.base r1.len r1.cap) w') w =
 ev Go.Proofs.Tryd.prog (tabC []) (ground Go.Proofs.Tryd.prog) ann38 body38 (finQ Go.Proofs.Tryd.prog Go.Proofs.Tryd.f38 K Kp) (initF (mkArgs [.one (.sl)] x)) w := by kernel_rfl
theorem fits38 : FitsOne Go.Proofs.Tryd.prog 38 C38 :=
 fits_of_tie (T := []) (A := ann38) (fn := Go.Proofs.Tryd.f38) (c := body38) fits_nil mixed Go.Proofs.Tryd.func38 Go.Proofs.Tryd.call38 (by kernel_rfl) (by kernel_rfl) (by kernel_rfl) tie38

noncomputable def C39 : Entry := fun args w K Kp => unArgs [.one (.sl)] args.toList fun x => F.slices_Clone___bool_bool_ env x.1 (fun r1 w' => K (.slice r1.base r1.len r1.cap) w') w
noncomputable def body39 : Code := (Go.Proofs.Tryd.f39.body).getD .skip
def ann39 : Ann := { loops := [], joins := [] }
theorem tie39 (x : ArgsV [.one (.sl)]) (K Kp : Value → World → Prop) (w : World) : F.slices_Clone___bool_bool_ env x.1 (fun r1 w' => K (.slice r1.base r1.len r1.cap) w') w =
 ev Go.Proofs.Tryd.prog (tabC []) (ground Go.Proofs.Tryd.prog) ann39 body39 (finQ Go.Proofs.Tryd.prog Go.Proofs.Tryd.f39 K Kp) (initF (mkArgs [.one (.sl)] x)) w := by kernel_rfl
theorem fits39 : FitsOne Go.Proofs.Tryd.prog 39 C39 :=
 fits_of_tie (T := []) (A := ann39) (fn := Go.Proofs.Tryd.f39) (c := body39) fits_nil mixed Go.Proofs.Tryd.func39 Go.Proofs.Tryd.call39 (by kernel_rfl) (by kernel_rfl) (by kernel_rfl) tie39

noncomputable def C21 : Entry := fun args w K Kp => unArgs [.agg [.sl, .sl, .sl]] args.toList fun x => F.vmem_New env x.1.1 x.1.2.1 x.1.2.2.1 (fun r1 w' => K (.pointer r1) w') w
noncomputable def body21 : Code := (Go.Proofs.Tryd.f21.body).getD .skip
def ann21 : Ann := { loops := [], joins := [] }
def T0.vmem_New (E : Env) (c_slices_Clone___uint64_uint64_ : ∀ (a0 : SlV) (K : SlV → World → Prop) (w : World), Prop) (c_slices_Clone___bool_bool_ : ∀ (a0 : SlV) (K : SlV → World → Prop) (w : World), Prop) (a0_0 : SlV) (a0_1 : SlV) (a0_2 : SlV) (K : (Option Addr) → World → Prop) (w : World) : Prop :=
 AL (.cells #[.slice a0_0.base a0_0.len a0_0.cap, .slice a0_1.base a0_1.len a0_1.cap, .slice a0_2.base a0_2.len a0_2.cap] E.t_api_Answers) w fun b1 w2 =>
 ∃ x3 : SlV, w2.drew.cell? (Addr.mk b1 0 none) = some (.slice x3.base x3.len x3.cap) ∧
 ∃ x4 : SlV, w2.drew.cell? ((Addr.mk b1 0 none).add 1) = some (.slice x4.base x4.len x4.cap) ∧
 ∃ x5 : SlV, w2.drew.cell? ((Addr.mk b1 0 none).add 2) = some (.slice x5.base x5.len x5.cap) ∧
 (
 c_slices_Clone___uint64_uint64_ x3 (fun r6 w7 =>
 w7.cell? ((Addr.mk b1 0 none).add 2) = some (.slice x5.base x5.len x5.cap) ∧
 w7.cell? ((Addr.mk b1 0 none).add 1) = some (.slice x4.base x4.len x4.cap) ∧
 (
 c_slices_Clone___bool_bool_ x4 (fun r8 w9 =>
 w9.cell? ((Addr.mk b1 0 none).add 2) = some (.slice x5.base x5.len x5.cap) ∧
 (
 c_slices_Clone___uint64_uint64_ x5 (fun r10 w11 =>
 (
 AL (.map #[] 0) w11 fun b12 w13 =>
 AL (.map #[] 0) w13 fun b14 w15 =>
 AL (.cells #[.slice r6.base r6.len r6.cap, .slice r8.base r8.len r8.cap, .slice r10.base r10.len r10.cap, .slice none 0 0, .int .u64 0, .slice none 0 0, .int .u64 0, .slice none 0 0, .int .u64 0, .map (some b12), .map (some b14)] E.t_vmem_Mem) w15 fun b16 w17 =>
 K (some (Addr.mk b16 0 none)) w17

 ) ∧ (
 AL (.map #[] 0) w11 fun b18 w19 =>
 AL (.map #[] 0) w19 fun b20 w21 =>
 AL (.cells #[.slice r6.base r6.len r6.cap, .slice r8.base r8.len r8.cap, .slice r10.base r10.len r10.cap, .slice none 0 0, .int .u64 0, .slice none 0 0, .int .u64 0, .slice none 0 0, .int .u64 0, .map (some b20), .map (some b18)] E.t_vmem_Mem) w21 fun b22 w23 =>
 K (some (Addr.mk b22 0 none)) w23
 )
 ) w9

 ) ∧ (
 AL (.map #[] 0) w9 fun b24 w25 =>
 w25.cell? ((Addr.mk b1 0 none).add 2) = some (.slice x5.base x5.len x5.cap) ∧
 (
 c_slices_Clone___uint64_uint64_ x5 (fun r26 w27 =>
 AL (.map #[] 0) w27 fun b28 w29 =>
 AL (.cells #[.slice r6.base r6.len r6.cap, .slice r8.base r8.len r8.cap, .slice r26.base r26.len r26.cap, .slice none 0 0, .int .u64 0, .slice none 0 0, .int .u64 0, .slice none 0 0, .int .u64 0, .map (some b24), .map (some b28)] E.t_vmem_Mem) w29 fun b30 w31 =>
 K (some (Addr.mk b30 0 none)) w31
 ) w25

 ) ∧ (
 AL (.map #[] 0) w25 fun b32 w33 =>
 w33.cell? ((Addr.mk b1 0 none).add 2) = some (.slice x5.base x5.len x5.cap) ∧
 c_slices_Clone___uint64_uint64_ x5 (fun r34 w35 =>
 AL (.cells #[.slice r6.base r6.len r6.cap, .slice r8.base r8.len r8.cap, .slice r34.base r34.len r34.cap, .slice none 0 0, .int .u64 0, .slice none 0 0, .int .u64 0, .slice none 0 0, .int .u64 0, .map (some b24), .map (some b32)] E.t_vmem_Mem) w35 fun b36 w37 =>
 K (some (Addr.mk b36 0 none)) w37
 ) w33
 )

 ) ∧ (
 AL (.map #[] 0) w9 fun b38 w39 =>
 w39.cell? ((Addr.mk b1 0 none).add 2) = some (.slice x5.base x5.len x5.cap) ∧
 (
 c_slices_Clone___uint64_uint64_ x5 (fun r40 w41 =>
 AL (.map #[] 0) w41 fun b42 w43 =>
 AL (.cells #[.slice r6.base r6.len r6.cap, .slice r8.base r8.len r8.cap, .slice r40.base r40.len r40.cap, .slice none 0 0, .int .u64 0, .slice none 0 0, .int .u64 0, .slice none 0 0, .int .u64 0, .map (some b42), .map (some b38)] E.t_vmem_Mem) w43 fun b44 w45 =>
 K (some (Addr.mk b44 0 none)) w45
 ) w39

 ) ∧ (
 AL (.map #[] 0) w39 fun b46 w47 =>
 w47.cell? ((Addr.mk b1 0 none).add 2) = some (.slice x5.base x5.len x5.cap) ∧
 c_slices_Clone___uint64_uint64_ x5 (fun r48 w49 =>
 AL (.cells #[.slice r6.base r6.len r6.cap, .slice r8.base r8.len r8.cap, .slice r48.base r48.len r48.cap, .slice none 0 0, .int .u64 0, .slice none 0 0, .int .u64 0, .slice none 0 0, .int .u64 0, .map (some b46), .map (some b38)] E.t_vmem_Mem) w49 fun b50 w51 =>
 K (some (Addr.mk b50 0 none)) w51
 ) w47
 )
 )
 ) w7

 ) ∧ (
 AL (.map #[] 0) w7 fun b52 w53 =>
 w53.cell? ((Addr.mk b1 0 none).add 2) = some (.slice x5.base x5.len x5.cap) ∧
 w53.cell? ((Addr.mk b1 0 none).add 1) = some (.slice x4.base x4.len x4.cap) ∧
 (
 c_slices_Clone___bool_bool_ x4 (fun r54 w55 =>
 w55.cell? ((Addr.mk b1 0 none).add 2) = some (.slice x5.base x5.len x5.cap) ∧
 (
 c_slices_Clone___uint64_uint64_ x5 (fun r56 w57 =>
 AL (.map #[] 0) w57 fun b58 w59 =>
 AL (.cells #[.slice r6.base r6.len r6.cap, .slice r54.base r54.len r54.cap, .slice r56.base r56.len r56.cap, .slice none 0 0, .int .u64 0, .slice none 0 0, .int .u64 0, .slice none 0 0, .int .u64 0, .map (some b52), .map (some b58)] E.t_vmem_Mem) w59 fun b60 w61 =>
 K (some (Addr.mk b60 0 none)) w61
 ) w55

 ) ∧ (
 AL (.map #[] 0) w55 fun b62 w63 =>
 w63.cell? ((Addr.mk b1 0 none).add 2) = some (.slice x5.base x5.len x5.cap) ∧
 c_slices_Clone___uint64_uint64_ x5 (fun r64 w65 =>
 AL (.cells #[.slice r6.base r6.len r6.cap, .slice r54.base r54.len r54.cap, .slice r64.base r64.len r64.cap, .slice none 0 0, .int .u64 0, .slice none 0 0, .int .u64 0, .slice none 0 0, .int .u64 0, .map (some b52), .map (some b62)] E.t_vmem_Mem) w65 fun b66 w67 =>
 K (some (Addr.mk b66 0 none)) w67
 ) w63
 )
 ) w53

 ) ∧ (
 AL (.map #[] 0) w53 fun b68 w69 =>
 w69.cell? ((Addr.mk b1 0 none).add 2) = some (.slice x5.base x5.len x5.cap) ∧
 w69.cell? ((Addr.mk b1 0 none).add 1) = some (.slice x4.base x4.len x4.cap) ∧
 c_slices_Clone___bool_bool_ x4 (fun r70 w71 =>
 w71.cell? ((Addr.mk b1 0 none).add 2) = some (.slice x5.base x5.len x5.cap) ∧
 c_slices_Clone___uint64_uint64_ x5 (fun r72 w73 =>
 AL (.cells #[.slice r6.base r6.len r6.cap, .slice r70.base r70.len r70.cap, .slice r72.base r72.len r72.cap, .slice none 0 0, .int .u64 0, .slice none 0 0, .int .u64 0, .slice none 0 0, .int .u64 0, .map (some b52), .map (some b68)] E.t_vmem_Mem) w73 fun b74 w75 =>
 K (some (Addr.mk b74 0 none)) w75
 ) w71
 ) w69
 )

 ) ∧ (
 AL (.map #[] 0) w7 fun b76 w77 =>
 w77.cell? ((Addr.mk b1 0 none).add 2) = some (.slice x5.base x5.len x5.cap) ∧
 w77.cell? ((Addr.mk b1 0 none).add 1) = some (.slice x4.base x4.len x4.cap) ∧
 (
 c_slices_Clone___bool_bool_ x4 (fun r78 w79 =>
 w79.cell? ((Addr.mk b1 0 none).add 2) = some (.slice x5.base x5.len x5.cap) ∧
 (
 c_slices_Clone___uint64_uint64_ x5 (fun r80 w81 =>
 AL (.map #[] 0) w81 fun b82 w83 =>
 AL (.cells #[.slice r6.base r6.len r6.cap, .slice r78.base r78.len r78.cap, .slice r80.base r80.len r80.cap, .slice none 0 0, .int .u64 0, .slice none 0 0, .int .u64 0, .slice none 0 0, .int .u64 0, .map (some b82), .map (some b76)] E.t_vmem_Mem) w83 fun b84 w85 =>
 K (some (Addr.mk b84 0 none)) w85
 ) w79

 ) ∧ (
 AL (.map #[] 0) w79 fun b86 w87 =>
 w87.cell? ((Addr.mk b1 0 none).add 2) = some (.slice x5.base x5.len x5.cap) ∧
 c_slices_Clone___uint64_uint64_ x5 (fun r88 w89 =>
 AL (.cells #[.slice r6.base r6.len r6.cap, .slice r78.base r78.len r78.cap, .slice r88.base r88.len r88.cap, .slice none 0 0, .int .u64 0, .slice none 0 0, .int .u64 0, .slice none 0 0, .int .u64 0, .map (some b86), .map (some b76)] E.t_vmem_Mem) w89 fun b90 w91 =>
 K (some (Addr.mk b90 0 none)) w91
 ) w87
 )
 ) w77

 ) ∧ (
 AL (.map #[] 0) w77 fun b92 w93 =>
 w93.cell? ((Addr.mk b1 0 none).add 2) = some (.slice x5.base x5.len x5.cap) ∧
 w93.cell? ((Addr.mk b1 0 none).add 1) = some (.slice x4.base x4.len x4.cap) ∧
 c_slices_Clone___bool_bool_ x4 (fun r94 w95 =>
 w95.cell? ((Addr.mk b1 0 none).add 2) = some (.slice x5.base x5.len x5.cap) ∧
 c_slices_Clone___uint64_uint64_ x5 (fun r96 w97 =>
 AL (.cells #[.slice r6.base r6.len r6.cap, .slice r94.base r94.len r94.cap, .slice r96.base r96.len r96.cap, .slice none 0 0, .int .u64 0, .slice none 0 0, .int .u64 0, .slice none 0 0, .int .u64 0, .map (some b92), .map (some b76)] E.t_vmem_Mem) w97 fun b98 w99 =>
 K (some (Addr.mk b98 0 none)) w99
 ) w95
 ) w93
 )
 )
 ) w2.drew

 ) ∧ (
 AL (.map #[] 0) w2.drew fun b100 w101 =>
 w101.cell? ((Addr.mk b1 0 none).add 2) = some (.slice x5.base x5.len x5.cap) ∧
 w101.cell? ((Addr.mk b1 0 none).add 1) = some (.slice x4.base x4.len x4.cap) ∧
 w101.cell? (Addr.mk b1 0 none) = some (.slice x3.base x3.len x3.cap) ∧
 (
 c_slices_Clone___uint64_uint64_ x3 (fun r102 w103 =>
 w103.cell? ((Addr.mk b1 0 none).add 2) = some (.slice x5.base x5.len x5.cap) ∧
 w103.cell? ((Addr.mk b1 0 none).add 1) = some (.slice x4.base x4.len x4.cap) ∧
 (
 c_slices_Clone___bool_bool_ x4 (fun r104 w105 =>
 w105.cell? ((Addr.mk b1 0 none).add 2) = some (.slice x5.base x5.len x5.cap) ∧
 (
 c_slices_Clone___uint64_uint64_ x5 (fun r106 w107 =>
 AL (.map #[] 0) w107 fun b108 w109 =>
 AL (.cells #[.slice r102.base r102.len r102.cap, .slice r104.base r104.len r104.cap, .slice r106.base r106.len r106.cap, .slice none 0 0, .int .u64 0, .slice none 0 0, .int .u64 0, .slice none 0 0, .int .u64 0, .map (some b100), .map (some b108)] E.t_vmem_Mem) w109 fun b110 w111 =>
 K (some (Addr.mk b110 0 none)) w111
 ) w105

 ) ∧ (
 AL (.map #[] 0) w105 fun b112 w113 =>
 w113.cell? ((Addr.mk b1 0 none).add 2) = some (.slice x5.base x5.len x5.cap) ∧
 c_slices_Clone___uint64_uint64_ x5 (fun r114 w115 =>
 AL (.cells #[.slice r102.base r102.len r102.cap, .slice r104.base r104.len r104.cap, .slice r114.base r114.len r114.cap, .slice none 0 0, .int .u64 0, .slice none 0 0, .int .u64 0, .slice none 0 0, .int .u64 0, .map (some b100), .map (some b112)] E.t_vmem_Mem) w115 fun b116 w117 =>
 K (some (Addr.mk b116 0 none)) w117
 ) w113
 )
 ) w103

 ) ∧ (
 AL (.map #[] 0) w103 fun b118 w119 =>
 w119.cell? ((Addr.mk b1 0 none).add 2) = some (.slice x5.base x5.len x5.cap) ∧
 w119.cell? ((Addr.mk b1 0 none).add 1) = some (.slice x4.base x4.len x4.cap) ∧
 c_slices_Clone___bool_bool_ x4 (fun r120 w121 =>
 w121.cell? ((Addr.mk b1 0 none).add 2) = some (.slice x5.base x5.len x5.cap) ∧
 c_slices_Clone___uint64_uint64_ x5 (fun r122 w123 =>
 AL (.cells #[.slice r102.base r102.len r102.cap, .slice r120.base r120.len r120.cap, .slice r122.base r122.len r122.cap, .slice none 0 0, .int .u64 0, .slice none 0 0, .int .u64 0, .slice none 0 0, .int .u64 0, .map (some b100), .map (some b118)] E.t_vmem_Mem) w123 fun b124 w125 =>
 K (some (Addr.mk b124 0 none)) w125
 ) w121
 ) w119
 )
 ) w101

 ) ∧ (
 AL (.map #[] 0) w101 fun b126 w127 =>
 w127.cell? ((Addr.mk b1 0 none).add 2) = some (.slice x5.base x5.len x5.cap) ∧
 w127.cell? ((Addr.mk b1 0 none).add 1) = some (.slice x4.base x4.len x4.cap) ∧
 w127.cell? (Addr.mk b1 0 none) = some (.slice x3.base x3.len x3.cap) ∧
 c_slices_Clone___uint64_uint64_ x3 (fun r128 w129 =>
 w129.cell? ((Addr.mk b1 0 none).add 2) = some (.slice x5.base x5.len x5.cap) ∧
 w129.cell? ((Addr.mk b1 0 none).add 1) = some (.slice x4.base x4.len x4.cap) ∧
 c_slices_Clone___bool_bool_ x4 (fun r130 w131 =>
 w131.cell? ((Addr.mk b1 0 none).add 2) = some (.slice x5.base x5.len x5.cap) ∧
 c_slices_Clone___uint64_uint64_ x5 (fun r132 w133 =>
 AL (.cells #[.slice r128.base r128.len r128.cap, .slice r130.base r130.len r130.cap, .slice r132.base r132.len r132.cap, .slice none 0 0, .int .u64 0, .slice none 0 0, .int .u64 0, .slice none 0 0, .int .u64 0, .map (some b100), .map (some b126)] E.t_vmem_Mem) w133 fun b134 w135 =>
 K (some (Addr.mk b134 0 none)) w135
 ) w131
 ) w129
 ) w127
 )

 ) ∧ (
 AL (.map #[] 0) w2.drew fun b136 w137 =>
 w137.cell? ((Addr.mk b1 0 none).add 2) = some (.slice x5.base x5.len x5.cap) ∧
 w137.cell? ((Addr.mk b1 0 none).add 1) = some (.slice x4.base x4.len x4.cap) ∧
 w137.cell? (Addr.mk b1 0 none) = some (.slice x3.base x3.len x3.cap) ∧
 (
 c_slices_Clone___uint64_uint64_ x3 (fun r138 w139 =>
 w139.cell? ((Addr.mk b1 0 none).add 2) = some (.slice x5.base x5.len x5.cap) ∧
 w139.cell? ((Addr.mk b1 0 none).add 1) = some (.slice x4.base x4.len x4.cap) ∧
 (
 c_slices_Clone___bool_bool_ x4 (fun r140 w141 =>
 w141.cell? ((Addr.mk b1 0 none).add 2) = some (.slice x5.base x5.len x5.cap) ∧
 (
 c_slices_Clone___uint64_uint64_ x5 (fun r142 w143 =>
 AL (.map #[] 0) w143 fun b144 w145 =>
 AL (.cells #[.slice r138.base r138.len r138.cap, .slice r140.base r140.len r140.cap, .slice r142.base r142.len r142.cap, .slice none 0 0, .int .u64 0, .slice none 0 0, .int .u64 0, .slice none 0 0, .int .u64 0, .map (some b144), .map (some b136)] E.t_vmem_Mem) w145 fun b146 w147 =>
 K (some (Addr.mk b146 0 none)) w147
 ) w141

 ) ∧ (
 AL (.map #[] 0) w141 fun b148 w149 =>
 w149.cell? ((Addr.mk b1 0 none).add 2) = some (.slice x5.base x5.len x5.cap) ∧
 c_slices_Clone___uint64_uint64_ x5 (fun r150 w151 =>
 AL (.cells #[.slice r138.base r138.len r138.cap, .slice r140.base r140.len r140.cap, .slice r150.base r150.len r150.cap, .slice none 0 0, .int .u64 0, .slice none 0 0, .int .u64 0, .slice none 0 0, .int .u64 0, .map (some b148), .map (some b136)] E.t_vmem_Mem) w151 fun b152 w153 =>
 K (some (Addr.mk b152 0 none)) w153
 ) w149
 )
 ) w139

 ) ∧ (
 AL (.map #[] 0) w139 fun b154 w155 =>
 w155.cell? ((Addr.mk b1 0 none).add 2) = some (.slice x5.base x5.len x5.cap) ∧
 w155.cell? ((Addr.mk b1 0 none).add 1) = some (.slice x4.base x4.len x4.cap) ∧
 c_slices_Clone___bool_bool_ x4 (fun r156 w157 =>
 w157.cell? ((Addr.mk b1 0 none).add 2) = some (.slice x5.base x5.len x5.cap) ∧
 c_slices_Clone___uint64_uint64_ x5 (fun r158 w159 =>
 AL (.cells #[.slice r138.base r138.len r138.cap, .slice r156.base r156.len r156.cap, .slice r158.base r158.len r158.cap, .slice none 0 0, .int .u64 0, .slice none 0 0, .int .u64 0, .slice none 0 0, .int .u64 0, .map (some b154), .map (some b136)] E.t_vmem_Mem) w159 fun b160 w161 =>
 K (some (Addr.mk b160 0 none)) w161
 ) w157
 ) w155
 )
 ) w137

 ) ∧ (
 AL (.map #[] 0) w137 fun b162 w163 =>
 w163.cell? ((Addr.mk b1 0 none).add 2) = some (.slice x5.base x5.len x5.cap) ∧
 w163.cell? ((Addr.mk b1 0 none).add 1) = some (.slice x4.base x4.len x4.cap) ∧
 w163.cell? (Addr.mk b1 0 none) = some (.slice x3.base x3.len x3.cap) ∧
 c_slices_Clone___uint64_uint64_ x3 (fun r164 w165 =>
 w165.cell? ((Addr.mk b1 0 none).add 2) = some (.slice x5.base x5.len x5.cap) ∧
 w165.cell? ((Addr.mk b1 0 none).add 1) = some (.slice x4.base x4.len x4.cap) ∧
 c_slices_Clone___bool_bool_ x4 (fun r166 w167 =>
 w167.cell? ((Addr.mk b1 0 none).add 2) = some (.slice x5.base x5.len x5.cap) ∧
 c_slices_Clone___uint64_uint64_ x5 (fun r168 w169 =>
 AL (.cells #[.slice r164.base r164.len r164.cap, .slice r166.base r166.len r166.cap, .slice r168.base r168.len r168.cap, .slice none 0 0, .int .u64 0, .slice none 0 0, .int .u64 0, .slice none 0 0, .int .u64 0, .map (some b162), .map (some b136)] E.t_vmem_Mem) w169 fun b170 w171 =>
 K (some (Addr.mk b170 0 none)) w171
 ) w167
 ) w165
 ) w163
 )
 )

theorem tieZ21 (c_slices_Clone___uint64_uint64_ : ∀ (a0 : SlV) (K : SlV → World → Prop) (w : World), Prop) (c_slices_Clone___bool_bool_ : ∀ (a0 : SlV) (K : SlV → World → Prop) (w : World), Prop) (x : ArgsV [.agg [.sl, .sl, .sl]]) (K Kp : Value → World → Prop) (w : World) : T0.vmem_New env c_slices_Clone___uint64_uint64_ c_slices_Clone___bool_bool_ x.1.1 x.1.2.1 x.1.2.2.1 (fun r1 w' => K (.pointer r1) w') w =
 ev Go.Proofs.Tryd.prog (tabC [(38, fun args w K Kp => unArgs [.one (.sl)] args.toList fun x => c_slices_Clone___uint64_uint64_ x.1 (fun r1 w' => K (.slice r1.base r1.len r1.cap) w') w), (39, fun args w K Kp => unArgs [.one (.sl)] args.toList fun x => c_slices_Clone___bool_bool_ x.1 (fun r1 w' => K (.slice r1.base r1.len r1.cap) w') w)]) (ground Go.Proofs.Tryd.prog) ann21 body21 (finQ Go.Proofs.Tryd.prog Go.Proofs.Tryd.f21 K Kp) (initF (mkArgs [.agg [.sl, .sl, .sl]] x)) w := by kernel_rfl
theorem tie21 (x : ArgsV [.agg [.sl, .sl, .sl]]) (K Kp : Value → World → Prop) (w : World) : F.vmem_New env x.1.1 x.1.2.1 x.1.2.2.1 (fun r1 w' => K (.pointer r1) w') w =
 ev Go.Proofs.Tryd.prog (tabC [(38, C38), (39, C39)]) (ground Go.Proofs.Tryd.prog) ann21 body21 (finQ Go.Proofs.Tryd.prog Go.Proofs.Tryd.f21 K Kp) (initF (mkArgs [.agg [.sl, .sl, .sl]] x)) w := tieZ21 (F.slices_Clone___uint64_uint64_ env) (F.slices_Clone___bool_bool_ env) x K Kp w
theorem fits21 : FitsOne Go.Proofs.Tryd.prog 21 C21 :=
 fits_of_tie (T := [(38, C38), (39, C39)]) (A := ann21) (fn := Go.Proofs.Tryd.f21) (c := body21) (fits_cons fits38 (fits_cons fits39 fits_nil)) mixed Go.Proofs.Tryd.func21 Go.Proofs.Tryd.call21 (by kernel_rfl) (by kernel_rfl) (by kernel_rfl) tie21

noncomputable def C65 : Entry := fun args w K Kp => unArgs [.one (.ptr)] args.toList fun x => F.radix_Tree_changed env x.1 (fun  w' => K (.tuple ⟨[]⟩) w') w
noncomputable def body65 : Code := (Go.Proofs.Tryd.f65.body).getD .skip
def ann65 : Ann := { loops := [(2, [(5, .one (.int .i64))])], joins := [] }
theorem tie65 (x : ArgsV [.one (.ptr)]) (K Kp : Value → World → Prop) (w : World) : F.radix_Tree_changed env x.1 (fun  w' => K (.tuple ⟨[]⟩) w') w =
 ev Go.Proofs.Tryd.prog (tabC []) (ground Go.Proofs.Tryd.prog) ann65 body65 (finQ Go.Proofs.Tryd.prog Go.Proofs.Tryd.f65 K Kp) (initF (mkArgs [.one (.ptr)] x)) w := by kernel_rfl
theorem fits65 : FitsOne Go.Proofs.Tryd.prog 65 C65 :=
 fits_of_tie (T := []) (A := ann65) (fn := Go.Proofs.Tryd.f65) (c := body65) fits_nil mixed Go.Proofs.Tryd.func65 Go.Proofs.Tryd.call65 (by kernel_rfl) (by kernel_rfl) (by kernel_rfl) tie65

noncomputable def C40 : Entry := fun args w K Kp => unArgs [] args.toList fun x => F.radix_New env  (fun r1 w' => K (.pointer r1) w') w
noncomputable def body40 : Code := (Go.Proofs.Tryd.f40.body).getD .skip
def ann40 : Ann := { loops := [], joins := [] }
def T0.radix_New (E : Env) (c_radix_Tree_changed : ∀ (a0 : (Option Addr)) (K : World → Prop) (w : World), Prop) (K : (Option Addr) → World → Prop) (w : World) : Prop :=
 AL (.cells #[.slice none 0 0, .int .u64 0, .slice none 0 0, .int .u64 0, .slice none 0 0, .int .u64 0, .slice none 0 0, .int .u64 0, .slice none 0 0] E.t_radix_Tree) w fun b1 w2 =>
 c_radix_Tree_changed (some (Addr.mk b1 0 none)) (fun  w3 =>
 K (some (Addr.mk b1 0 none)) w3
 ) w2

theorem tieZ40 (c_radix_Tree_changed : ∀ (a0 : (Option Addr)) (K : World → Prop) (w : World), Prop) (x : ArgsV []) (K Kp : Value → World → Prop) (w : World) : T0.radix_New env c_radix_Tree_changed  (fun r1 w' => K (.pointer r1) w') w =
 ev Go.Proofs.Tryd.prog (tabC [(65, fun args w K Kp => unArgs [.one (.ptr)] args.toList fun x => c_radix_Tree_changed x.1 (fun  w' => K (.tuple ⟨[]⟩) w') w)]) (ground Go.Proofs.Tryd.prog) ann40 body40 (finQ Go.Proofs.Tryd.prog Go.Proofs.Tryd.f40 K Kp) (initF (mkArgs [] x)) w := by kernel_rfl
theorem tie40 (x : ArgsV []) (K Kp : Value → World → Prop) (w : World) : F.radix_New env  (fun r1 w' => K (.pointer r1) w') w =
 ev Go.Proofs.Tryd.prog (tabC [(65, C65)]) (ground Go.Proofs.Tryd.prog) ann40 body40 (finQ Go.Proofs.Tryd.prog Go.Proofs.Tryd.f40 K Kp) (initF (mkArgs [] x)) w := tieZ40 (F.radix_Tree_changed env) x K Kp w
theorem fits40 : FitsOne Go.Proofs.Tryd.prog 40 C40 :=
 fits_of_tie (T := [(65, C65)]) (A := ann40) (fn := Go.Proofs.Tryd.f40) (c := body40) (fits_cons fits65 fits_nil) mixed Go.Proofs.Tryd.func40 Go.Proofs.Tryd.call40 (by kernel_rfl) (by kernel_rfl) (by kernel_rfl) tie40

noncomputable def C41 : Entry := fun args w K Kp => unArgs [] args.toList fun x => F.arena_New env  (fun r1 w' => K (.pointer r1) w') w
noncomputable def body41 : Code := (Go.Proofs.Tryd.f41.body).getD .skip
def ann41 : Ann := { loops := [], joins := [] }
theorem tie41 (x : ArgsV []) (K Kp : Value → World → Prop) (w : World) : F.arena_New env  (fun r1 w' => K (.pointer r1) w') w =
 ev Go.Proofs.Tryd.prog (tabC []) (ground Go.Proofs.Tryd.prog) ann41 body41 (finQ Go.Proofs.Tryd.prog Go.Proofs.Tryd.f41 K Kp) (initF (mkArgs [] x)) w := by kernel_rfl
theorem fits41 : FitsOne Go.Proofs.Tryd.prog 41 C41 :=
 fits_of_tie (T := []) (A := ann41) (fn := Go.Proofs.Tryd.f41) (c := body41) fits_nil mixed Go.Proofs.Tryd.func41 Go.Proofs.Tryd.call41 (by kernel_rfl) (by kernel_rfl) (by kernel_rfl) tie41

noncomputable def C42 : Entry := fun args w K Kp => unArgs [.one (.int .i64)] args.toList fun x => F.fix_New env x.1 (fun r1 r2 w' => K (.tuple ⟨[.pointer r1, .int .i64 r2]⟩) w') w
noncomputable def body42 : Code := (Go.Proofs.Tryd.f42.body).getD .skip
def ann42 : Ann := { loops := [], joins := [(2, [(9, .one (.bool))])] }
theorem tie42 (x : ArgsV [.one (.int .i64)]) (K Kp : Value → World → Prop) (w : World) : F.fix_New env x.1 (fun r1 r2 w' => K (.tuple ⟨[.pointer r1, .int .i64 r2]⟩) w') w =
 ev Go.Proofs.Tryd.prog (tabC []) (ground Go.Proofs.Tryd.prog) ann42 body42 (finQ Go.Proofs.Tryd.prog Go.Proofs.Tryd.f42 K Kp) (initF (mkArgs [.one (.int .i64)] x)) w := by kernel_rfl
theorem fits42 : FitsOne Go.Proofs.Tryd.prog 42 C42 :=
 fits_of_tie (T := []) (A := ann42) (fn := Go.Proofs.Tryd.f42) (c := body42) fits_nil mixed Go.Proofs.Tryd.func42 Go.Proofs.Tryd.call42 (by kernel_rfl) (by kernel_rfl) (by kernel_rfl) tie42

noncomputable def C43 : Entry := fun args w K Kp => unArgs [] args.toList fun x => F.pcache_New env  (fun r1 w' => K (.pointer r1) w') w
noncomputable def body43 : Code := (Go.Proofs.Tryd.f43.body).getD .skip
def ann43 : Ann := { loops := [], joins := [] }
theorem tie43 (x : ArgsV []) (K Kp : Value → World → Prop) (w : World) : F.pcache_New env  (fun r1 w' => K (.pointer r1) w') w =
 ev Go.Proofs.Tryd.prog (tabC []) (ground Go.Proofs.Tryd.prog) ann43 body43 (finQ Go.Proofs.Tryd.prog Go.Proofs.Tryd.f43 K Kp) (initF (mkArgs [] x)) w := by kernel_rfl
theorem fits43 : FitsOne Go.Proofs.Tryd.prog 43 C43 :=
 fits_of_tie (T := []) (A := ann43) (fn := Go.Proofs.Tryd.f43) (c := body43) fits_nil mixed Go.Proofs.Tryd.func43 Go.Proofs.Tryd.call43 (by kernel_rfl) (by kernel_rfl) (by kernel_rfl) tie43

noncomputable def C22 : Entry := fun args w K Kp => unArgs [.one (.ptr)] args.toList fun x => F.mheap_New env x.1 (fun r1 w' => K (.pointer r1) w') w
noncomputable def body22 : Code := (Go.Proofs.Tryd.f22.body).getD .skip
def ann22 : Ann := { loops := [(4, [(18, .one (.int .i64))])], joins := [] }
def T0.mheap_New (E : Env) (c_radix_New : ∀ (K : (Option Addr) → World → Prop) (w : World), Prop) (c_arena_New : ∀ (K : (Option Addr) → World → Prop) (w : World), Prop) (c_fix_New : ∀ (a0 : Int) (K : (Option Addr) → Int → World → Prop) (w : World), Prop) (c_pcache_New : ∀ (K : (Option Addr) → World → Prop) (w : World), Prop) (a0 : (Option Addr)) (K : (Option Addr) → World → Prop) (w : World) : Prop :=
 c_radix_New  (fun r1 w2 =>
 c_arena_New  (fun r3 w4 =>
 AL (.map #[] 0) w4 fun b5 w6 =>
 AL (.cells #[.pointer a0, .pointer r1, .pointer r3, .pointer none, .map (some b5), .pointer none, .pointer none, .pointer none, .pointer none, .pointer none, .pointer none, .pointer none, .pointer none, .pointer none, .pointer none, .pointer none, .pointer none, .pointer none, .pointer none, .pointer none, .pointer none, .pointer none, .pointer none, .pointer none, .pointer none, .pointer none, .pointer none, .pointer none, .pointer none, .pointer none, .pointer none, .pointer none, .pointer none, .pointer none, .pointer none, .pointer none, .pointer none, .pointer none, .pointer none, .pointer none, .pointer none, .pointer none, .pointer none, .pointer none, .pointer none, .pointer none, .pointer none, .pointer none, .pointer none, .pointer none, .pointer none, .pointer none, .pointer none, .pointer none, .pointer none, .pointer none, .pointer none, .pointer none, .pointer none, .pointer none, .pointer none, .pointer none, .pointer none, .pointer none, .pointer none, .pointer none, .pointer none, .pointer none, .pointer none, .int .u64 0, .int .u64 0] E.t_mheap_Heap) w6 fun b7 w8 =>
 c_fix_New 1 (fun r9 r10 w11 =>
 stCells ((Addr.mk b7 0 none).add 3) 0 [.pointer r9] w11 fun w12 =>
 LOOP (Int × Unit) (0, ()) w12 fun s13 _ w14 next15 =>
 CND (decide ((s13.1 : Int) < 64)) (
 c_pcache_New  (fun r16 w17 =>
 ((0 : Int) ≤ s13.1 ∧ (s13.1 : Int) < (64 : Nat)) ∧
 stCells (((Addr.mk b7 0 none).add 5).add (Int.toNat s13.1 * 1)) 0 [.pointer r16] w17 fun w18 =>
 next15 (i64 (s13.1 + 1), ()) w18
 ) w14.drew
 ) (
 K (some (Addr.mk b7 0 none)) w14
 )
 ) w8
 ) w2
 ) w

theorem tieZ22 (c_radix_New : ∀ (K : (Option Addr) → World → Prop) (w : World), Prop) (c_arena_New : ∀ (K : (Option Addr) → World → Prop) (w : World), Prop) (c_fix_New : ∀ (a0 : Int) (K : (Option Addr) → Int → World → Prop) (w : World), Prop) (c_pcache_New : ∀ (K : (Option Addr) → World → Prop) (w : World), Prop) (x : ArgsV [.one (.ptr)]) (K Kp : Value → World → Prop) (w : World) : T0.mheap_New env c_radix_New c_arena_New c_fix_New c_pcache_New x.1 (fun r1 w' => K (.pointer r1) w') w =
 ev Go.Proofs.Tryd.prog (tabC [(40, fun args w K Kp => unArgs [] args.toList fun x => c_radix_New  (fun r1 w' => K (.pointer r1) w') w), (41, fun args w K Kp => unArgs [] args.toList fun x => c_arena_New  (fun r1 w' => K (.pointer r1) w') w), (42, fun args w K Kp => unArgs [.one (.int .i64)] args.toList fun x => c_fix_New x.1 (fun r1 r2 w' => K (.tuple ⟨[.pointer r1, .int .i64 r2]⟩) w') w), (43, fun args w K Kp => unArgs [] args.toList fun x => c_pcache_New  (fun r1 w' => K (.pointer r1) w') w)]) (ground Go.Proofs.Tryd.prog) ann22 body22 (finQ Go.Proofs.Tryd.prog Go.Proofs.Tryd.f22 K Kp) (initF (mkArgs [.one (.ptr)] x)) w := by kernel_rfl
theorem tie22 (x : ArgsV [.one (.ptr)]) (K Kp : Value → World → Prop) (w : World) : F.mheap_New env x.1 (fun r1 w' => K (.pointer r1) w') w =
 ev Go.Proofs.Tryd.prog (tabC [(40, C40), (41, C41), (42, C42), (43, C43)]) (ground Go.Proofs.Tryd.prog) ann22 body22 (finQ Go.Proofs.Tryd.prog Go.Proofs.Tryd.f22 K Kp) (initF (mkArgs [.one (.ptr)] x)) w := tieZ22 (F.radix_New env) (F.arena_New env) (F.fix_New env) (F.pcache_New env) x K Kp w
theorem fits22 : FitsOne Go.Proofs.Tryd.prog 22 C22 :=
 fits_of_tie (T := [(40, C40), (41, C41), (42, C42), (43, C43)]) (A := ann22) (fn := Go.Proofs.Tryd.f22) (c := body22) (fits_cons fits40 (fits_cons fits41 (fits_cons fits42 (fits_cons fits43 fits_nil)))) mixed Go.Proofs.Tryd.func22 Go.Proofs.Tryd.call22 (by kernel_rfl) (by kernel_rfl) (by kernel_rfl) tie22

noncomputable def C6 : Entry := fun args w K Kp => unArgs [.agg [.sl, .sl, .sl]] args.toList fun x => F.mallowlaw22_fresh env x.1.1 x.1.2.1 x.1.2.2.1 (fun r1 w' => K (.pointer r1) w') w
noncomputable def body6 : Code := (Go.Proofs.Tryd.f6.body).getD .skip
def ann6 : Ann := { loops := [], joins := [(2, [(3, .one (.ptr))])] }
def T0.mallowlaw22_fresh (E : Env) (c_vmem_New : ∀ (a0_0 : SlV) (a0_1 : SlV) (a0_2 : SlV) (K : (Option Addr) → World → Prop) (w : World), Prop) (c_mheap_New : ∀ (a0 : (Option Addr)) (K : (Option Addr) → World → Prop) (w : World), Prop) (a0_0 : SlV) (a0_1 : SlV) (a0_2 : SlV) (K : (Option Addr) → World → Prop) (w : World) : Prop :=
 AL (.cells #[.slice a0_0.base a0_0.len a0_0.cap, .slice a0_1.base a0_1.len a0_1.cap, .slice a0_2.base a0_2.len a0_2.cap] E.t_api_Answers) w fun b1 w2 =>
 JOIN ((Option Addr) × Unit) (fun J3 =>
 ∃ x6 : SlV, w2.drew.cell? (Addr.mk b1 0 none) = some (.slice x6.base x6.len x6.cap) ∧
 ∃ x7 : SlV, w2.drew.cell? ((Addr.mk b1 0 none).add 1) = some (.slice x7.base x7.len x7.cap) ∧
 ∃ x8 : SlV, w2.drew.cell? ((Addr.mk b1 0 none).add 2) = some (.slice x8.base x8.len x8.cap) ∧
 (
 AL (.cells ⟨[]⟩ E.t_uint64) w2.drew fun b9 w10 =>
 w10.cell? ((Addr.mk b1 0 none).add 2) = some (.slice x8.base x8.len x8.cap) ∧
 w10.cell? ((Addr.mk b1 0 none).add 1) = some (.slice x7.base x7.len x7.cap) ∧
 w10.cell? (Addr.mk b1 0 none) = some (.slice x6.base x6.len x6.cap) ∧
 (
 APP E.t_uint64 1 8 #[.int .u64 0] ⟨(some (Addr.mk b9 0 none)), 0, 0⟩ x6 w10 fun s11 w12 =>
 w12.cell? ((Addr.mk b1 0 none).add 2) = some (.slice x8.base x8.len x8.cap) ∧
 w12.cell? ((Addr.mk b1 0 none).add 1) = some (.slice x7.base x7.len x7.cap) ∧
 (
 AL (.cells ⟨[]⟩ E.t_bool) w12 fun b13 w14 =>
 w14.cell? ((Addr.mk b1 0 none).add 2) = some (.slice x8.base x8.len x8.cap) ∧
 w14.cell? ((Addr.mk b1 0 none).add 1) = some (.slice x7.base x7.len x7.cap) ∧
 (
 APP E.t_bool 1 1 #[.bool false] ⟨(some (Addr.mk b13 0 none)), 0, 0⟩ x7 w14 fun s15 w16 =>
 w16.cell? ((Addr.mk b1 0 none).add 2) = some (.slice x8.base x8.len x8.cap) ∧
 AL (.cells ⟨[]⟩ E.t_uint64) w16 fun b17 w18 =>
 w18.cell? ((Addr.mk b1 0 none).add 2) = some (.slice x8.base x8.len x8.cap) ∧
 APP E.t_uint64 1 8 #[.int .u64 0] ⟨(some (Addr.mk b17 0 none)), 0, 0⟩ x8 w18 fun s19 w20 =>
 c_vmem_New s11 s15 s19 (fun r21 w22 =>
 J3 (r21, ()) w22
 ) w20

 ) ∧ (
 AL (.cells ⟨[]⟩ E.t_uint64) w14 fun b23 w24 =>
 w24.cell? ((Addr.mk b1 0 none).add 2) = some (.slice x8.base x8.len x8.cap) ∧
 w24.cell? ((Addr.mk b1 0 none).add 1) = some (.slice x7.base x7.len x7.cap) ∧
 APP E.t_bool 1 1 #[.bool false] ⟨(some (Addr.mk b13 0 none)), 0, 0⟩ x7 w24 fun s25 w26 =>
 w26.cell? ((Addr.mk b1 0 none).add 2) = some (.slice x8.base x8.len x8.cap) ∧
 APP E.t_uint64 1 8 #[.int .u64 0] ⟨(some (Addr.mk b23 0 none)), 0, 0⟩ x8 w26 fun s27 w28 =>
 c_vmem_New s11 s25 s27 (fun r29 w30 =>
 J3 (r29, ()) w30
 ) w28
 )

 ) ∧ (
 AL (.cells ⟨[]⟩ E.t_uint64) w12 fun b31 w32 =>
 w32.cell? ((Addr.mk b1 0 none).add 2) = some (.slice x8.base x8.len x8.cap) ∧
 w32.cell? ((Addr.mk b1 0 none).add 1) = some (.slice x7.base x7.len x7.cap) ∧
 AL (.cells ⟨[]⟩ E.t_bool) w32 fun b33 w34 =>
 w34.cell? ((Addr.mk b1 0 none).add 2) = some (.slice x8.base x8.len x8.cap) ∧
 w34.cell? ((Addr.mk b1 0 none).add 1) = some (.slice x7.base x7.len x7.cap) ∧
 APP E.t_bool 1 1 #[.bool false] ⟨(some (Addr.mk b33 0 none)), 0, 0⟩ x7 w34 fun s35 w36 =>
 w36.cell? ((Addr.mk b1 0 none).add 2) = some (.slice x8.base x8.len x8.cap) ∧
 APP E.t_uint64 1 8 #[.int .u64 0] ⟨(some (Addr.mk b31 0 none)), 0, 0⟩ x8 w36 fun s37 w38 =>
 c_vmem_New s11 s35 s37 (fun r39 w40 =>
 J3 (r39, ()) w40
 ) w38
 )

 ) ∧ (
 AL (.cells ⟨[]⟩ E.t_bool) w10 fun b41 w42 =>
 w42.cell? ((Addr.mk b1 0 none).add 2) = some (.slice x8.base x8.len x8.cap) ∧
 w42.cell? ((Addr.mk b1 0 none).add 1) = some (.slice x7.base x7.len x7.cap) ∧
 w42.cell? (Addr.mk b1 0 none) = some (.slice x6.base x6.len x6.cap) ∧
 (
 APP E.t_uint64 1 8 #[.int .u64 0] ⟨(some (Addr.mk b9 0 none)), 0, 0⟩ x6 w42 fun s43 w44 =>
 w44.cell? ((Addr.mk b1 0 none).add 2) = some (.slice x8.base x8.len x8.cap) ∧
 w44.cell? ((Addr.mk b1 0 none).add 1) = some (.slice x7.base x7.len x7.cap) ∧
 (
 APP E.t_bool 1 1 #[.bool false] ⟨(some (Addr.mk b41 0 none)), 0, 0⟩ x7 w44 fun s45 w46 =>
 w46.cell? ((Addr.mk b1 0 none).add 2) = some (.slice x8.base x8.len x8.cap) ∧
 AL (.cells ⟨[]⟩ E.t_uint64) w46 fun b47 w48 =>
 w48.cell? ((Addr.mk b1 0 none).add 2) = some (.slice x8.base x8.len x8.cap) ∧
 APP E.t_uint64 1 8 #[.int .u64 0] ⟨(some (Addr.mk b47 0 none)), 0, 0⟩ x8 w48 fun s49 w50 =>
 c_vmem_New s43 s45 s49 (fun r51 w52 =>
 J3 (r51, ()) w52
 ) w50

 ) ∧ (
 AL (.cells ⟨[]⟩ E.t_uint64) w44 fun b53 w54 =>
 w54.cell? ((Addr.mk b1 0 none).add 2) = some (.slice x8.base x8.len x8.cap) ∧
 w54.cell? ((Addr.mk b1 0 none).add 1) = some (.slice x7.base x7.len x7.cap) ∧
 APP E.t_bool 1 1 #[.bool false] ⟨(some (Addr.mk b41 0 none)), 0, 0⟩ x7 w54 fun s55 w56 =>
 w56.cell? ((Addr.mk b1 0 none).add 2) = some (.slice x8.base x8.len x8.cap) ∧
 APP E.t_uint64 1 8 #[.int .u64 0] ⟨(some (Addr.mk b53 0 none)), 0, 0⟩ x8 w56 fun s57 w58 =>
 c_vmem_New s43 s55 s57 (fun r59 w60 =>
 J3 (r59, ()) w60
 ) w58
 )

 ) ∧ (
 AL (.cells ⟨[]⟩ E.t_uint64) w42 fun b61 w62 =>
 w62.cell? ((Addr.mk b1 0 none).add 2) = some (.slice x8.base x8.len x8.cap) ∧
 w62.cell? ((Addr.mk b1 0 none).add 1) = some (.slice x7.base x7.len x7.cap) ∧
 w62.cell? (Addr.mk b1 0 none) = some (.slice x6.base x6.len x6.cap) ∧
 APP E.t_uint64 1 8 #[.int .u64 0] ⟨(some (Addr.mk b9 0 none)), 0, 0⟩ x6 w62 fun s63 w64 =>
 w64.cell? ((Addr.mk b1 0 none).add 2) = some (.slice x8.base x8.len x8.cap) ∧
 w64.cell? ((Addr.mk b1 0 none).add 1) = some (.slice x7.base x7.len x7.cap) ∧
 APP E.t_bool 1 1 #[.bool false] ⟨(some (Addr.mk b41 0 none)), 0, 0⟩ x7 w64 fun s65 w66 =>
 w66.cell? ((Addr.mk b1 0 none).add 2) = some (.slice x8.base x8.len x8.cap) ∧
 APP E.t_uint64 1 8 #[.int .u64 0] ⟨(some (Addr.mk b61 0 none)), 0, 0⟩ x8 w66 fun s67 w68 =>
 c_vmem_New s63 s65 s67 (fun r69 w70 =>
 J3 (r69, ()) w70
 ) w68
 )

 ) ∧ (
 AL (.cells ⟨[]⟩ E.t_uint64) w10 fun b71 w72 =>
 w72.cell? ((Addr.mk b1 0 none).add 2) = some (.slice x8.base x8.len x8.cap) ∧
 w72.cell? ((Addr.mk b1 0 none).add 1) = some (.slice x7.base x7.len x7.cap) ∧
 w72.cell? (Addr.mk b1 0 none) = some (.slice x6.base x6.len x6.cap) ∧
 (
 APP E.t_uint64 1 8 #[.int .u64 0] ⟨(some (Addr.mk b9 0 none)), 0, 0⟩ x6 w72 fun s73 w74 =>
 w74.cell? ((Addr.mk b1 0 none).add 2) = some (.slice x8.base x8.len x8.cap) ∧
 w74.cell? ((Addr.mk b1 0 none).add 1) = some (.slice x7.base x7.len x7.cap) ∧
 AL (.cells ⟨[]⟩ E.t_bool) w74 fun b75 w76 =>
 w76.cell? ((Addr.mk b1 0 none).add 2) = some (.slice x8.base x8.len x8.cap) ∧
 w76.cell? ((Addr.mk b1 0 none).add 1) = some (.slice x7.base x7.len x7.cap) ∧
 APP E.t_bool 1 1 #[.bool false] ⟨(some (Addr.mk b75 0 none)), 0, 0⟩ x7 w76 fun s77 w78 =>
 w78.cell? ((Addr.mk b1 0 none).add 2) = some (.slice x8.base x8.len x8.cap) ∧
 APP E.t_uint64 1 8 #[.int .u64 0] ⟨(some (Addr.mk b71 0 none)), 0, 0⟩ x8 w78 fun s79 w80 =>
 c_vmem_New s73 s77 s79 (fun r81 w82 =>
 J3 (r81, ()) w82
 ) w80

 ) ∧ (
 AL (.cells ⟨[]⟩ E.t_bool) w72 fun b83 w84 =>
 w84.cell? ((Addr.mk b1 0 none).add 2) = some (.slice x8.base x8.len x8.cap) ∧
 w84.cell? ((Addr.mk b1 0 none).add 1) = some (.slice x7.base x7.len x7.cap) ∧
 w84.cell? (Addr.mk b1 0 none) = some (.slice x6.base x6.len x6.cap) ∧
 APP E.t_uint64 1 8 #[.int .u64 0] ⟨(some (Addr.mk b9 0 none)), 0, 0⟩ x6 w84 fun s85 w86 =>
 w86.cell? ((Addr.mk b1 0 none).add 2) = some (.slice x8.base x8.len x8.cap) ∧
 w86.cell? ((Addr.mk b1 0 none).add 1) = some (.slice x7.base x7.len x7.cap) ∧
 APP E.t_bool 1 1 #[.bool false] ⟨(some (Addr.mk b83 0 none)), 0, 0⟩ x7 w86 fun s87 w88 =>
 w88.cell? ((Addr.mk b1 0 none).add 2) = some (.slice x8.base x8.len x8.cap) ∧
 APP E.t_uint64 1 8 #[.int .u64 0] ⟨(some (Addr.mk b71 0 none)), 0, 0⟩ x8 w88 fun s89 w90 =>
 c_vmem_New s85 s87 s89 (fun r91 w92 =>
 J3 (r91, ()) w92
 ) w90
 )
 )

 ) ∧ (
 AL (.cells ⟨[]⟩ E.t_bool) w2.drew fun b93 w94 =>
 w94.cell? ((Addr.mk b1 0 none).add 2) = some (.slice x8.base x8.len x8.cap) ∧
 w94.cell? ((Addr.mk b1 0 none).add 1) = some (.slice x7.base x7.len x7.cap) ∧
 w94.cell? (Addr.mk b1 0 none) = some (.slice x6.base x6.len x6.cap) ∧
 (
 AL (.cells ⟨[]⟩ E.t_uint64) w94 fun b95 w96 =>
 w96.cell? ((Addr.mk b1 0 none).add 2) = some (.slice x8.base x8.len x8.cap) ∧
 w96.cell? ((Addr.mk b1 0 none).add 1) = some (.slice x7.base x7.len x7.cap) ∧
 w96.cell? (Addr.mk b1 0 none) = some (.slice x6.base x6.len x6.cap) ∧
 (
 APP E.t_uint64 1 8 #[.int .u64 0] ⟨(some (Addr.mk b95 0 none)), 0, 0⟩ x6 w96 fun s97 w98 =>
 w98.cell? ((Addr.mk b1 0 none).add 2) = some (.slice x8.base x8.len x8.cap) ∧
 w98.cell? ((Addr.mk b1 0 none).add 1) = some (.slice x7.base x7.len x7.cap) ∧
 (
 APP E.t_bool 1 1 #[.bool false] ⟨(some (Addr.mk b93 0 none)), 0, 0⟩ x7 w98 fun s99 w100 =>
 w100.cell? ((Addr.mk b1 0 none).add 2) = some (.slice x8.base x8.len x8.cap) ∧
 AL (.cells ⟨[]⟩ E.t_uint64) w100 fun b101 w102 =>
 w102.cell? ((Addr.mk b1 0 none).add 2) = some (.slice x8.base x8.len x8.cap) ∧
 APP E.t_uint64 1 8 #[.int .u64 0] ⟨(some (Addr.mk b101 0 none)), 0, 0⟩ x8 w102 fun s103 w104 =>
 c_vmem_New s97 s99 s103 (fun r105 w106 =>
 J3 (r105, ()) w106
 ) w104

 ) ∧ (
 AL (.cells ⟨[]⟩ E.t_uint64) w98 fun b107 w108 =>
 w108.cell? ((Addr.mk b1 0 none).add 2) = some (.slice x8.base x8.len x8.cap) ∧
 w108.cell? ((Addr.mk b1 0 none).add 1) = some (.slice x7.base x7.len x7.cap) ∧
 APP E.t_bool 1 1 #[.bool false] ⟨(some (Addr.mk b93 0 none)), 0, 0⟩ x7 w108 fun s109 w110 =>
 w110.cell? ((Addr.mk b1 0 none).add 2) = some (.slice x8.base x8.len x8.cap) ∧
 APP E.t_uint64 1 8 #[.int .u64 0] ⟨(some (Addr.mk b107 0 none)), 0, 0⟩ x8 w110 fun s111 w112 =>
 c_vmem_New s97 s109 s111 (fun r113 w114 =>
 J3 (r113, ()) w114
 ) w112
 )

 ) ∧ (
 AL (.cells ⟨[]⟩ E.t_uint64) w96 fun b115 w116 =>
 w116.cell? ((Addr.mk b1 0 none).add 2) = some (.slice x8.base x8.len x8.cap) ∧
 w116.cell? ((Addr.mk b1 0 none).add 1) = some (.slice x7.base x7.len x7.cap) ∧
 w116.cell? (Addr.mk b1 0 none) = some (.slice x6.base x6.len x6.cap) ∧
 APP E.t_uint64 1 8 #[.int .u64 0] ⟨(some (Addr.mk b95 0 none)), 0, 0⟩ x6 w116 fun s117 w118 =>
 w118.cell? ((Addr.mk b1 0 none).add 2) = some (.slice x8.base x8.len x8.cap) ∧
 w118.cell? ((Addr.mk b1 0 none).add 1) = some (.slice x7.base x7.len x7.cap) ∧
 APP E.t_bool 1 1 #[.bool false] ⟨(some (Addr.mk b93 0 none)), 0, 0⟩ x7 w118 fun s119 w120 =>
 w120.cell? ((Addr.mk b1 0 none).add 2) = some (.slice x8.base x8.len x8.cap) ∧
 APP E.t_uint64 1 8 #[.int .u64 0] ⟨(some (Addr.mk b115 0 none)), 0, 0⟩ x8 w120 fun s121 w122 =>
 c_vmem_New s117 s119 s121 (fun r123 w124 =>
 J3 (r123, ()) w124
 ) w122
 )

 ) ∧ (
 AL (.cells ⟨[]⟩ E.t_uint64) w94 fun b125 w126 =>
 w126.cell? ((Addr.mk b1 0 none).add 2) = some (.slice x8.base x8.len x8.cap) ∧
 w126.cell? ((Addr.mk b1 0 none).add 1) = some (.slice x7.base x7.len x7.cap) ∧
 w126.cell? (Addr.mk b1 0 none) = some (.slice x6.base x6.len x6.cap) ∧
 AL (.cells ⟨[]⟩ E.t_uint64) w126 fun b127 w128 =>
 w128.cell? ((Addr.mk b1 0 none).add 2) = some (.slice x8.base x8.len x8.cap) ∧
 w128.cell? ((Addr.mk b1 0 none).add 1) = some (.slice x7.base x7.len x7.cap) ∧
 w128.cell? (Addr.mk b1 0 none) = some (.slice x6.base x6.len x6.cap) ∧
 APP E.t_uint64 1 8 #[.int .u64 0] ⟨(some (Addr.mk b127 0 none)), 0, 0⟩ x6 w128 fun s129 w130 =>
 w130.cell? ((Addr.mk b1 0 none).add 2) = some (.slice x8.base x8.len x8.cap) ∧
 w130.cell? ((Addr.mk b1 0 none).add 1) = some (.slice x7.base x7.len x7.cap) ∧
 APP E.t_bool 1 1 #[.bool false] ⟨(some (Addr.mk b93 0 none)), 0, 0⟩ x7 w130 fun s131 w132 =>
 w132.cell? ((Addr.mk b1 0 none).add 2) = some (.slice x8.base x8.len x8.cap) ∧
 APP E.t_uint64 1 8 #[.int .u64 0] ⟨(some (Addr.mk b125 0 none)), 0, 0⟩ x8 w132 fun s133 w134 =>
 c_vmem_New s129 s131 s133 (fun r135 w136 =>
 J3 (r135, ()) w136
 ) w134
 )

 ) ∧ (
 AL (.cells ⟨[]⟩ E.t_uint64) w2.drew fun b137 w138 =>
 w138.cell? ((Addr.mk b1 0 none).add 2) = some (.slice x8.base x8.len x8.cap) ∧
 w138.cell? ((Addr.mk b1 0 none).add 1) = some (.slice x7.base x7.len x7.cap) ∧
 w138.cell? (Addr.mk b1 0 none) = some (.slice x6.base x6.len x6.cap) ∧
 (
 AL (.cells ⟨[]⟩ E.t_uint64) w138 fun b139 w140 =>
 w140.cell? ((Addr.mk b1 0 none).add 2) = some (.slice x8.base x8.len x8.cap) ∧
 w140.cell? ((Addr.mk b1 0 none).add 1) = some (.slice x7.base x7.len x7.cap) ∧
 w140.cell? (Addr.mk b1 0 none) = some (.slice x6.base x6.len x6.cap) ∧
 (
 APP E.t_uint64 1 8 #[.int .u64 0] ⟨(some (Addr.mk b139 0 none)), 0, 0⟩ x6 w140 fun s141 w142 =>
 w142.cell? ((Addr.mk b1 0 none).add 2) = some (.slice x8.base x8.len x8.cap) ∧
 w142.cell? ((Addr.mk b1 0 none).add 1) = some (.slice x7.base x7.len x7.cap) ∧
 AL (.cells ⟨[]⟩ E.t_bool) w142 fun b143 w144 =>
 w144.cell? ((Addr.mk b1 0 none).add 2) = some (.slice x8.base x8.len x8.cap) ∧
 w144.cell? ((Addr.mk b1 0 none).add 1) = some (.slice x7.base x7.len x7.cap) ∧
 APP E.t_bool 1 1 #[.bool false] ⟨(some (Addr.mk b143 0 none)), 0, 0⟩ x7 w144 fun s145 w146 =>
 w146.cell? ((Addr.mk b1 0 none).add 2) = some (.slice x8.base x8.len x8.cap) ∧
 APP E.t_uint64 1 8 #[.int .u64 0] ⟨(some (Addr.mk b137 0 none)), 0, 0⟩ x8 w146 fun s147 w148 =>
 c_vmem_New s141 s145 s147 (fun r149 w150 =>
 J3 (r149, ()) w150
 ) w148

 ) ∧ (
 AL (.cells ⟨[]⟩ E.t_bool) w140 fun b151 w152 =>
 w152.cell? ((Addr.mk b1 0 none).add 2) = some (.slice x8.base x8.len x8.cap) ∧
 w152.cell? ((Addr.mk b1 0 none).add 1) = some (.slice x7.base x7.len x7.cap) ∧
 w152.cell? (Addr.mk b1 0 none) = some (.slice x6.base x6.len x6.cap) ∧
 APP E.t_uint64 1 8 #[.int .u64 0] ⟨(some (Addr.mk b139 0 none)), 0, 0⟩ x6 w152 fun s153 w154 =>
 w154.cell? ((Addr.mk b1 0 none).add 2) = some (.slice x8.base x8.len x8.cap) ∧
 w154.cell? ((Addr.mk b1 0 none).add 1) = some (.slice x7.base x7.len x7.cap) ∧
 APP E.t_bool 1 1 #[.bool false] ⟨(some (Addr.mk b151 0 none)), 0, 0⟩ x7 w154 fun s155 w156 =>
 w156.cell? ((Addr.mk b1 0 none).add 2) = some (.slice x8.base x8.len x8.cap) ∧
 APP E.t_uint64 1 8 #[.int .u64 0] ⟨(some (Addr.mk b137 0 none)), 0, 0⟩ x8 w156 fun s157 w158 =>
 c_vmem_New s153 s155 s157 (fun r159 w160 =>
 J3 (r159, ()) w160
 ) w158
 )

 ) ∧ (
 AL (.cells ⟨[]⟩ E.t_bool) w138 fun b161 w162 =>
 w162.cell? ((Addr.mk b1 0 none).add 2) = some (.slice x8.base x8.len x8.cap) ∧
 w162.cell? ((Addr.mk b1 0 none).add 1) = some (.slice x7.base x7.len x7.cap) ∧
 w162.cell? (Addr.mk b1 0 none) = some (.slice x6.base x6.len x6.cap) ∧
 AL (.cells ⟨[]⟩ E.t_uint64) w162 fun b163 w164 =>
 w164.cell? ((Addr.mk b1 0 none).add 2) = some (.slice x8.base x8.len x8.cap) ∧
 w164.cell? ((Addr.mk b1 0 none).add 1) = some (.slice x7.base x7.len x7.cap) ∧
 w164.cell? (Addr.mk b1 0 none) = some (.slice x6.base x6.len x6.cap) ∧
 APP E.t_uint64 1 8 #[.int .u64 0] ⟨(some (Addr.mk b163 0 none)), 0, 0⟩ x6 w164 fun s165 w166 =>
 w166.cell? ((Addr.mk b1 0 none).add 2) = some (.slice x8.base x8.len x8.cap) ∧
 w166.cell? ((Addr.mk b1 0 none).add 1) = some (.slice x7.base x7.len x7.cap) ∧
 APP E.t_bool 1 1 #[.bool false] ⟨(some (Addr.mk b161 0 none)), 0, 0⟩ x7 w166 fun s167 w168 =>
 w168.cell? ((Addr.mk b1 0 none).add 2) = some (.slice x8.base x8.len x8.cap) ∧
 APP E.t_uint64 1 8 #[.int .u64 0] ⟨(some (Addr.mk b137 0 none)), 0, 0⟩ x8 w168 fun s169 w170 =>
 c_vmem_New s165 s167 s169 (fun r171 w172 =>
 J3 (r171, ()) w172
 ) w170
 )
 )
 ) fun s4 _ w5 =>
 CND (s4.1.isNone) (
 K none w5
 ) (
 c_mheap_New s4.1 (fun r173 w174 =>
 K r173 w174
 ) w5
 )

theorem tieZ6 (c_vmem_New : ∀ (a0_0 : SlV) (a0_1 : SlV) (a0_2 : SlV) (K : (Option Addr) → World → Prop) (w : World), Prop) (c_mheap_New : ∀ (a0 : (Option Addr)) (K : (Option Addr) → World → Prop) (w : World), Prop) (x : ArgsV [.agg [.sl, .sl, .sl]]) (K Kp : Value → World → Prop) (w : World) : T0.mallowlaw22_fresh env c_vmem_New c_mheap_New x.1.1 x.1.2.1 x.1.2.2.1 (fun r1 w' => K (.pointer r1) w') w =
 ev Go.Proofs.Tryd.prog (tabC [(21, fun args w K Kp => unArgs [.agg [.sl, .sl, .sl]] args.toList fun x => c_vmem_New x.1.1 x.1.2.1 x.1.2.2.1 (fun r1 w' => K (.pointer r1) w') w), (22, fun args w K Kp => unArgs [.one (.ptr)] args.toList fun x => c_mheap_New x.1 (fun r1 w' => K (.pointer r1) w') w)]) (ground Go.Proofs.Tryd.prog) ann6 body6 (finQ Go.Proofs.Tryd.prog Go.Proofs.Tryd.f6 K Kp) (initF (mkArgs [.agg [.sl, .sl, .sl]] x)) w := by kernel_rfl
theorem tie6 (x : ArgsV [.agg [.sl, .sl, .sl]]) (K Kp : Value → World → Prop) (w : World) : F.mallowlaw22_fresh env x.1.1 x.1.2.1 x.1.2.2.1 (fun r1 w' => K (.pointer r1) w') w =
 ev Go.Proofs.Tryd.prog (tabC [(21, C21), (22, C22)]) (ground Go.Proofs.Tryd.prog) ann6 body6 (finQ Go.Proofs.Tryd.prog Go.Proofs.Tryd.f6 K Kp) (initF (mkArgs [.agg [.sl, .sl, .sl]] x)) w := tieZ6 (F.vmem_New env) (F.mheap_New env) x K Kp w
theorem fits6 : FitsOne Go.Proofs.Tryd.prog 6 C6 :=
 fits_of_tie (T := [(21, C21), (22, C22)]) (A := ann6) (fn := Go.Proofs.Tryd.f6) (c := body6) (fits_cons fits21 (fits_cons fits22 fits_nil)) mixed Go.Proofs.Tryd.func6 Go.Proofs.Tryd.call6 (by kernel_rfl) (by kernel_rfl) (by kernel_rfl) tie6

noncomputable def C91 : Entry := fun args w K Kp => unArgs [.one (.int .u64)] args.toList fun x => F.num_Pow env x.1 (fun r1 w' => K (.bool r1) w') w
noncomputable def body91 : Code := (Go.Proofs.Tryd.f91.body).getD .skip
def ann91 : Ann := { loops := [], joins := [] }
theorem tie91 (x : ArgsV [.one (.int .u64)]) (K Kp : Value → World → Prop) (w : World) : F.num_Pow env x.1 (fun r1 w' => K (.bool r1) w') w =
 ev Go.Proofs.Tryd.prog (tabC []) (ground Go.Proofs.Tryd.prog) ann91 body91 (finQ Go.Proofs.Tryd.prog Go.Proofs.Tryd.f91 K Kp) (initF (mkArgs [.one (.int .u64)] x)) w := by kernel_rfl
theorem fits91 : FitsOne Go.Proofs.Tryd.prog 91 C91 :=
 fits_of_tie (T := []) (A := ann91) (fn := Go.Proofs.Tryd.f91) (c := body91) fits_nil mixed Go.Proofs.Tryd.func91 Go.Proofs.Tryd.call91 (by kernel_rfl) (by kernel_rfl) (by kernel_rfl) tie91

noncomputable def C92 : Entry := fun args w K Kp => unArgs [.one (.int .i64), .one (.int .i64)] args.toList fun x => F.class_step env x.1 x.2.1 (fun r1 w' => K (.int .i64 r1) w') w
noncomputable def body92 : Code := (Go.Proofs.Tryd.f92.body).getD .skip
def ann92 : Ann := { loops := [], joins := [] }
def T0.class_step (E : Env) (c_num_Pow : ∀ (a0 : Int) (K : Bool → World → Prop) (w : World), Prop) (a0 : Int) (a1 : Int) (K : Int → World → Prop) (w : World) : Prop :=
 c_num_Pow (u64 (a0)) (fun r1 w2 =>
 CND (!r1) (
 K a1 w2
 ) (
 CND (decide ((a0 : Int) ≥ 2048)) (
 K 256 w2
 ) (
 CND (decide ((a0 : Int) ≥ 128)) (
 8 ≠ (0 : Int) ∧
 K (i64 (Int.tdiv a0 8)) w2
 ) (
 CND (decide ((a0 : Int) ≥ 32)) (
 K 16 w2
 ) (
 K a1 w2
 )
 )
 )
 )
 ) w

theorem tieZ92 (c_num_Pow : ∀ (a0 : Int) (K : Bool → World → Prop) (w : World), Prop) (x : ArgsV [.one (.int .i64), .one (.int .i64)]) (K Kp : Value → World → Prop) (w : World) : T0.class_step env c_num_Pow x.1 x.2.1 (fun r1 w' => K (.int .i64 r1) w') w =
 ev Go.Proofs.Tryd.prog (tabC [(91, fun args w K Kp => unArgs [.one (.int .u64)] args.toList fun x => c_num_Pow x.1 (fun r1 w' => K (.bool r1) w') w)]) (ground Go.Proofs.Tryd.prog) ann92 body92 (finQ Go.Proofs.Tryd.prog Go.Proofs.Tryd.f92 K Kp) (initF (mkArgs [.one (.int .i64), .one (.int .i64)] x)) w := by kernel_rfl
theorem tie92 (x : ArgsV [.one (.int .i64), .one (.int .i64)]) (K Kp : Value → World → Prop) (w : World) : F.class_step env x.1 x.2.1 (fun r1 w' => K (.int .i64 r1) w') w =
 ev Go.Proofs.Tryd.prog (tabC [(91, C91)]) (ground Go.Proofs.Tryd.prog) ann92 body92 (finQ Go.Proofs.Tryd.prog Go.Proofs.Tryd.f92 K Kp) (initF (mkArgs [.one (.int .i64), .one (.int .i64)] x)) w := tieZ92 (F.num_Pow env) x K Kp w
theorem fits92 : FitsOne Go.Proofs.Tryd.prog 92 C92 :=
 fits_of_tie (T := [(91, C91)]) (A := ann92) (fn := Go.Proofs.Tryd.f92) (c := body92) (fits_cons fits91 fits_nil) mixed Go.Proofs.Tryd.func92 Go.Proofs.Tryd.call92 (by kernel_rfl) (by kernel_rfl) (by kernel_rfl) tie92

noncomputable def C93 : Entry := fun args w K Kp => unArgs [.one (.int .i64), .one (.int .i64)] args.toList fun x => F.class_bytes env x.1 x.2.1 (fun r1 w' => K (.int .i64 r1) w') w
noncomputable def body93 : Code := (Go.Proofs.Tryd.f93.body).getD .skip
def ann93 : Ann := { loops := [(2, [(5, .one (.int .i64))])], joins := [] }
theorem tie93 (x : ArgsV [.one (.int .i64), .one (.int .i64)]) (K Kp : Value → World → Prop) (w : World) : F.class_bytes env x.1 x.2.1 (fun r1 w' => K (.int .i64 r1) w') w =
 ev Go.Proofs.Tryd.prog (tabC []) (ground Go.Proofs.Tryd.prog) ann93 body93 (finQ Go.Proofs.Tryd.prog Go.Proofs.Tryd.f93 K Kp) (initF (mkArgs [.one (.int .i64), .one (.int .i64)] x)) w := by kernel_rfl
theorem fits93 : FitsOne Go.Proofs.Tryd.prog 93 C93 :=
 fits_of_tie (T := []) (A := ann93) (fn := Go.Proofs.Tryd.f93) (c := body93) fits_nil mixed Go.Proofs.Tryd.func93 Go.Proofs.Tryd.call93 (by kernel_rfl) (by kernel_rfl) (by kernel_rfl) tie93

noncomputable def C94 : Entry := fun args w K Kp => unArgs [.one (.int .u32)] args.toList fun x => F.num_Magic env x.1 (fun r1 w' => K (.int .u32 r1) w') w
noncomputable def body94 : Code := (Go.Proofs.Tryd.f94.body).getD .skip
def ann94 : Ann := { loops := [], joins := [] }
theorem tie94 (x : ArgsV [.one (.int .u32)]) (K Kp : Value → World → Prop) (w : World) : F.num_Magic env x.1 (fun r1 w' => K (.int .u32 r1) w') w =
 ev Go.Proofs.Tryd.prog (tabC []) (ground Go.Proofs.Tryd.prog) ann94 body94 (finQ Go.Proofs.Tryd.prog Go.Proofs.Tryd.f94 K Kp) (initF (mkArgs [.one (.int .u32)] x)) w := by kernel_rfl
theorem fits94 : FitsOne Go.Proofs.Tryd.prog 94 C94 :=
 fits_of_tie (T := []) (A := ann94) (fn := Go.Proofs.Tryd.f94) (c := body94) fits_nil mixed Go.Proofs.Tryd.func94 Go.Proofs.Tryd.call94 (by kernel_rfl) (by kernel_rfl) (by kernel_rfl) tie94

noncomputable def C66 : Entry := fun args w K Kp => unArgs [.one (.int .i64), .one (.int .i64)] args.toList fun x => F.class_Make env x.1 x.2.1 (fun r1 r2 w' => K (.tuple ⟨[.slice r1.base r1.len r1.cap, .int .i64 r2]⟩) w') w
noncomputable def body66 : Code := (Go.Proofs.Tryd.f66.body).getD .skip
def ann66 : Ann := { loops := [(6, [(6, .one (.sl)), (7, .one (.int .i64)), (8, .one (.int .i64))]), (15, [(107, .one (.int .i64))])], joins := [(2, [(42, .one (.bool))]), (12, [(91, .one (.bool))]), (22, [])] }
def T0.class_Make (E : Env) (c_num_Pow : ∀ (a0 : Int) (K : Bool → World → Prop) (w : World), Prop) (c_class_step : ∀ (a0 : Int) (a1 : Int) (K : Int → World → Prop) (w : World), Prop) (c_class_bytes : ∀ (a0 : Int) (a1 : Int) (K : Int → World → Prop) (w : World), Prop) (c_num_Magic : ∀ (a0 : Int) (K : Int → World → Prop) (w : World), Prop) (a0 : Int) (a1 : Int) (K : SlV → Int → World → Prop) (w : World) : Prop :=
 JOIN (Bool × Unit) (fun J1 =>
 CND (decide ((a0 : Int) < 1024)) (
 J1 (true, ()) w
 ) (
 CND (decide ((a0 : Int) > 65536)) (
 J1 (true, ()) w
 ) (
 c_num_Pow (u64 (a0)) (fun r4 w5 =>
 CND (!r4) (
 J1 (true, ()) w5
 ) (
 CND (decide ((a1 : Int) < 64)) (
 J1 (true, ()) w5
 ) (
 CND (decide ((a1 : Int) > (i64 (4 * a0)))) (
 J1 (true, ()) w5
 ) (
 c_num_Pow (u64 (a1)) (fun r6 w7 =>
 J1 (!r6, ()) w7
 ) w5
 )
 )
 )
 ) w
 )
 )
 ) fun s2 _ w3 =>
 CND (s2.1) (
 K ⟨none, 0, 0⟩ 1 w3
 ) (
 AL (.cells ⟨[.int .i64 0, .int .i64 0, .int .i64 0, .int .u32 0]⟩ E.t_api_Class) w3 fun b8 w9 =>
 LOOP (SlV × Int × Int × Unit) (⟨(some (Addr.mk b8 0 none)), 1, 1⟩, 8, 8, ()) w9 fun s10 _ w11 next12 =>
 CND (decide ((s10.2.2.1 : Int) ≤ a1)) (
 c_class_step s10.2.2.1 s10.2.1 (fun r13 w14 =>
 c_class_bytes s10.2.2.1 a0 (fun r15 w16 =>
 NC s10.1.base fun p17 =>
 ((0 : Int) ≤ (i64 (((s10.1.len : Nat) : Int) - 1)) ∧ ((i64 (((s10.1.len : Nat) : Int) - 1)) : Int) < (s10.1.len : Nat)) ∧
 JOIN (Bool × Unit) (fun J18 =>
 CND (decide ((((s10.1.len : Nat) : Int) : Int) > 1)) (
 ∃ x21 : Int, w16.drew.cell? ((p17.add (Int.toNat (i64 (((s10.1.len : Nat) : Int) - 1)) * 4)).add 1) = some (.int .i64 x21) ∧
 a0 ≠ (0 : Int) ∧
 CND ((x21 : Int) == (i64 (Int.tdiv r15 a0))) (
 ∃ x22 : Int, w16.drew.cell? ((p17.add (Int.toNat (i64 (((s10.1.len : Nat) : Int) - 1)) * 4)).add 1) = some (.int .i64 x22) ∧
 ∃ x23 : Int, w16.drew.cell? (p17.add (Int.toNat (i64 (((s10.1.len : Nat) : Int) - 1)) * 4)) = some (.int .i64 x23) ∧
 x23 ≠ (0 : Int) ∧
 s10.2.2.1 ≠ (0 : Int) ∧
 J18 (((i64 (Int.tdiv (i64 (x22 * a0)) x23)) : Int) == (i64 (Int.tdiv r15 s10.2.2.1)), ()) w16.drew
 ) (
 J18 (false, ()) w16.drew
 )
 ) (
 J18 (false, ()) w16.drew
 )
 ) fun s19 _ w20 =>
 CND (s19.1) (
 stCells (p17.add (Int.toNat (i64 (((s10.1.len : Nat) : Int) - 1)) * 4)) 0 [.int .i64 s10.2.2.1] w20 fun w24 =>
 next12 (s10.1, r13, i64 (s10.2.2.1 + r13), ()) w24
 ) (
 a0 ≠ (0 : Int) ∧
 AL (.cells ⟨[.int .i64 s10.2.2.1, .int .i64 (i64 (Int.tdiv r15 a0)), .int .i64 0, .int .u32 0]⟩ E.t_api_Class) w20 fun b25 w26 =>
 APP E.t_api_Class 4 32 #[.int .i64 0, .int .i64 0, .int .i64 0, .int .u32 0] s10.1 ⟨(some (Addr.mk b25 0 none)), 1, 1⟩ w26 fun s27 w28 =>
 next12 (s27, r13, i64 (s10.2.2.1 + r13), ()) w28
 )
 ) w14
 ) w11
 ) (
 ((0 : Int) ≤ 1 ∧ (1 : Int) ≤ (s10.1.len : Nat)) ∧
 LOOP (Int × Unit) (0, ()) w11 fun s29 _ w30 next31 =>
 CND (decide ((s29.1 : Int) < (((s10.1.len - (Int.toNat 1)) : Nat) : Int))) (
 NC s10.1.base fun p32 =>
 ((0 : Int) ≤ (i64 (s29.1 + 1)) ∧ ((i64 (s29.1 + 1)) : Int) < (s10.1.len : Nat)) ∧
 ∃ x33 : Int, w30.cell? ((p32.add (Int.toNat (i64 (s29.1 + 1)) * 4)).add 1) = some (.int .i64 x33) ∧
 JOIN (Unit) (fun J34 =>
 ∃ x37 : Int, w30.cell? (p32.add (Int.toNat (i64 (s29.1 + 1)) * 4)) = some (.int .i64 x37) ∧
 x37 ≠ (0 : Int) ∧
 (i64 (Int.tdiv (i64 (x33 * a0)) x37)) ≠ (0 : Int) ∧
 128 ≠ (0 : Int) ∧
 LET (i64 ((i64 (Int.tdiv (i64 (Int.tdiv (i64 (x33 * a0)) (i64 (Int.tdiv (i64 (x33 * a0)) x37)))) 128)) * 128) : Int) fun wide_38 =>
 ∃ x39 : Int, w30.cell? (p32.add (Int.toNat (i64 (s29.1 + 1)) * 4)) = some (.int .i64 x39) ∧
 CND (decide ((wide_38 : Int) > x39)) (
 stCells (p32.add (Int.toNat (i64 (s29.1 + 1)) * 4)) 0 [.int .i64 wide_38] w30 fun w40 =>
 J34 (()) w40
 ) (
 J34 (()) w30
 )
 ) fun s35 _ w36 =>
 ∃ x41 : Int, w36.cell? (p32.add (Int.toNat (i64 (s29.1 + 1)) * 4)) = some (.int .i64 x41) ∧
 x41 ≠ (0 : Int) ∧
 stCells ((p32.add (Int.toNat (i64 (s29.1 + 1)) * 4)).add 2) 0 [.int .i64 (i64 (Int.tdiv (i64 (x33 * a0)) x41))] w36 fun w42 =>
 ∃ x43 : Int, w42.cell? (p32.add (Int.toNat (i64 (s29.1 + 1)) * 4)) = some (.int .i64 x43) ∧
 c_num_Magic (IntKind.wrap .u32 (x43)) (fun r44 w45 =>
 stCells ((p32.add (Int.toNat (i64 (s29.1 + 1)) * 4)).add 3) 0 [.int .u32 r44] w45 fun w46 =>
 next31 (i64 (s29.1 + 1), ()) w46
 ) w42
 ) (
 K s10.1 0 w30
 )
 )
 )

theorem tieZ66 (c_num_Pow : ∀ (a0 : Int) (K : Bool → World → Prop) (w : World), Prop) (c_class_step : ∀ (a0 : Int) (a1 : Int) (K : Int → World → Prop) (w : World), Prop) (c_class_bytes : ∀ (a0 : Int) (a1 : Int) (K : Int → World → Prop) (w : World), Prop) (c_num_Magic : ∀ (a0 : Int) (K : Int → World → Prop) (w : World), Prop) (x : ArgsV [.one (.int .i64), .one (.int .i64)]) (K Kp : Value → World → Prop) (w : World) : T0.class_Make env c_num_Pow c_class_step c_class_bytes c_num_Magic x.1 x.2.1 (fun r1 r2 w' => K (.tuple ⟨[.slice r1.base r1.len r1.cap, .int .i64 r2]⟩) w') w =
 ev Go.Proofs.Tryd.prog (tabC [(91, fun args w K Kp => unArgs [.one (.int .u64)] args.toList fun x => c_num_Pow x.1 (fun r1 w' => K (.bool r1) w') w), (92, fun args w K Kp => unArgs [.one (.int .i64), .one (.int .i64)] args.toList fun x => c_class_step x.1 x.2.1 (fun r1 w' => K (.int .i64 r1) w') w), (93, fun args w K Kp => unArgs [.one (.int .i64), .one (.int .i64)] args.toList fun x => c_class_bytes x.1 x.2.1 (fun r1 w' => K (.int .i64 r1) w') w), (94, fun args w K Kp => unArgs [.one (.int .u32)] args.toList fun x => c_num_Magic x.1 (fun r1 w' => K (.int .u32 r1) w') w)]) (ground Go.Proofs.Tryd.prog) ann66 body66 (finQ Go.Proofs.Tryd.prog Go.Proofs.Tryd.f66 K Kp) (initF (mkArgs [.one (.int .i64), .one (.int .i64)] x)) w := by kernel_rfl
theorem tie66 (x : ArgsV [.one (.int .i64), .one (.int .i64)]) (K Kp : Value → World → Prop) (w : World) : F.class_Make env x.1 x.2.1 (fun r1 r2 w' => K (.tuple ⟨[.slice r1.base r1.len r1.cap, .int .i64 r2]⟩) w') w =
 ev Go.Proofs.Tryd.prog (tabC [(91, C91), (92, C92), (93, C93), (94, C94)]) (ground Go.Proofs.Tryd.prog) ann66 body66 (finQ Go.Proofs.Tryd.prog Go.Proofs.Tryd.f66 K Kp) (initF (mkArgs [.one (.int .i64), .one (.int .i64)] x)) w := tieZ66 (F.num_Pow env) (F.class_step env) (F.class_bytes env) (F.num_Magic env) x K Kp w
theorem fits66 : FitsOne Go.Proofs.Tryd.prog 66 C66 :=
 fits_of_tie (T := [(91, C91), (92, C92), (93, C93), (94, C94)]) (A := ann66) (fn := Go.Proofs.Tryd.f66) (c := body66) (fits_cons fits91 (fits_cons fits92 (fits_cons fits93 (fits_cons fits94 fits_nil)))) mixed Go.Proofs.Tryd.func66 Go.Proofs.Tryd.call66 (by kernel_rfl) (by kernel_rfl) (by kernel_rfl) tie66

noncomputable def C44 : Entry := fun args w K Kp => unArgs [] args.toList fun x => F.class_Table env  (fun r1 w' => K (.slice r1.base r1.len r1.cap) w') w
noncomputable def body44 : Code := (Go.Proofs.Tryd.f44.body).getD .skip
def ann44 : Ann := { loops := [], joins := [] }
def T0.class_Table (E : Env) (c_class_Make : ∀ (a0 : Int) (a1 : Int) (K : SlV → Int → World → Prop) (w : World), Prop) (K : SlV → World → Prop) (w : World) : Prop :=
 c_class_Make 8192 32768 (fun r1 r2 w3 =>
 K r1 w3
 ) w

theorem tieZ44 (c_class_Make : ∀ (a0 : Int) (a1 : Int) (K : SlV → Int → World → Prop) (w : World), Prop) (x : ArgsV []) (K Kp : Value → World → Prop) (w : World) : T0.class_Table env c_class_Make  (fun r1 w' => K (.slice r1.base r1.len r1.cap) w') w =
 ev Go.Proofs.Tryd.prog (tabC [(66, fun args w K Kp => unArgs [.one (.int .i64), .one (.int .i64)] args.toList fun x => c_class_Make x.1 x.2.1 (fun r1 r2 w' => K (.tuple ⟨[.slice r1.base r1.len r1.cap, .int .i64 r2]⟩) w') w)]) (ground Go.Proofs.Tryd.prog) ann44 body44 (finQ Go.Proofs.Tryd.prog Go.Proofs.Tryd.f44 K Kp) (initF (mkArgs [] x)) w := by kernel_rfl
theorem tie44 (x : ArgsV []) (K Kp : Value → World → Prop) (w : World) : F.class_Table env  (fun r1 w' => K (.slice r1.base r1.len r1.cap) w') w =
 ev Go.Proofs.Tryd.prog (tabC [(66, C66)]) (ground Go.Proofs.Tryd.prog) ann44 body44 (finQ Go.Proofs.Tryd.prog Go.Proofs.Tryd.f44 K Kp) (initF (mkArgs [] x)) w := tieZ44 (F.class_Make env) x K Kp w
theorem fits44 : FitsOne Go.Proofs.Tryd.prog 44 C44 :=
 fits_of_tie (T := [(66, C66)]) (A := ann44) (fn := Go.Proofs.Tryd.f44) (c := body44) (fits_cons fits66 fits_nil) mixed Go.Proofs.Tryd.func44 Go.Proofs.Tryd.call44 (by kernel_rfl) (by kernel_rfl) (by kernel_rfl) tie44

noncomputable def C23 : Entry := fun args w K Kp => unArgs [.one (.int .u64), .one (.int .u64), .one (.int .i64), .one (.bool)] args.toList fun x => F.span_New env x.1 x.2.1 x.2.2.1 x.2.2.2.1 (fun r1 r2 w' => K (.tuple ⟨[.pointer r1, .int .i64 r2]⟩) w') w
noncomputable def body23 : Code := (Go.Proofs.Tryd.f23.body).getD .skip
def ann23 : Ann := { loops := [], joins := [(3, [(56, .one (.bool))])] }
def T0.span_New (E : Env) (c_class_Table : ∀ (K : SlV → World → Prop) (w : World), Prop) (a0 : Int) (a1 : Int) (a2 : Int) (a3 : Bool) (K : (Option Addr) → Int → World → Prop) (w : World) : Prop :=
 c_class_Table  (fun r1 w2 =>
 JOIN (Bool × Unit) (fun J3 =>
 CND ((a1 : Int) == 0) (
 J3 (true, ()) w2
 ) (
 CND (decide ((a0 : Int) > 34359738368)) (
 J3 (true, ()) w2
 ) (
 CND (decide ((a1 : Int) > (u64 (34359738368 - a0)))) (
 J3 (true, ()) w2
 ) (
 CND (decide ((a2 : Int) < 0)) (
 J3 (true, ()) w2
 ) (
 CND (decide ((a2 : Int) ≥ ((r1.len : Nat) : Int))) (
 J3 (true, ()) w2
 ) (
 CND ((a2 : Int) == 0) (
 CND (decide ((a1 : Int) > 134217728)) (
 J3 (true, ()) w2
 ) (
 CND (decide ((a2 : Int) > 0)) (
 NC r1.base fun p6 =>
 ((0 : Int) ≤ a2 ∧ (a2 : Int) < (r1.len : Nat)) ∧
 ∃ x7 : Int, w2.cell? ((p6.add (Int.toNat a2 * 4)).add 1) = some (.int .i64 x7) ∧
 J3 ((a1 : Int) != (u64 (x7)), ()) w2
 ) (
 J3 (false, ()) w2
 )
 )
 ) (
 CND (decide ((a2 : Int) > 0)) (
 NC r1.base fun p8 =>
 ((0 : Int) ≤ a2 ∧ (a2 : Int) < (r1.len : Nat)) ∧
 ∃ x9 : Int, w2.cell? ((p8.add (Int.toNat a2 * 4)).add 1) = some (.int .i64 x9) ∧
 J3 ((a1 : Int) != (u64 (x9)), ()) w2
 ) (
 J3 (false, ()) w2
 )
 )
 )
 )
 )
 )
 )
 ) fun s4 _ w5 =>
 CND (s4.1) (
 K none 1 w5
 ) (
 NC r1.base fun p10 =>
 ((0 : Int) ≤ a2 ∧ (a2 : Int) < (r1.len : Nat)) ∧
 ∃ x11 : Int, w5.drew.cell? (p10.add (Int.toNat a2 * 4)) = some (.int .i64 x11) ∧
 NC r1.base fun p12 =>
 ((0 : Int) ≤ a2 ∧ (a2 : Int) < (r1.len : Nat)) ∧
 ∃ x13 : Int, w5.drew.cell? ((p12.add (Int.toNat a2 * 4)).add 2) = some (.int .i64 x13) ∧
 NC r1.base fun p14 =>
 ((0 : Int) ≤ a2 ∧ (a2 : Int) < (r1.len : Nat)) ∧
 ∃ x15 : Int, w5.drew.cell? ((p14.add (Int.toNat a2 * 4)).add 3) = some (.int .u32 x15) ∧
 AL (.cells #[.int .u64 (u64 (a0 * 8192)), .int .i64 (i64 (a1)), .int .i64 1, .int .i64 a2, .bool a3, .int .i64 x11, .int .i64 x13, .int .i64 0, .bool false, .bool false, .int .u32 x15, .slice none 0 0, .slice none 0 0, .int .i64 0] E.t_span_Span) w5.drew fun b16 w17 =>
 w17.cell? ((p14.add (Int.toNat a2 * 4)).add 3) = some (.int .u32 x15) ∧
 w17.cell? ((p12.add (Int.toNat a2 * 4)).add 2) = some (.int .i64 x13) ∧
 w17.cell? (p10.add (Int.toNat a2 * 4)) = some (.int .i64 x11) ∧
 CND ((a2 : Int) == 0) (
 stCells ((Addr.mk b16 0 none).add 5) 0 [.int .i64 (i64 ((i64 (a1)) * 8192))] w17 fun w18 =>
 stCells ((Addr.mk b16 0 none).add 6) 0 [.int .i64 1] w18 fun w19 =>
 K (some (Addr.mk b16 0 none)) 0 w19
 ) (
 K (some (Addr.mk b16 0 none)) 0 w17
 )
 )
 ) w

theorem tieZ23 (c_class_Table : ∀ (K : SlV → World → Prop) (w : World), Prop) (x : ArgsV [.one (.int .u64), .one (.int .u64), .one (.int .i64), .one (.bool)]) (K Kp : Value → World → Prop) (w : World) : T0.span_New env c_class_Table x.1 x.2.1 x.2.2.1 x.2.2.2.1 (fun r1 r2 w' => K (.tuple ⟨[.pointer r1, .int .i64 r2]⟩) w') w =
 ev Go.Proofs.Tryd.prog (tabC [(44, fun args w K Kp => unArgs [] args.toList fun x => c_class_Table  (fun r1 w' => K (.slice r1.base r1.len r1.cap) w') w)]) (ground Go.Proofs.Tryd.prog) ann23 body23 (finQ Go.Proofs.Tryd.prog Go.Proofs.Tryd.f23 K Kp) (initF (mkArgs [.one (.int .u64), .one (.int .u64), .one (.int .i64), .one (.bool)] x)) w := by kernel_rfl
theorem tie23 (x : ArgsV [.one (.int .u64), .one (.int .u64), .one (.int .i64), .one (.bool)]) (K Kp : Value → World → Prop) (w : World) : F.span_New env x.1 x.2.1 x.2.2.1 x.2.2.2.1 (fun r1 r2 w' => K (.tuple ⟨[.pointer r1, .int .i64 r2]⟩) w') w =
 ev Go.Proofs.Tryd.prog (tabC [(44, C44)]) (ground Go.Proofs.Tryd.prog) ann23 body23 (finQ Go.Proofs.Tryd.prog Go.Proofs.Tryd.f23 K Kp) (initF (mkArgs [.one (.int .u64), .one (.int .u64), .one (.int .i64), .one (.bool)] x)) w := tieZ23 (F.class_Table env) x K Kp w
theorem fits23 : FitsOne Go.Proofs.Tryd.prog 23 C23 :=
 fits_of_tie (T := [(44, C44)]) (A := ann23) (fn := Go.Proofs.Tryd.f23) (c := body23) (fits_cons fits44 fits_nil) mixed Go.Proofs.Tryd.func23 Go.Proofs.Tryd.call23 (by kernel_rfl) (by kernel_rfl) (by kernel_rfl) tie23

noncomputable def C67 : Entry := fun args w K Kp => unArgs [.one (.int .i64)] args.toList fun x => F.mheap_is env x.1 (fun r1 w' => K (.bool r1) w') w
noncomputable def body67 : Code := (Go.Proofs.Tryd.f67.body).getD .skip
def ann67 : Ann := { loops := [], joins := [] }
theorem tie67 (x : ArgsV [.one (.int .i64)]) (K Kp : Value → World → Prop) (w : World) : F.mheap_is env x.1 (fun r1 w' => K (.bool r1) w') w =
 ev Go.Proofs.Tryd.prog (tabC []) (ground Go.Proofs.Tryd.prog) ann67 body67 (finQ Go.Proofs.Tryd.prog Go.Proofs.Tryd.f67 K Kp) (initF (mkArgs [.one (.int .i64)] x)) w := by kernel_rfl
theorem fits67 : FitsOne Go.Proofs.Tryd.prog 67 C67 :=
 fits_of_tie (T := []) (A := ann67) (fn := Go.Proofs.Tryd.f67) (c := body67) fits_nil mixed Go.Proofs.Tryd.func67 Go.Proofs.Tryd.call67 (by kernel_rfl) (by kernel_rfl) (by kernel_rfl) tie67

noncomputable def C68 : Entry := fun args w K Kp => unArgs [.one (.ptr)] args.toList fun x => F.pcache_Cache_Empty env x.1 (fun r1 w' => K (.bool r1) w') w
noncomputable def body68 : Code := (Go.Proofs.Tryd.f68.body).getD .skip
def ann68 : Ann := { loops := [], joins := [] }
theorem tie68 (x : ArgsV [.one (.ptr)]) (K Kp : Value → World → Prop) (w : World) : F.pcache_Cache_Empty env x.1 (fun r1 w' => K (.bool r1) w') w =
 ev Go.Proofs.Tryd.prog (tabC []) (ground Go.Proofs.Tryd.prog) ann68 body68 (finQ Go.Proofs.Tryd.prog Go.Proofs.Tryd.f68 K Kp) (initF (mkArgs [.one (.ptr)] x)) w := by kernel_rfl
theorem fits68 : FitsOne Go.Proofs.Tryd.prog 68 C68 :=
 fits_of_tie (T := []) (A := ann68) (fn := Go.Proofs.Tryd.f68) (c := body68) fits_nil mixed Go.Proofs.Tryd.func68 Go.Proofs.Tryd.call68 (by kernel_rfl) (by kernel_rfl) (by kernel_rfl) tie68

noncomputable def C86 : Entry := fun args w K Kp => unArgs [.one (.ptr)] args.toList fun x => F.stretch_Set_All env x.1 (fun r1 w' => K (.slice r1.base r1.len r1.cap) w') w
noncomputable def body86 : Code := (Go.Proofs.Tryd.f86.body).getD .skip
def ann86 : Ann := { loops := [], joins := [] }
theorem tie86 (x : ArgsV [.one (.ptr)]) (K Kp : Value → World → Prop) (w : World) : F.stretch_Set_All env x.1 (fun r1 w' => K (.slice r1.base r1.len r1.cap) w') w =
 ev Go.Proofs.Tryd.prog (tabC []) (ground Go.Proofs.Tryd.prog) ann86 body86 (finQ Go.Proofs.Tryd.prog Go.Proofs.Tryd.f86 K Kp) (initF (mkArgs [.one (.ptr)] x)) w := by kernel_rfl
theorem fits86 : FitsOne Go.Proofs.Tryd.prog 86 C86 :=
 fits_of_tie (T := []) (A := ann86) (fn := Go.Proofs.Tryd.f86) (c := body86) fits_nil mixed Go.Proofs.Tryd.func86 Go.Proofs.Tryd.call86 (by kernel_rfl) (by kernel_rfl) (by kernel_rfl) tie86

noncomputable def C74 : Entry := fun args w K Kp => unArgs [.one (.ptr), .one (.int .u64)] args.toList fun x => F.radix_Tree_Find env x.1 x.2.1 (fun r1 r2 w' => K (.tuple ⟨[.int .u64 r1, .bool r2]⟩) w') w
noncomputable def body74 : Code := (Go.Proofs.Tryd.f74.body).getD .skip
def ann74 : Ann := { loops := [(4, [(15, .one (.int .i64))])], joins := [] }
def T0.radix_Tree_Find (E : Env) (c_stretch_Set_All : ∀ (a0 : (Option Addr)) (K : SlV → World → Prop) (w : World), Prop) (a0 : (Option Addr)) (a1 : Int) (K : Int → Bool → World → Prop) (w : World) : Prop :=
 CND ((a1 : Int) == 0) (
 K 0 false w
 ) (
 NC a0 fun p1 =>
 c_stretch_Set_All (some (p1.add 2)) (fun r2 w3 =>
 LOOP (Int × Unit) (0, ()) w3 fun s4 _ w5 next6 =>
 CND (decide ((s4.1 : Int) < ((r2.len : Nat) : Int))) (
 NC r2.base fun p7 =>
 ((0 : Int) ≤ s4.1 ∧ (s4.1 : Int) < (r2.len : Nat)) ∧
 ∃ c8 : Int, w5.cell? ((p7.add (Int.toNat s4.1 * 2)).add 0) = some (.int .u64 c8) ∧
 ∃ c9 : Int, w5.cell? ((p7.add (Int.toNat s4.1 * 2)).add 1) = some (.int .u64 c9) ∧
 AL (.cells #[.int .u64 0, .int .u64 0] E.t_stretch_One) w5 fun b10 w11 =>
 stCells (Addr.mk b10 0 none) 0 [.int .u64 c8, .int .u64 c9] w11 fun w12 =>
 ∃ x13 : Int, w12.cell? ((Addr.mk b10 0 none).add 1) = some (.int .u64 x13) ∧
 ∃ x14 : Int, w12.cell? (Addr.mk b10 0 none) = some (.int .u64 x14) ∧
 CND (decide (((u64 (x13 - x14)) : Int) ≥ a1)) (
 ∃ x15 : Int, w12.cell? (Addr.mk b10 0 none) = some (.int .u64 x15) ∧
 K x15 true w12
 ) (
 next6 (i64 (s4.1 + 1), ()) w12
 )
 ) (
 K 0 false w5
 )
 ) w
 )

theorem tieZ74 (c_stretch_Set_All : ∀ (a0 : (Option Addr)) (K : SlV → World → Prop) (w : World), Prop) (x : ArgsV [.one (.ptr), .one (.int .u64)]) (K Kp : Value → World → Prop) (w : World) : T0.radix_Tree_Find env c_stretch_Set_All x.1 x.2.1 (fun r1 r2 w' => K (.tuple ⟨[.int .u64 r1, .bool r2]⟩) w') w =
 ev Go.Proofs.Tryd.prog (tabC [(86, fun args w K Kp => unArgs [.one (.ptr)] args.toList fun x => c_stretch_Set_All x.1 (fun r1 w' => K (.slice r1.base r1.len r1.cap) w') w)]) (ground Go.Proofs.Tryd.prog) ann74 body74 (finQ Go.Proofs.Tryd.prog Go.Proofs.Tryd.f74 K Kp) (initF (mkArgs [.one (.ptr), .one (.int .u64)] x)) w := by kernel_rfl
theorem tie74 (x : ArgsV [.one (.ptr), .one (.int .u64)]) (K Kp : Value → World → Prop) (w : World) : F.radix_Tree_Find env x.1 x.2.1 (fun r1 r2 w' => K (.tuple ⟨[.int .u64 r1, .bool r2]⟩) w') w =
 ev Go.Proofs.Tryd.prog (tabC [(86, C86)]) (ground Go.Proofs.Tryd.prog) ann74 body74 (finQ Go.Proofs.Tryd.prog Go.Proofs.Tryd.f74 K Kp) (initF (mkArgs [.one (.ptr), .one (.int .u64)] x)) w := tieZ74 (F.stretch_Set_All env) x K Kp w
theorem fits74 : FitsOne Go.Proofs.Tryd.prog 74 C74 :=
 fits_of_tie (T := [(86, C86)]) (A := ann74) (fn := Go.Proofs.Tryd.f74) (c := body74) (fits_cons fits86 fits_nil) mixed Go.Proofs.Tryd.func74 Go.Proofs.Tryd.call74 (by kernel_rfl) (by kernel_rfl) (by kernel_rfl) tie74

noncomputable def C89 : Entry := fun args w K Kp => unArgs [.one (.int .i64), .one (.any)] args.toList fun x => F.sort_Search env x.1 x.2.1 (fun r1 w' => K (.int .i64 r1) w') w
noncomputable def body89 : Code := (Go.Proofs.Tryd.f89.body).getD .skip
def ann89 : Ann := { loops := [(2, [(5, .one (.int .i64)), (6, .one (.int .i64))])], joins := [] }
theorem tie89 (x : ArgsV [.one (.int .i64), .one (.any)]) (K Kp : Value → World → Prop) (w : World) : F.sort_Search env x.1 x.2.1 (fun r1 w' => K (.int .i64 r1) w') w =
 ev Go.Proofs.Tryd.prog (tabC []) (ground Go.Proofs.Tryd.prog) ann89 body89 (finQ Go.Proofs.Tryd.prog Go.Proofs.Tryd.f89 K Kp) (initF (mkArgs [.one (.int .i64), .one (.any)] x)) w := by kernel_rfl
theorem fits89 : FitsOne Go.Proofs.Tryd.prog 89 C89 :=
 fits_of_tie (T := []) (A := ann89) (fn := Go.Proofs.Tryd.f89) (c := body89) fits_nil mixed Go.Proofs.Tryd.func89 Go.Proofs.Tryd.call89 (by kernel_rfl) (by kernel_rfl) (by kernel_rfl) tie89

noncomputable def C64 : Entry := fun args w K Kp => unArgs [.one (.ptr), .one (.int .u64)] args.toList fun x => F.stretch_Set_at env x.1 x.2.1 (fun r1 w' => K (.int .i64 r1) w') w
noncomputable def body64 : Code := (Go.Proofs.Tryd.f64.body).getD .skip
def ann64 : Ann := { loops := [], joins := [] }
def T0.stretch_Set_at (E : Env) (c_sort_Search : ∀ (a0 : Int) (a1 : Value) (K : Int → World → Prop) (w : World), Prop) (a0 : (Option Addr)) (a1 : Int) (K : Int → World → Prop) (w : World) : Prop :=
 AL (.cells #[.pointer a0] E.t__stretch_Set) w fun b1 w2 =>
 AL (.cells #[.int .u64 a1] E.t_uint64) w2 fun b3 w4 =>
 ∃ x5 : (Option Addr), w4.cell? (Addr.mk b1 0 none) = some (.pointer x5) ∧
 NC x5 fun p6 =>
 ∃ x7 : SlV, w4.cell? p6 = some (.slice x7.base x7.len x7.cap) ∧
 c_sort_Search ((x7.len : Nat) : Int) (.func (.func E.f_stretch_Set_at_1) #[] #[.pointer (some (Addr.mk b1 0 none)), .pointer (some (Addr.mk b3 0 none))]) (fun r8 w9 =>
 K r8 w9
 ) w4

theorem tieZ64 (c_sort_Search : ∀ (a0 : Int) (a1 : Value) (K : Int → World → Prop) (w : World), Prop) (x : ArgsV [.one (.ptr), .one (.int .u64)]) (K Kp : Value → World → Prop) (w : World) : T0.stretch_Set_at env c_sort_Search x.1 x.2.1 (fun r1 w' => K (.int .i64 r1) w') w =
 ev Go.Proofs.Tryd.prog (tabC [(89, fun args w K Kp => unArgs [.one (.int .i64), .one (.any)] args.toList fun x => c_sort_Search x.1 x.2.1 (fun r1 w' => K (.int .i64 r1) w') w)]) (ground Go.Proofs.Tryd.prog) ann64 body64 (finQ Go.Proofs.Tryd.prog Go.Proofs.Tryd.f64 K Kp) (initF (mkArgs [.one (.ptr), .one (.int .u64)] x)) w := by kernel_rfl
theorem tie64 (x : ArgsV [.one (.ptr), .one (.int .u64)]) (K Kp : Value → World → Prop) (w : World) : F.stretch_Set_at env x.1 x.2.1 (fun r1 w' => K (.int .i64 r1) w') w =
 ev Go.Proofs.Tryd.prog (tabC [(89, C89)]) (ground Go.Proofs.Tryd.prog) ann64 body64 (finQ Go.Proofs.Tryd.prog Go.Proofs.Tryd.f64 K Kp) (initF (mkArgs [.one (.ptr), .one (.int .u64)] x)) w := tieZ64 (F.sort_Search env) x K Kp w
theorem fits64 : FitsOne Go.Proofs.Tryd.prog 64 C64 :=
 fits_of_tie (T := [(89, C89)]) (A := ann64) (fn := Go.Proofs.Tryd.f64) (c := body64) (fits_cons fits89 fits_nil) mixed Go.Proofs.Tryd.func64 Go.Proofs.Tryd.call64 (by kernel_rfl) (by kernel_rfl) (by kernel_rfl) tie64

noncomputable def C52 : Entry := fun args w K Kp => unArgs [.one (.ptr), .one (.int .u64), .one (.int .u64)] args.toList fun x => F.stretch_Set_Count env x.1 x.2.1 x.2.2.1 (fun r1 w' => K (.int .u64 r1) w') w
noncomputable def body52 : Code := (Go.Proofs.Tryd.f52.body).getD .skip
def ann52 : Ann := { loops := [(3, [(7, .one (.int .u64)), (8, .one (.int .i64))])], joins := [] }
def T0.stretch_Set_Count (E : Env) (c_stretch_Set_at : ∀ (a0 : (Option Addr)) (a1 : Int) (K : Int → World → Prop) (w : World), Prop) (a0 : (Option Addr)) (a1 : Int) (a2 : Int) (K : Int → World → Prop) (w : World) : Prop :=
 c_stretch_Set_at a0 a1 (fun r1 w2 =>
 LOOP (Int × Int × Unit) (0, r1, ()) w2 fun s3 _ w4 next5 =>
 NC a0 fun p6 =>
 ∃ x7 : SlV, w4.cell? p6 = some (.slice x7.base x7.len x7.cap) ∧
 CND (decide ((s3.2.1 : Int) < ((x7.len : Nat) : Int))) (
 NC a0 fun p8 =>
 ∃ x9 : SlV, w4.cell? p8 = some (.slice x9.base x9.len x9.cap) ∧
 NC x9.base fun p10 =>
 ((0 : Int) ≤ s3.2.1 ∧ (s3.2.1 : Int) < (x9.len : Nat)) ∧
 ∃ x11 : Int, w4.cell? (p10.add (Int.toNat s3.2.1 * 2)) = some (.int .u64 x11) ∧
 CND (decide ((x11 : Int) < a2)) (
 NC a0 fun p12 =>
 ∃ x13 : SlV, w4.drew.cell? p12 = some (.slice x13.base x13.len x13.cap) ∧
 NC x13.base fun p14 =>
 ((0 : Int) ≤ s3.2.1 ∧ (s3.2.1 : Int) < (x13.len : Nat)) ∧
 ∃ x15 : Int, w4.drew.cell? ((p14.add (Int.toNat s3.2.1 * 2)).add 1) = some (.int .u64 x15) ∧
 NC a0 fun p16 =>
 ∃ x17 : SlV, w4.drew.cell? p16 = some (.slice x17.base x17.len x17.cap) ∧
 NC x17.base fun p18 =>
 ((0 : Int) ≤ s3.2.1 ∧ (s3.2.1 : Int) < (x17.len : Nat)) ∧
 ∃ x19 : Int, w4.drew.cell? (p18.add (Int.toNat s3.2.1 * 2)) = some (.int .u64 x19) ∧
 LET (u64 (s3.1 + (u64 ((minI x15 a2) - (maxI x19 a1)))) : Int) fun n_20 =>
 next5 (n_20, i64 (s3.2.1 + 1), ()) w4.drew
 ) (
 K s3.1 w4
 )
 ) (
 K s3.1 w4
 )
 ) w

theorem tieZ52 (c_stretch_Set_at : ∀ (a0 : (Option Addr)) (a1 : Int) (K : Int → World → Prop) (w : World), Prop) (x : ArgsV [.one (.ptr), .one (.int .u64), .one (.int .u64)]) (K Kp : Value → World → Prop) (w : World) : T0.stretch_Set_Count env c_stretch_Set_at x.1 x.2.1 x.2.2.1 (fun r1 w' => K (.int .u64 r1) w') w =
 ev Go.Proofs.Tryd.prog (tabC [(64, fun args w K Kp => unArgs [.one (.ptr), .one (.int .u64)] args.toList fun x => c_stretch_Set_at x.1 x.2.1 (fun r1 w' => K (.int .i64 r1) w') w)]) (ground Go.Proofs.Tryd.prog) ann52 body52 (finQ Go.Proofs.Tryd.prog Go.Proofs.Tryd.f52 K Kp) (initF (mkArgs [.one (.ptr), .one (.int .u64), .one (.int .u64)] x)) w := by kernel_rfl
theorem tie52 (x : ArgsV [.one (.ptr), .one (.int .u64), .one (.int .u64)]) (K Kp : Value → World → Prop) (w : World) : F.stretch_Set_Count env x.1 x.2.1 x.2.2.1 (fun r1 w' => K (.int .u64 r1) w') w =
 ev Go.Proofs.Tryd.prog (tabC [(64, C64)]) (ground Go.Proofs.Tryd.prog) ann52 body52 (finQ Go.Proofs.Tryd.prog Go.Proofs.Tryd.f52 K Kp) (initF (mkArgs [.one (.ptr), .one (.int .u64), .one (.int .u64)] x)) w := tieZ52 (F.stretch_Set_at env) x K Kp w
theorem fits52 : FitsOne Go.Proofs.Tryd.prog 52 C52 :=
 fits_of_tie (T := [(64, C64)]) (A := ann52) (fn := Go.Proofs.Tryd.f52) (c := body52) (fits_cons fits64 fits_nil) mixed Go.Proofs.Tryd.func52 Go.Proofs.Tryd.call52 (by kernel_rfl) (by kernel_rfl) (by kernel_rfl) tie52

noncomputable def C85 : Entry := fun args w K Kp => unArgs [.one (.ptr), .one (.int .u64), .one (.int .u64), .one (.bool), .one (.int .i64)] args.toList fun x => F.radix_Tree_looked env x.1 x.2.1 x.2.2.1 x.2.2.2.1 x.2.2.2.2.1 (fun r1 w' => K (.int .i64 r1) w') w
noncomputable def body85 : Code := (Go.Proofs.Tryd.f85.body).getD .skip
def ann85 : Ann := { loops := [], joins := [(4, [(11, .one (.int .u64))]), (5, [(14, .one (.bool))])] }
def T0.radix_Tree_looked (E : Env) (c_stretch_Set_Count : ∀ (a0 : (Option Addr)) (a1 : Int) (a2 : Int) (K : Int → World → Prop) (w : World), Prop) (a0 : (Option Addr)) (a1 : Int) (a2 : Int) (a3 : Bool) (a4 : Int) (K : Int → World → Prop) (w : World) : Prop :=
 JOIN (Int × Unit) (fun J1 =>
 CND (a3) (
 J1 (a2, ()) w
 ) (
 J1 (0, ()) w
 )
 ) fun s2 _ w3 =>
 JOIN (Bool × Unit) (fun J4 =>
 CND ((a2 : Int) == 0) (
 J4 (true, ()) w3
 ) (
 CND (decide ((a1 : Int) ≥ 34359738368)) (
 J4 (true, ()) w3
 ) (
 CND (decide ((a2 : Int) > (u64 (34359738368 - a1)))) (
 J4 (true, ()) w3
 ) (
 NC a0 fun p7 =>
 c_stretch_Set_Count (some p7) a1 (u64 (a1 + a2)) (fun r8 w9 =>
 J4 ((r8 : Int) != a2, ()) w9
 ) w3
 )
 )
 )
 ) fun s5 _ w6 =>
 CND (s5.1) (
 K 10 w6
 ) (
 NC a0 fun p10 =>
 c_stretch_Set_Count (some (p10.add 2)) a1 (u64 (a1 + a2)) (fun r11 w12 =>
 CND ((r11 : Int) != s2.1) (
 K a4 w12
 ) (
 K 0 w12
 )
 ) w6
 )

theorem tieZ85 (c_stretch_Set_Count : ∀ (a0 : (Option Addr)) (a1 : Int) (a2 : Int) (K : Int → World → Prop) (w : World), Prop) (x : ArgsV [.one (.ptr), .one (.int .u64), .one (.int .u64), .one (.bool), .one (.int .i64)]) (K Kp : Value → World → Prop) (w : World) : T0.radix_Tree_looked env c_stretch_Set_Count x.1 x.2.1 x.2.2.1 x.2.2.2.1 x.2.2.2.2.1 (fun r1 w' => K (.int .i64 r1) w') w =
 ev Go.Proofs.Tryd.prog (tabC [(52, fun args w K Kp => unArgs [.one (.ptr), .one (.int .u64), .one (.int .u64)] args.toList fun x => c_stretch_Set_Count x.1 x.2.1 x.2.2.1 (fun r1 w' => K (.int .u64 r1) w') w)]) (ground Go.Proofs.Tryd.prog) ann85 body85 (finQ Go.Proofs.Tryd.prog Go.Proofs.Tryd.f85 K Kp) (initF (mkArgs [.one (.ptr), .one (.int .u64), .one (.int .u64), .one (.bool), .one (.int .i64)] x)) w := by kernel_rfl
theorem tie85 (x : ArgsV [.one (.ptr), .one (.int .u64), .one (.int .u64), .one (.bool), .one (.int .i64)]) (K Kp : Value → World → Prop) (w : World) : F.radix_Tree_looked env x.1 x.2.1 x.2.2.1 x.2.2.2.1 x.2.2.2.2.1 (fun r1 w' => K (.int .i64 r1) w') w =
 ev Go.Proofs.Tryd.prog (tabC [(52, C52)]) (ground Go.Proofs.Tryd.prog) ann85 body85 (finQ Go.Proofs.Tryd.prog Go.Proofs.Tryd.f85 K Kp) (initF (mkArgs [.one (.ptr), .one (.int .u64), .one (.int .u64), .one (.bool), .one (.int .i64)] x)) w := tieZ85 (F.stretch_Set_Count env) x K Kp w
theorem fits85 : FitsOne Go.Proofs.Tryd.prog 85 C85 :=
 fits_of_tie (T := [(52, C52)]) (A := ann85) (fn := Go.Proofs.Tryd.f85) (c := body85) (fits_cons fits52 fits_nil) mixed Go.Proofs.Tryd.func85 Go.Proofs.Tryd.call85 (by kernel_rfl) (by kernel_rfl) (by kernel_rfl) tie85

noncomputable def C82 : Entry := fun args w K Kp => unArgs [.one (.ptr), .one (.int .u64), .one (.int .u64)] args.toList fun x => F.stretch_Set_Cut env x.1 x.2.1 x.2.2.1 (fun  w' => K (.tuple ⟨[]⟩) w') w
noncomputable def body82 : Code := (Go.Proofs.Tryd.f82.body).getD .skip
def ann82 : Ann := { loops := [(5, [(7, .one (.int .i64)), (8, .one (.sl))])], joins := [(10, [(8, .one (.sl))]), (12, [(7, .one (.int .i64)), (8, .one (.sl))])] }
def T0.stretch_Set_Cut (E : Env) (c_stretch_Set_Count : ∀ (a0 : (Option Addr)) (a1 : Int) (a2 : Int) (K : Int → World → Prop) (w : World), Prop) (c_stretch_Set_at : ∀ (a0 : (Option Addr)) (a1 : Int) (K : Int → World → Prop) (w : World), Prop) (a0 : (Option Addr)) (a1 : Int) (a2 : Int) (K : World → Prop) (w : World) : Prop :=
 CND (decide ((a1 : Int) ≥ a2)) (
 K  w
 ) (
 NC a0 fun p1 =>
 ∃ x2 : Int, w.drew.cell? (p1.add 1) = some (.int .u64 x2) ∧
 c_stretch_Set_Count a0 a1 a2 (fun r3 w4 =>
 w4.cell? (p1.add 1) = some (.int .u64 x2) ∧
 NC a0 fun p5 =>
 stCells (p5.add 1) 0 [.int .u64 (u64 (x2 - r3))] w4 fun w6 =>
 c_stretch_Set_at a0 a1 (fun r7 w8 =>
 JOIN (Int × SlV × Unit) (fun J9 =>
 LOOP (Int × SlV × Unit) (r7, ⟨none, 0, 0⟩, ()) w8 fun s12 _ w13 next14 =>
 NC a0 fun p15 =>
 ∃ x16 : SlV, w13.cell? p15 = some (.slice x16.base x16.len x16.cap) ∧
 CND (decide ((s12.1 : Int) < ((x16.len : Nat) : Int))) (
 NC a0 fun p17 =>
 ∃ x18 : SlV, w13.cell? p17 = some (.slice x18.base x18.len x18.cap) ∧
 NC x18.base fun p19 =>
 ((0 : Int) ≤ s12.1 ∧ (s12.1 : Int) < (x18.len : Nat)) ∧
 ∃ x20 : Int, w13.cell? (p19.add (Int.toNat s12.1 * 2)) = some (.int .u64 x20) ∧
 CND (decide ((x20 : Int) < a2)) (
 NC a0 fun p21 =>
 ∃ x22 : SlV, w13.cell? p21 = some (.slice x22.base x22.len x22.cap) ∧
 NC x22.base fun p23 =>
 ((0 : Int) ≤ s12.1 ∧ (s12.1 : Int) < (x22.len : Nat)) ∧
 ∃ c24 : Int, w13.cell? ((p23.add (Int.toNat s12.1 * 2)).add 0) = some (.int .u64 c24) ∧
 ∃ c25 : Int, w13.cell? ((p23.add (Int.toNat s12.1 * 2)).add 1) = some (.int .u64 c25) ∧
 AL (.cells #[.int .u64 0, .int .u64 0] E.t_stretch_One) w13 fun b26 w27 =>
 stCells (Addr.mk b26 0 none) 0 [.int .u64 c24, .int .u64 c25] w27 fun w28 =>
 JOIN (SlV × Unit) (fun J29 =>
 ∃ x32 : Int, w28.cell? (Addr.mk b26 0 none) = some (.int .u64 x32) ∧
 CND (decide ((x32 : Int) < a1)) (
 ∃ x33 : Int, w28.cell? (Addr.mk b26 0 none) = some (.int .u64 x33) ∧
 AL (.cells ⟨[.int .u64 x33, .int .u64 a1]⟩ E.t_stretch_One) w28 fun b34 w35 =>
 APP E.t_stretch_One 2 16 #[.int .u64 0, .int .u64 0] s12.2.1 ⟨(some (Addr.mk b34 0 none)), 1, 1⟩ w35 fun s36 w37 =>
 J29 (s36, ()) w37
 ) (
 J29 (s12.2.1, ()) w28
 )
 ) fun s30 _ w31 =>
 ∃ x38 : Int, w31.cell? ((Addr.mk b26 0 none).add 1) = some (.int .u64 x38) ∧
 CND (decide ((x38 : Int) > a2)) (
 ∃ x39 : Int, w31.cell? ((Addr.mk b26 0 none).add 1) = some (.int .u64 x39) ∧
 AL (.cells ⟨[.int .u64 a2, .int .u64 x39]⟩ E.t_stretch_One) w31 fun b40 w41 =>
 APP E.t_stretch_One 2 16 #[.int .u64 0, .int .u64 0] s30.1 ⟨(some (Addr.mk b40 0 none)), 1, 1⟩ w41 fun s42 w43 =>
 next14 (i64 (s12.1 + 1), s42, ()) w43
 ) (
 next14 (i64 (s12.1 + 1), s30.1, ()) w31
 )
 ) (
 J9 (s12.1, s12.2.1, ()) w13
 )
 ) (
 J9 (s12.1, s12.2.1, ()) w13
 )
 ) fun s10 _ w11 =>
 NC a0 fun p44 =>
 ∃ x45 : SlV, w11.drew.cell? p44 = some (.slice x45.base x45.len x45.cap) ∧
 ((0 : Int) ≤ r7 ∧ (r7 : Int) ≤ (x45.cap : Nat)) ∧
 NC a0 fun p46 =>
 ∃ x47 : SlV, w11.drew.cell? p46 = some (.slice x47.base x47.len x47.cap) ∧
 ((0 : Int) ≤ s10.1 ∧ (s10.1 : Int) ≤ (x47.len : Nat)) ∧
 AL (.cells ⟨[]⟩ E.t_stretch_One) w11.drew fun b48 w49 =>
 w49.cell? p46 = some (.slice x47.base x47.len x47.cap) ∧
 w49.cell? p44 = some (.slice x45.base x45.len x45.cap) ∧
 APP E.t_stretch_One 2 16 #[.int .u64 0, .int .u64 0] ⟨(some (Addr.mk b48 0 none)), 0, 0⟩ ⟨(slB x45.base x45.cap 0 2), (Int.toNat r7), x45.cap⟩ w49 fun s50 w51 =>
 w51.cell? p46 = some (.slice x47.base x47.len x47.cap) ∧
 w51.cell? p44 = some (.slice x45.base x45.len x45.cap) ∧
 APP E.t_stretch_One 2 16 #[.int .u64 0, .int .u64 0] s50 s10.2.1 w51 fun s52 w53 =>
 w53.cell? p46 = some (.slice x47.base x47.len x47.cap) ∧
 w53.cell? p44 = some (.slice x45.base x45.len x45.cap) ∧
 APP E.t_stretch_One 2 16 #[.int .u64 0, .int .u64 0] s52 ⟨(slB x47.base x47.cap (Int.toNat s10.1) 2), (x47.len - (Int.toNat s10.1)), (x47.cap - (Int.toNat s10.1))⟩ w53 fun s54 w55 =>
 w55.cell? p46 = some (.slice x47.base x47.len x47.cap) ∧
 w55.cell? p44 = some (.slice x45.base x45.len x45.cap) ∧
 NC a0 fun p56 =>
 stCells p56 0 [.slice s54.base s54.len s54.cap] w55 fun w57 =>
 K  w57
 ) w6
 ) w.drew
 )

theorem tieZ82 (c_stretch_Set_Count : ∀ (a0 : (Option Addr)) (a1 : Int) (a2 : Int) (K : Int → World → Prop) (w : World), Prop) (c_stretch_Set_at : ∀ (a0 : (Option Addr)) (a1 : Int) (K : Int → World → Prop) (w : World), Prop) (x : ArgsV [.one (.ptr), .one (.int .u64), .one (.int .u64)]) (K Kp : Value → World → Prop) (w : World) : T0.stretch_Set_Cut env c_stretch_Set_Count c_stretch_Set_at x.1 x.2.1 x.2.2.1 (fun  w' => K (.tuple ⟨[]⟩) w') w =
 ev Go.Proofs.Tryd.prog (tabC [(52, fun args w K Kp => unArgs [.one (.ptr), .one (.int .u64), .one (.int .u64)] args.toList fun x => c_stretch_Set_Count x.1 x.2.1 x.2.2.1 (fun r1 w' => K (.int .u64 r1) w') w), (64, fun args w K Kp => unArgs [.one (.ptr), .one (.int .u64)] args.toList fun x => c_stretch_Set_at x.1 x.2.1 (fun r1 w' => K (.int .i64 r1) w') w)]) (ground Go.Proofs.Tryd.prog) ann82 body82 (finQ Go.Proofs.Tryd.prog Go.Proofs.Tryd.f82 K Kp) (initF (mkArgs [.one (.ptr), .one (.int .u64), .one (.int .u64)] x)) w := by kernel_rfl
theorem tie82 (x : ArgsV [.one (.ptr), .one (.int .u64), .one (.int .u64)]) (K Kp : Value → World → Prop) (w : World) : F.stretch_Set_Cut env x.1 x.2.1 x.2.2.1 (fun  w' => K (.tuple ⟨[]⟩) w') w =
 ev Go.Proofs.Tryd.prog (tabC [(52, C52), (64, C64)]) (ground Go.Proofs.Tryd.prog) ann82 body82 (finQ Go.Proofs.Tryd.prog Go.Proofs.Tryd.f82 K Kp) (initF (mkArgs [.one (.ptr), .one (.int .u64), .one (.int .u64)] x)) w := tieZ82 (F.stretch_Set_Count env) (F.stretch_Set_at env) x K Kp w
theorem fits82 : FitsOne Go.Proofs.Tryd.prog 82 C82 :=
 fits_of_tie (T := [(52, C52), (64, C64)]) (A := ann82) (fn := Go.Proofs.Tryd.f82) (c := body82) (fits_cons fits52 (fits_cons fits64 fits_nil)) mixed Go.Proofs.Tryd.func82 Go.Proofs.Tryd.call82 (by kernel_rfl) (by kernel_rfl) (by kernel_rfl) tie82

noncomputable def C75 : Entry := fun args w K Kp => unArgs [.one (.ptr), .one (.int .u64), .one (.int .u64)] args.toList fun x => F.radix_Tree_Take env x.1 x.2.1 x.2.2.1 (fun r1 r2 w' => K (.tuple ⟨[.int .u64 r1, .int .i64 r2]⟩) w') w
noncomputable def body75 : Code := (Go.Proofs.Tryd.f75.body).getD .skip
def ann75 : Ann := { loops := [], joins := [] }
def T0.radix_Tree_Take (E : Env) (c_radix_Tree_looked : ∀ (a0 : (Option Addr)) (a1 : Int) (a2 : Int) (a3 : Bool) (a4 : Int) (K : Int → World → Prop) (w : World), Prop) (c_stretch_Set_Count : ∀ (a0 : (Option Addr)) (a1 : Int) (a2 : Int) (K : Int → World → Prop) (w : World), Prop) (c_stretch_Set_Cut : ∀ (a0 : (Option Addr)) (a1 : Int) (a2 : Int) (K : World → Prop) (w : World), Prop) (c_radix_Tree_changed : ∀ (a0 : (Option Addr)) (K : World → Prop) (w : World), Prop) (a0 : (Option Addr)) (a1 : Int) (a2 : Int) (K : Int → Int → World → Prop) (w : World) : Prop :=
 c_radix_Tree_looked a0 a1 a2 true 32 (fun r1 w2 =>
 CND ((r1 : Int) != 0) (
 K 0 r1 w2
 ) (
 NC a0 fun p3 =>
 c_stretch_Set_Count (some (p3.add 4)) a1 (u64 (a1 + a2)) (fun r4 w5 =>
 NC a0 fun p6 =>
 c_stretch_Set_Cut (some (p6.add 2)) a1 (u64 (a1 + a2)) (fun  w7 =>
 NC a0 fun p8 =>
 c_stretch_Set_Cut (some (p8.add 4)) a1 (u64 (a1 + a2)) (fun  w9 =>
 NC a0 fun p10 =>
 c_stretch_Set_Cut (some (p10.add 6)) a1 (u64 (a1 + a2)) (fun  w11 =>
 c_radix_Tree_changed a0 (fun  w12 =>
 K r4 0 w12
 ) w11
 ) w9
 ) w7
 ) w5
 ) w2
 )
 ) w

theorem tieZ75 (c_radix_Tree_looked : ∀ (a0 : (Option Addr)) (a1 : Int) (a2 : Int) (a3 : Bool) (a4 : Int) (K : Int → World → Prop) (w : World), Prop) (c_stretch_Set_Count : ∀ (a0 : (Option Addr)) (a1 : Int) (a2 : Int) (K : Int → World → Prop) (w : World), Prop) (c_stretch_Set_Cut : ∀ (a0 : (Option Addr)) (a1 : Int) (a2 : Int) (K : World → Prop) (w : World), Prop) (c_radix_Tree_changed : ∀ (a0 : (Option Addr)) (K : World → Prop) (w : World), Prop) (x : ArgsV [.one (.ptr), .one (.int .u64), .one (.int .u64)]) (K Kp : Value → World → Prop) (w : World) : T0.radix_Tree_Take env c_radix_Tree_looked c_stretch_Set_Count c_stretch_Set_Cut c_radix_Tree_changed x.1 x.2.1 x.2.2.1 (fun r1 r2 w' => K (.tuple ⟨[.int .u64 r1, .int .i64 r2]⟩) w') w =
 ev Go.Proofs.Tryd.prog (tabC [(85, fun args w K Kp => unArgs [.one (.ptr), .one (.int .u64), .one (.int .u64), .one (.bool), .one (.int .i64)] args.toList fun x => c_radix_Tree_looked x.1 x.2.1 x.2.2.1 x.2.2.2.1 x.2.2.2.2.1 (fun r1 w' => K (.int .i64 r1) w') w), (52, fun args w K Kp => unArgs [.one (.ptr), .one (.int .u64), .one (.int .u64)] args.toList fun x => c_stretch_Set_Count x.1 x.2.1 x.2.2.1 (fun r1 w' => K (.int .u64 r1) w') w), (82, fun args w K Kp => unArgs [.one (.ptr), .one (.int .u64), .one (.int .u64)] args.toList fun x => c_stretch_Set_Cut x.1 x.2.1 x.2.2.1 (fun  w' => K (.tuple ⟨[]⟩) w') w), (65, fun args w K Kp => unArgs [.one (.ptr)] args.toList fun x => c_radix_Tree_changed x.1 (fun  w' => K (.tuple ⟨[]⟩) w') w)]) (ground Go.Proofs.Tryd.prog) ann75 body75 (finQ Go.Proofs.Tryd.prog Go.Proofs.Tryd.f75 K Kp) (initF (mkArgs [.one (.ptr), .one (.int .u64), .one (.int .u64)] x)) w := by kernel_rfl
theorem tie75 (x : ArgsV [.one (.ptr), .one (.int .u64), .one (.int .u64)]) (K Kp : Value → World → Prop) (w : World) : F.radix_Tree_Take env x.1 x.2.1 x.2.2.1 (fun r1 r2 w' => K (.tuple ⟨[.int .u64 r1, .int .i64 r2]⟩) w') w =
 ev Go.Proofs.Tryd.prog (tabC [(85, C85), (52, C52), (82, C82), (65, C65)]) (ground Go.Proofs.Tryd.prog) ann75 body75 (finQ Go.Proofs.Tryd.prog Go.Proofs.Tryd.f75 K Kp) (initF (mkArgs [.one (.ptr), .one (.int .u64), .one (.int .u64)] x)) w := tieZ75 (F.radix_Tree_looked env) (F.stretch_Set_Count env) (F.stretch_Set_Cut env) (F.radix_Tree_changed env) x K Kp w
theorem fits75 : FitsOne Go.Proofs.Tryd.prog 75 C75 :=
 fits_of_tie (T := [(85, C85), (52, C52), (82, C82), (65, C65)]) (A := ann75) (fn := Go.Proofs.Tryd.f75) (c := body75) (fits_cons fits85 (fits_cons fits52 (fits_cons fits82 (fits_cons fits65 fits_nil)))) mixed Go.Proofs.Tryd.func75 Go.Proofs.Tryd.call75 (by kernel_rfl) (by kernel_rfl) (by kernel_rfl) tie75

noncomputable def C69 : Entry := fun args w K Kp => unArgs [.one (.ptr), .one (.ptr)] args.toList fun x => F.pcache_Cache_Fill env x.1 x.2.1 (fun r1 w' => K (.int .i64 r1) w') w
noncomputable def body69 : Code := (Go.Proofs.Tryd.f69.body).getD .skip
def ann69 : Ann := { loops := [(8, [(28, .one (.int .u64))])], joins := [] }
def T0.pcache_Cache_Fill (E : Env) (c_radix_Tree_Find : ∀ (a0 : (Option Addr)) (a1 : Int) (K : Int → Bool → World → Prop) (w : World), Prop) (c_pcache_Cache_Empty : ∀ (a0 : (Option Addr)) (K : Bool → World → Prop) (w : World), Prop) (c_radix_Tree_Take : ∀ (a0 : (Option Addr)) (a1 : Int) (a2 : Int) (K : Int → Int → World → Prop) (w : World), Prop) (a0 : (Option Addr)) (a1 : (Option Addr)) (K : Int → World → Prop) (w : World) : Prop :=
 c_radix_Tree_Find a1 1 (fun r1 r2 w3 =>
 c_pcache_Cache_Empty a0 (fun r4 w5 =>
 CND (!r4) (
 K 33 w5
 ) (
 CND (!r2) (
 K 30 w5
 ) (
 64 ≠ (0 : Int) ∧
 NC a0 fun p6 =>
 stCells p6 0 [.int .u64 (u64 ((u64 (Int.tdiv r1 64)) * 64))] w5 fun w7 =>
 LOOP (Int × Unit) (0, ()) w7 fun s8 _ w9 next10 =>
 CND (decide ((s8.1 : Int) < 64)) (
 NC a0 fun p11 =>
 ∃ x12 : Int, w9.cell? p11 = some (.int .u64 x12) ∧
 c_radix_Tree_Take a1 (u64 (x12 + s8.1)) 1 (fun r13 r14 w15 =>
 CND ((r14 : Int) == 0) (
 NC a0 fun p16 =>
 ∃ x17 : Int, w15.cell? (p16.add 1) = some (.int .u64 x17) ∧
 (0 : Int) ≤ s8.1 ∧
 NC a0 fun p18 =>
 stCells (p18.add 1) 0 [.int .u64 (bitK .u64 1 x17 (u64 (1 * 2 ^ (min (Int.toNat s8.1) (IntKind.bits .u64)))))] w15 fun w19 =>
 NC a0 fun p20 =>
 ∃ x21 : Int, w19.cell? (p20.add 2) = some (.int .u64 x21) ∧
 (0 : Int) ≤ s8.1 ∧
 NC a0 fun p22 =>
 stCells (p22.add 2) 0 [.int .u64 (bitK .u64 1 x21 (u64 (r13 * 2 ^ (min (Int.toNat s8.1) (IntKind.bits .u64)))))] w19 fun w23 =>
 next10 (u64 (s8.1 + 1), ()) w23
 ) (
 next10 (u64 (s8.1 + 1), ()) w15
 )
 ) w9
 ) (
 K 0 w9
 )
 )
 )
 ) w3
 ) w

theorem tieZ69 (c_radix_Tree_Find : ∀ (a0 : (Option Addr)) (a1 : Int) (K : Int → Bool → World → Prop) (w : World), Prop) (c_pcache_Cache_Empty : ∀ (a0 : (Option Addr)) (K : Bool → World → Prop) (w : World), Prop) (c_radix_Tree_Take : ∀ (a0 : (Option Addr)) (a1 : Int) (a2 : Int) (K : Int → Int → World → Prop) (w : World), Prop) (x : ArgsV [.one (.ptr), .one (.ptr)]) (K Kp : Value → World → Prop) (w : World) : T0.pcache_Cache_Fill env c_radix_Tree_Find c_pcache_Cache_Empty c_radix_Tree_Take x.1 x.2.1 (fun r1 w' => K (.int .i64 r1) w') w =
 ev Go.Proofs.Tryd.prog (tabC [(74, fun args w K Kp => unArgs [.one (.ptr), .one (.int .u64)] args.toList fun x => c_radix_Tree_Find x.1 x.2.1 (fun r1 r2 w' => K (.tuple ⟨[.int .u64 r1, .bool r2]⟩) w') w), (68, fun args w K Kp => unArgs [.one (.ptr)] args.toList fun x => c_pcache_Cache_Empty x.1 (fun r1 w' => K (.bool r1) w') w), (75, fun args w K Kp => unArgs [.one (.ptr), .one (.int .u64), .one (.int .u64)] args.toList fun x => c_radix_Tree_Take x.1 x.2.1 x.2.2.1 (fun r1 r2 w' => K (.tuple ⟨[.int .u64 r1, .int .i64 r2]⟩) w') w)]) (ground Go.Proofs.Tryd.prog) ann69 body69 (finQ Go.Proofs.Tryd.prog Go.Proofs.Tryd.f69 K Kp) (initF (mkArgs [.one (.ptr), .one (.ptr)] x)) w := by kernel_rfl
theorem tie69 (x : ArgsV [.one (.ptr), .one (.ptr)]) (K Kp : Value → World → Prop) (w : World) : F.pcache_Cache_Fill env x.1 x.2.1 (fun r1 w' => K (.int .i64 r1) w') w =
 ev Go.Proofs.Tryd.prog (tabC [(74, C74), (68, C68), (75, C75)]) (ground Go.Proofs.Tryd.prog) ann69 body69 (finQ Go.Proofs.Tryd.prog Go.Proofs.Tryd.f69 K Kp) (initF (mkArgs [.one (.ptr), .one (.ptr)] x)) w := tieZ69 (F.radix_Tree_Find env) (F.pcache_Cache_Empty env) (F.radix_Tree_Take env) x K Kp w
theorem fits69 : FitsOne Go.Proofs.Tryd.prog 69 C69 :=
 fits_of_tie (T := [(74, C74), (68, C68), (75, C75)]) (A := ann69) (fn := Go.Proofs.Tryd.f69) (c := body69) (fits_cons fits74 (fits_cons fits68 (fits_cons fits75 fits_nil))) mixed Go.Proofs.Tryd.func69 Go.Proofs.Tryd.call69 (by kernel_rfl) (by kernel_rfl) (by kernel_rfl) tie69

noncomputable def C99 : Entry := fun args w K Kp => unArgs [.one (.int .u64)] args.toList fun x => F.math_bits_TrailingZeros64 env x.1 (fun r1 w' => K (.int .i64 r1) w') w
noncomputable def body99 : Code := (Go.Proofs.Tryd.f99.body).getD .skip
def ann99 : Ann := { loops := [], joins := [] }
theorem tie99 (x : ArgsV [.one (.int .u64)]) (K Kp : Value → World → Prop) (w : World) : F.math_bits_TrailingZeros64 env x.1 (fun r1 w' => K (.int .i64 r1) w') w =
 ev Go.Proofs.Tryd.prog (tabC []) (ground Go.Proofs.Tryd.prog) ann99 body99 (finQ Go.Proofs.Tryd.prog Go.Proofs.Tryd.f99 K Kp) (initF (mkArgs [.one (.int .u64)] x)) w := by kernel_rfl
theorem fits99 : FitsOne Go.Proofs.Tryd.prog 99 C99 :=
 fits_of_tie (T := []) (A := ann99) (fn := Go.Proofs.Tryd.f99) (c := body99) fits_nil mixed Go.Proofs.Tryd.func99 Go.Proofs.Tryd.call99 (by kernel_rfl) (by kernel_rfl) (by kernel_rfl) tie99

noncomputable def C95 : Entry := fun args w K Kp => unArgs [.one (.int .u64), .one (.int .i64)] args.toList fun x => F.pcache_find env x.1 x.2.1 (fun r1 r2 w' => K (.tuple ⟨[.int .i64 r1, .bool r2]⟩) w') w
noncomputable def body95 : Code := (Go.Proofs.Tryd.f95.body).getD .skip
def ann95 : Ann := { loops := [(2, [(0, .one (.int .u64)), (1, .one (.int .i64)), (6, .one (.int .i64))])], joins := [] }
def T0.pcache_find (E : Env) (c_math_bits_TrailingZeros64 : ∀ (a0 : Int) (K : Int → World → Prop) (w : World), Prop) (a0 : Int) (a1 : Int) (K : Int → Bool → World → Prop) (w : World) : Prop :=
 LOOP (Int × Int × Int × Unit) (a0, a1, i64 (a1 - 1), ()) w fun s1 _ w2 next3 =>
 CND (decide ((s1.2.2.1 : Int) > 0)) (
 2 ≠ (0 : Int) ∧
 LET (minI s1.2.2.1 (maxI 1 (i64 (Int.tdiv s1.2.1 2))) : Int) fun by_4 =>
 (0 : Int) ≤ by_4 ∧
 LET (bitK .u64 0 s1.1 (Int.fdiv s1.1 (2 ^ (min (Int.toNat by_4) (IntKind.bits .u64)))) : Int) fun w_5 =>
 next3 (w_5, i64 (s1.2.1 - by_4), i64 (s1.2.2.1 - by_4), ()) w2
 ) (
 c_math_bits_TrailingZeros64 s1.1 (fun r6 w7 =>
 K r6 ((s1.1 : Int) != 0) w7
 ) w2
 )

theorem tieZ95 (c_math_bits_TrailingZeros64 : ∀ (a0 : Int) (K : Int → World → Prop) (w : World), Prop) (x : ArgsV [.one (.int .u64), .one (.int .i64)]) (K Kp : Value → World → Prop) (w : World) : T0.pcache_find env c_math_bits_TrailingZeros64 x.1 x.2.1 (fun r1 r2 w' => K (.tuple ⟨[.int .i64 r1, .bool r2]⟩) w') w =
 ev Go.Proofs.Tryd.prog (tabC [(99, fun args w K Kp => unArgs [.one (.int .u64)] args.toList fun x => c_math_bits_TrailingZeros64 x.1 (fun r1 w' => K (.int .i64 r1) w') w)]) (ground Go.Proofs.Tryd.prog) ann95 body95 (finQ Go.Proofs.Tryd.prog Go.Proofs.Tryd.f95 K Kp) (initF (mkArgs [.one (.int .u64), .one (.int .i64)] x)) w := by kernel_rfl
theorem tie95 (x : ArgsV [.one (.int .u64), .one (.int .i64)]) (K Kp : Value → World → Prop) (w : World) : F.pcache_find env x.1 x.2.1 (fun r1 r2 w' => K (.tuple ⟨[.int .i64 r1, .bool r2]⟩) w') w =
 ev Go.Proofs.Tryd.prog (tabC [(99, C99)]) (ground Go.Proofs.Tryd.prog) ann95 body95 (finQ Go.Proofs.Tryd.prog Go.Proofs.Tryd.f95 K Kp) (initF (mkArgs [.one (.int .u64), .one (.int .i64)] x)) w := tieZ95 (F.math_bits_TrailingZeros64 env) x K Kp w
theorem fits95 : FitsOne Go.Proofs.Tryd.prog 95 C95 :=
 fits_of_tie (T := [(99, C99)]) (A := ann95) (fn := Go.Proofs.Tryd.f95) (c := body95) (fits_cons fits99 fits_nil) mixed Go.Proofs.Tryd.func95 Go.Proofs.Tryd.call95 (by kernel_rfl) (by kernel_rfl) (by kernel_rfl) tie95

noncomputable def C96 : Entry := fun args w K Kp => unArgs [.one (.int .u64)] args.toList fun x => F.math_bits_OnesCount64 env x.1 (fun r1 w' => K (.int .i64 r1) w') w
noncomputable def body96 : Code := (Go.Proofs.Tryd.f96.body).getD .skip
def ann96 : Ann := { loops := [], joins := [] }
theorem tie96 (x : ArgsV [.one (.int .u64)]) (K Kp : Value → World → Prop) (w : World) : F.math_bits_OnesCount64 env x.1 (fun r1 w' => K (.int .i64 r1) w') w =
 ev Go.Proofs.Tryd.prog (tabC []) (ground Go.Proofs.Tryd.prog) ann96 body96 (finQ Go.Proofs.Tryd.prog Go.Proofs.Tryd.f96 K Kp) (initF (mkArgs [.one (.int .u64)] x)) w := by kernel_rfl
theorem fits96 : FitsOne Go.Proofs.Tryd.prog 96 C96 :=
 fits_of_tie (T := []) (A := ann96) (fn := Go.Proofs.Tryd.f96) (c := body96) fits_nil mixed Go.Proofs.Tryd.func96 Go.Proofs.Tryd.call96 (by kernel_rfl) (by kernel_rfl) (by kernel_rfl) tie96

noncomputable def C70 : Entry := fun args w K Kp => unArgs [.one (.ptr), .one (.int .i64)] args.toList fun x => F.pcache_Cache_Alloc env x.1 x.2.1 (fun r1 r2 r3 w' => K (.tuple ⟨[.int .u64 r1, .int .i64 r2, .int .i64 r3]⟩) w') w
noncomputable def body70 : Code := (Go.Proofs.Tryd.f70.body).getD .skip
def ann70 : Ann := { loops := [], joins := [(2, [(16, .one (.bool))])] }
def T0.pcache_Cache_Alloc (E : Env) (c_pcache_find : ∀ (a0 : Int) (a1 : Int) (K : Int → Bool → World → Prop) (w : World), Prop) (c_math_bits_OnesCount64 : ∀ (a0 : Int) (K : Int → World → Prop) (w : World), Prop) (a0 : (Option Addr)) (a1 : Int) (K : Int → Int → Int → World → Prop) (w : World) : Prop :=
 JOIN (Bool × Unit) (fun J1 =>
 CND (decide ((a1 : Int) < 1)) (
 J1 (true, ()) w
 ) (
 J1 (decide ((a1 : Int) > 64), ()) w
 )
 ) fun s2 _ w3 =>
 CND (s2.1) (
 K 0 0 1 w3
 ) (
 NC a0 fun p4 =>
 ∃ x5 : Int, w3.cell? (p4.add 1) = some (.int .u64 x5) ∧
 c_pcache_find x5 a1 (fun r6 r7 w8 =>
 CND (!r7) (
 K 0 0 30 w8
 ) (
 (0 : Int) ≤ (i64 (64 - a1)) ∧
 (0 : Int) ≤ r6 ∧
 LET (u64 ((Int.fdiv 18446744073709551615 (2 ^ (min (Int.toNat (i64 (64 - a1))) (IntKind.bits .u64)))) * 2 ^ (min (Int.toNat r6) (IntKind.bits .u64))) : Int) fun mask_9 =>
 NC a0 fun p10 =>
 ∃ x11 : Int, w8.cell? (p10.add 2) = some (.int .u64 x11) ∧
 c_math_bits_OnesCount64 (bitK .u64 0 x11 mask_9) (fun r12 w13 =>
 NC a0 fun p14 =>
 ∃ x15 : Int, w13.cell? (p14.add 1) = some (.int .u64 x15) ∧
 NC a0 fun p16 =>
 stCells (p16.add 1) 0 [.int .u64 (bitK .u64 3 x15 mask_9)] w13 fun w17 =>
 NC a0 fun p18 =>
 ∃ x19 : Int, w17.cell? (p18.add 2) = some (.int .u64 x19) ∧
 NC a0 fun p20 =>
 stCells (p20.add 2) 0 [.int .u64 (bitK .u64 3 x19 mask_9)] w17 fun w21 =>
 NC a0 fun p22 =>
 ∃ x23 : Int, w21.cell? p22 = some (.int .u64 x23) ∧
 K (u64 (x23 + (u64 (r6)))) r12 0 w21
 ) w8
 )
 ) w3
 )

theorem tieZ70 (c_pcache_find : ∀ (a0 : Int) (a1 : Int) (K : Int → Bool → World → Prop) (w : World), Prop) (c_math_bits_OnesCount64 : ∀ (a0 : Int) (K : Int → World → Prop) (w : World), Prop) (x : ArgsV [.one (.ptr), .one (.int .i64)]) (K Kp : Value → World → Prop) (w : World) : T0.pcache_Cache_Alloc env c_pcache_find c_math_bits_OnesCount64 x.1 x.2.1 (fun r1 r2 r3 w' => K (.tuple ⟨[.int .u64 r1, .int .i64 r2, .int .i64 r3]⟩) w') w =
 ev Go.Proofs.Tryd.prog (tabC [(95, fun args w K Kp => unArgs [.one (.int .u64), .one (.int .i64)] args.toList fun x => c_pcache_find x.1 x.2.1 (fun r1 r2 w' => K (.tuple ⟨[.int .i64 r1, .bool r2]⟩) w') w), (96, fun args w K Kp => unArgs [.one (.int .u64)] args.toList fun x => c_math_bits_OnesCount64 x.1 (fun r1 w' => K (.int .i64 r1) w') w)]) (ground Go.Proofs.Tryd.prog) ann70 body70 (finQ Go.Proofs.Tryd.prog Go.Proofs.Tryd.f70 K Kp) (initF (mkArgs [.one (.ptr), .one (.int .i64)] x)) w := by kernel_rfl
theorem tie70 (x : ArgsV [.one (.ptr), .one (.int .i64)]) (K Kp : Value → World → Prop) (w : World) : F.pcache_Cache_Alloc env x.1 x.2.1 (fun r1 r2 r3 w' => K (.tuple ⟨[.int .u64 r1, .int .i64 r2, .int .i64 r3]⟩) w') w =
 ev Go.Proofs.Tryd.prog (tabC [(95, C95), (96, C96)]) (ground Go.Proofs.Tryd.prog) ann70 body70 (finQ Go.Proofs.Tryd.prog Go.Proofs.Tryd.f70 K Kp) (initF (mkArgs [.one (.ptr), .one (.int .i64)] x)) w := tieZ70 (F.pcache_find env) (F.math_bits_OnesCount64 env) x K Kp w
theorem fits70 : FitsOne Go.Proofs.Tryd.prog 70 C70 :=
 fits_of_tie (T := [(95, C95), (96, C96)]) (A := ann70) (fn := Go.Proofs.Tryd.f70) (c := body70) (fits_cons fits95 (fits_cons fits96 fits_nil)) mixed Go.Proofs.Tryd.func70 Go.Proofs.Tryd.call70 (by kernel_rfl) (by kernel_rfl) (by kernel_rfl) tie70

noncomputable def C47 : Entry := fun args w K Kp => unArgs [.one (.ptr), .one (.int .u64)] args.toList fun x => F.radix_Tree_Alloc env x.1 x.2.1 (fun r1 r2 r3 w' => K (.tuple ⟨[.int .u64 r1, .int .u64 r2, .int .i64 r3]⟩) w') w
noncomputable def body47 : Code := (Go.Proofs.Tryd.f47.body).getD .skip
def ann47 : Ann := { loops := [], joins := [] }
def T0.radix_Tree_Alloc (E : Env) (c_radix_Tree_Find : ∀ (a0 : (Option Addr)) (a1 : Int) (K : Int → Bool → World → Prop) (w : World), Prop) (c_radix_Tree_Take : ∀ (a0 : (Option Addr)) (a1 : Int) (a2 : Int) (K : Int → Int → World → Prop) (w : World), Prop) (a0 : (Option Addr)) (a1 : Int) (K : Int → Int → Int → World → Prop) (w : World) : Prop :=
 CND ((a1 : Int) == 0) (
 K 0 0 1 w
 ) (
 c_radix_Tree_Find a0 a1 (fun r1 r2 w3 =>
 CND (!r2) (
 K 0 0 30 w3
 ) (
 c_radix_Tree_Take a0 r1 a1 (fun r4 r5 w6 =>
 K r1 r4 r5 w6
 ) w3
 )
 ) w
 )

theorem tieZ47 (c_radix_Tree_Find : ∀ (a0 : (Option Addr)) (a1 : Int) (K : Int → Bool → World → Prop) (w : World), Prop) (c_radix_Tree_Take : ∀ (a0 : (Option Addr)) (a1 : Int) (a2 : Int) (K : Int → Int → World → Prop) (w : World), Prop) (x : ArgsV [.one (.ptr), .one (.int .u64)]) (K Kp : Value → World → Prop) (w : World) : T0.radix_Tree_Alloc env c_radix_Tree_Find c_radix_Tree_Take x.1 x.2.1 (fun r1 r2 r3 w' => K (.tuple ⟨[.int .u64 r1, .int .u64 r2, .int .i64 r3]⟩) w') w =
 ev Go.Proofs.Tryd.prog (tabC [(74, fun args w K Kp => unArgs [.one (.ptr), .one (.int .u64)] args.toList fun x => c_radix_Tree_Find x.1 x.2.1 (fun r1 r2 w' => K (.tuple ⟨[.int .u64 r1, .bool r2]⟩) w') w), (75, fun args w K Kp => unArgs [.one (.ptr), .one (.int .u64), .one (.int .u64)] args.toList fun x => c_radix_Tree_Take x.1 x.2.1 x.2.2.1 (fun r1 r2 w' => K (.tuple ⟨[.int .u64 r1, .int .i64 r2]⟩) w') w)]) (ground Go.Proofs.Tryd.prog) ann47 body47 (finQ Go.Proofs.Tryd.prog Go.Proofs.Tryd.f47 K Kp) (initF (mkArgs [.one (.ptr), .one (.int .u64)] x)) w := by kernel_rfl
theorem tie47 (x : ArgsV [.one (.ptr), .one (.int .u64)]) (K Kp : Value → World → Prop) (w : World) : F.radix_Tree_Alloc env x.1 x.2.1 (fun r1 r2 r3 w' => K (.tuple ⟨[.int .u64 r1, .int .u64 r2, .int .i64 r3]⟩) w') w =
 ev Go.Proofs.Tryd.prog (tabC [(74, C74), (75, C75)]) (ground Go.Proofs.Tryd.prog) ann47 body47 (finQ Go.Proofs.Tryd.prog Go.Proofs.Tryd.f47 K Kp) (initF (mkArgs [.one (.ptr), .one (.int .u64)] x)) w := tieZ47 (F.radix_Tree_Find env) (F.radix_Tree_Take env) x K Kp w
theorem fits47 : FitsOne Go.Proofs.Tryd.prog 47 C47 :=
 fits_of_tie (T := [(74, C74), (75, C75)]) (A := ann47) (fn := Go.Proofs.Tryd.f47) (c := body47) (fits_cons fits74 (fits_cons fits75 fits_nil)) mixed Go.Proofs.Tryd.func47 Go.Proofs.Tryd.call47 (by kernel_rfl) (by kernel_rfl) (by kernel_rfl) tie47

noncomputable def C45 : Entry := fun args w K Kp => unArgs [.one (.ptr), .one (.int .i64), .one (.int .u64)] args.toList fun x => F.mheap_Heap_got env x.1 x.2.1 x.2.2.1 (fun r1 r2 w' => K (.tuple ⟨[.int .u64 r1, .bool r2]⟩) w') w
noncomputable def body45 : Code := (Go.Proofs.Tryd.f45.body).getD .skip
def ann45 : Ann := { loops := [], joins := [(2, [(20, .one (.bool))]), (5, []), (8, [])] }
def T0.mheap_Heap_got (E : Env) (c_mheap_is : ∀ (a0 : Int) (K : Bool → World → Prop) (w : World), Prop) (c_pcache_Cache_Empty : ∀ (a0 : (Option Addr)) (K : Bool → World → Prop) (w : World), Prop) (c_pcache_Cache_Fill : ∀ (a0 : (Option Addr)) (a1 : (Option Addr)) (K : Int → World → Prop) (w : World), Prop) (c_pcache_Cache_Alloc : ∀ (a0 : (Option Addr)) (a1 : Int) (K : Int → Int → Int → World → Prop) (w : World), Prop) (c_radix_Tree_Alloc : ∀ (a0 : (Option Addr)) (a1 : Int) (K : Int → Int → Int → World → Prop) (w : World), Prop) (a0 : (Option Addr)) (a1 : Int) (a2 : Int) (K : Int → Bool → World → Prop) (w : World) : Prop :=
 JOIN (Unit) (fun J1 =>
 JOIN (Bool × Unit) (fun J4 =>
 c_mheap_is a1 (fun r7 w8 =>
 CND (r7) (
 J4 (decide ((a2 : Int) < 16), ()) w8
 ) (
 J4 (false, ()) w8
 )
 ) w
 ) fun s5 _ w6 =>
 CND (s5.1) (
 NC a0 fun p9 =>
 ((0 : Int) ≤ a1 ∧ (a1 : Int) < (64 : Nat)) ∧
 ∃ x10 : (Option Addr), w6.cell? ((p9.add 5).add (Int.toNat a1 * 1)) = some (.pointer x10) ∧
 JOIN (Unit) (fun J11 =>
 c_pcache_Cache_Empty x10 (fun r14 w15 =>
 CND (r14) (
 NC a0 fun p16 =>
 ∃ x17 : (Option Addr), w15.cell? (p16.add 1) = some (.pointer x17) ∧
 c_pcache_Cache_Fill x10 x17 (fun r18 w19 =>
 J11 (()) w19
 ) w15
 ) (
 J11 (()) w15
 )
 ) w6
 ) fun s12 _ w13 =>
 c_pcache_Cache_Alloc x10 (i64 (a2)) (fun r20 r21 r22 w23 =>
 CND ((r22 : Int) == 0) (
 K r20 true w23
 ) (
 J1 (()) w23
 )
 ) w13
 ) (
 J1 (()) w6
 )
 ) fun s2 _ w3 =>
 NC a0 fun p24 =>
 ∃ x25 : (Option Addr), w3.cell? (p24.add 1) = some (.pointer x25) ∧
 c_radix_Tree_Alloc x25 a2 (fun r26 r27 r28 w29 =>
 K r26 ((r28 : Int) == 0) w29
 ) w3

theorem tieZ45 (c_mheap_is : ∀ (a0 : Int) (K : Bool → World → Prop) (w : World), Prop) (c_pcache_Cache_Empty : ∀ (a0 : (Option Addr)) (K : Bool → World → Prop) (w : World), Prop) (c_pcache_Cache_Fill : ∀ (a0 : (Option Addr)) (a1 : (Option Addr)) (K : Int → World → Prop) (w : World), Prop) (c_pcache_Cache_Alloc : ∀ (a0 : (Option Addr)) (a1 : Int) (K : Int → Int → Int → World → Prop) (w : World), Prop) (c_radix_Tree_Alloc : ∀ (a0 : (Option Addr)) (a1 : Int) (K : Int → Int → Int → World → Prop) (w : World), Prop) (x : ArgsV [.one (.ptr), .one (.int .i64), .one (.int .u64)]) (K Kp : Value → World → Prop) (w : World) : T0.mheap_Heap_got env c_mheap_is c_pcache_Cache_Empty c_pcache_Cache_Fill c_pcache_Cache_Alloc c_radix_Tree_Alloc x.1 x.2.1 x.2.2.1 (fun r1 r2 w' => K (.tuple ⟨[.int .u64 r1, .bool r2]⟩) w') w =
 ev Go.Proofs.Tryd.prog (tabC [(67, fun args w K Kp => unArgs [.one (.int .i64)] args.toList fun x => c_mheap_is x.1 (fun r1 w' => K (.bool r1) w') w), (68, fun args w K Kp => unArgs [.one (.ptr)] args.toList fun x => c_pcache_Cache_Empty x.1 (fun r1 w' => K (.bool r1) w') w), (69, fun args w K Kp => unArgs [.one (.ptr), .one (.ptr)] args.toList fun x => c_pcache_Cache_Fill x.1 x.2.1 (fun r1 w' => K (.int .i64 r1) w') w), (70, fun args w K Kp => unArgs [.one (.ptr), .one (.int .i64)] args.toList fun x => c_pcache_Cache_Alloc x.1 x.2.1 (fun r1 r2 r3 w' => K (.tuple ⟨[.int .u64 r1, .int .i64 r2, .int .i64 r3]⟩) w') w), (47, fun args w K Kp => unArgs [.one (.ptr), .one (.int .u64)] args.toList fun x => c_radix_Tree_Alloc x.1 x.2.1 (fun r1 r2 r3 w' => K (.tuple ⟨[.int .u64 r1, .int .u64 r2, .int .i64 r3]⟩) w') w)]) (ground Go.Proofs.Tryd.prog) ann45 body45 (finQ Go.Proofs.Tryd.prog Go.Proofs.Tryd.f45 K Kp) (initF (mkArgs [.one (.ptr), .one (.int .i64), .one (.int .u64)] x)) w := by kernel_rfl
theorem tie45 (x : ArgsV [.one (.ptr), .one (.int .i64), .one (.int .u64)]) (K Kp : Value → World → Prop) (w : World) : F.mheap_Heap_got env x.1 x.2.1 x.2.2.1 (fun r1 r2 w' => K (.tuple ⟨[.int .u64 r1, .bool r2]⟩) w') w =
 ev Go.Proofs.Tryd.prog (tabC [(67, C67), (68, C68), (69, C69), (70, C70), (47, C47)]) (ground Go.Proofs.Tryd.prog) ann45 body45 (finQ Go.Proofs.Tryd.prog Go.Proofs.Tryd.f45 K Kp) (initF (mkArgs [.one (.ptr), .one (.int .i64), .one (.int .u64)] x)) w := tieZ45 (F.mheap_is env) (F.pcache_Cache_Empty env) (F.pcache_Cache_Fill env) (F.pcache_Cache_Alloc env) (F.radix_Tree_Alloc env) x K Kp w
theorem fits45 : FitsOne Go.Proofs.Tryd.prog 45 C45 :=
 fits_of_tie (T := [(67, C67), (68, C68), (69, C69), (70, C70), (47, C47)]) (A := ann45) (fn := Go.Proofs.Tryd.f45) (c := body45) (fits_cons fits67 (fits_cons fits68 (fits_cons fits69 (fits_cons fits70 (fits_cons fits47 fits_nil))))) mixed Go.Proofs.Tryd.func45 Go.Proofs.Tryd.call45 (by kernel_rfl) (by kernel_rfl) (by kernel_rfl) tie45

noncomputable def C79 : Entry := fun args w K Kp => unArgs [.one (.ptr)] args.toList fun x => F.vmem_used_bool_ env x.1 (fun r1 r2 w' => K (.tuple ⟨[.bool r1, .bool r2]⟩) w') w
noncomputable def body79 : Code := (Go.Proofs.Tryd.f79.body).getD .skip
def ann79 : Ann := { loops := [], joins := [] }
theorem tie79 (x : ArgsV [.one (.ptr)]) (K Kp : Value → World → Prop) (w : World) : F.vmem_used_bool_ env x.1 (fun r1 r2 w' => K (.tuple ⟨[.bool r1, .bool r2]⟩) w') w =
 ev Go.Proofs.Tryd.prog (tabC []) (ground Go.Proofs.Tryd.prog) ann79 body79 (finQ Go.Proofs.Tryd.prog Go.Proofs.Tryd.f79 K Kp) (initF (mkArgs [.one (.ptr)] x)) w := by kernel_rfl
theorem fits79 : FitsOne Go.Proofs.Tryd.prog 79 C79 :=
 fits_of_tie (T := []) (A := ann79) (fn := Go.Proofs.Tryd.f79) (c := body79) fits_nil mixed Go.Proofs.Tryd.func79 Go.Proofs.Tryd.call79 (by kernel_rfl) (by kernel_rfl) (by kernel_rfl) tie79

noncomputable def C81 : Entry := fun args w K Kp => unArgs [.one (.ptr)] args.toList fun x => F.vmem_used_uint64_ env x.1 (fun r1 r2 w' => K (.tuple ⟨[.int .u64 r1, .bool r2]⟩) w') w
noncomputable def body81 : Code := (Go.Proofs.Tryd.f81.body).getD .skip
def ann81 : Ann := { loops := [], joins := [] }
theorem tie81 (x : ArgsV [.one (.ptr)]) (K Kp : Value → World → Prop) (w : World) : F.vmem_used_uint64_ env x.1 (fun r1 r2 w' => K (.tuple ⟨[.int .u64 r1, .bool r2]⟩) w') w =
 ev Go.Proofs.Tryd.prog (tabC []) (ground Go.Proofs.Tryd.prog) ann81 body81 (finQ Go.Proofs.Tryd.prog Go.Proofs.Tryd.f81 K Kp) (initF (mkArgs [.one (.ptr)] x)) w := by kernel_rfl
theorem fits81 : FitsOne Go.Proofs.Tryd.prog 81 C81 :=
 fits_of_tie (T := []) (A := ann81) (fn := Go.Proofs.Tryd.f81) (c := body81) fits_nil mixed Go.Proofs.Tryd.func81 Go.Proofs.Tryd.call81 (by kernel_rfl) (by kernel_rfl) (by kernel_rfl) tie81

noncomputable def C97 : Entry := fun args w K Kp => unArgs [.one (.ptr), .one (.int .u64), .one (.int .u64)] args.toList fun x => F.vmem_Mem_fits env x.1 x.2.1 x.2.2.1 (fun r1 w' => K (.bool r1) w') w
noncomputable def body97 : Code := (Go.Proofs.Tryd.f97.body).getD .skip
def ann97 : Ann := { loops := [], joins := [] }
def T0.vmem_Mem_fits (E : Env) (c_stretch_Set_Count : ∀ (a0 : (Option Addr)) (a1 : Int) (a2 : Int) (K : Int → World → Prop) (w : World), Prop) (a0 : (Option Addr)) (a1 : Int) (a2 : Int) (K : Bool → World → Prop) (w : World) : Prop :=
 512 ≠ (0 : Int) ∧
 CND (((Int.tmod a1 512) : Int) == 0) (
 CND ((a1 : Int) != 0) (
 CND (decide ((a1 : Int) ≤ 34359738368)) (
 CND (decide ((a2 : Int) ≤ (u64 (34359738368 - a1)))) (
 NC a0 fun p1 =>
 c_stretch_Set_Count (some (p1.add 3)) a1 (u64 (a1 + a2)) (fun r2 w3 =>
 K ((r2 : Int) == 0) w3
 ) w
 ) (
 K false w
 )
 ) (
 K false w
 )
 ) (
 K false w
 )
 ) (
 K false w
 )

theorem tieZ97 (c_stretch_Set_Count : ∀ (a0 : (Option Addr)) (a1 : Int) (a2 : Int) (K : Int → World → Prop) (w : World), Prop) (x : ArgsV [.one (.ptr), .one (.int .u64), .one (.int .u64)]) (K Kp : Value → World → Prop) (w : World) : T0.vmem_Mem_fits env c_stretch_Set_Count x.1 x.2.1 x.2.2.1 (fun r1 w' => K (.bool r1) w') w =
 ev Go.Proofs.Tryd.prog (tabC [(52, fun args w K Kp => unArgs [.one (.ptr), .one (.int .u64), .one (.int .u64)] args.toList fun x => c_stretch_Set_Count x.1 x.2.1 x.2.2.1 (fun r1 w' => K (.int .u64 r1) w') w)]) (ground Go.Proofs.Tryd.prog) ann97 body97 (finQ Go.Proofs.Tryd.prog Go.Proofs.Tryd.f97 K Kp) (initF (mkArgs [.one (.ptr), .one (.int .u64), .one (.int .u64)] x)) w := by kernel_rfl
theorem tie97 (x : ArgsV [.one (.ptr), .one (.int .u64), .one (.int .u64)]) (K Kp : Value → World → Prop) (w : World) : F.vmem_Mem_fits env x.1 x.2.1 x.2.2.1 (fun r1 w' => K (.bool r1) w') w =
 ev Go.Proofs.Tryd.prog (tabC [(52, C52)]) (ground Go.Proofs.Tryd.prog) ann97 body97 (finQ Go.Proofs.Tryd.prog Go.Proofs.Tryd.f97 K Kp) (initF (mkArgs [.one (.ptr), .one (.int .u64), .one (.int .u64)] x)) w := tieZ97 (F.stretch_Set_Count env) x K Kp w
theorem fits97 : FitsOne Go.Proofs.Tryd.prog 97 C97 :=
 fits_of_tie (T := [(52, C52)]) (A := ann97) (fn := Go.Proofs.Tryd.f97) (c := body97) (fits_cons fits52 fits_nil) mixed Go.Proofs.Tryd.func97 Go.Proofs.Tryd.call97 (by kernel_rfl) (by kernel_rfl) (by kernel_rfl) tie97

noncomputable def C98 : Entry := fun args w K Kp => unArgs [.one (.ptr), .one (.int .u64), .one (.int .u64)] args.toList fun x => F.vmem_Mem_place env x.1 x.2.1 x.2.2.1 (fun r1 r2 w' => K (.tuple ⟨[.int .u64 r1, .bool r2]⟩) w') w
noncomputable def body98 : Code := (Go.Proofs.Tryd.f98.body).getD .skip
def ann98 : Ann := { loops := [(5, [(8, .one (.int .u64)), (24, .one (.int .i64))])], joins := [(9, []), (11, [(8, .one (.int .u64))])] }
def T0.vmem_Mem_place (E : Env) (c_stretch_Set_All : ∀ (a0 : (Option Addr)) (K : SlV → World → Prop) (w : World), Prop) (c_vmem_Mem_fits : ∀ (a0 : (Option Addr)) (a1 : Int) (a2 : Int) (K : Bool → World → Prop) (w : World), Prop) (a0 : (Option Addr)) (a1 : Int) (a2 : Int) (K : Int → Bool → World → Prop) (w : World) : Prop :=
 CND (decide ((a1 : Int) > 34359738368)) (
 K 0 false w
 ) (
 512 ≠ (0 : Int) ∧
 LET (maxI (u64 ((u64 (Int.tdiv (u64 ((u64 (a1 + 512)) - 1)) 512)) * 512)) 512 : Int) fun at_1 =>
 JOIN (Int × Unit) (fun J2 =>
 NC a0 fun p5 =>
 c_stretch_Set_All (some (p5.add 3)) (fun r6 w7 =>
 LOOP (Int × Int × Unit) (at_1, 0, ()) w7 fun s8 _ w9 next10 =>
 CND (decide ((s8.2.1 : Int) < ((r6.len : Nat) : Int))) (
 NC r6.base fun p11 =>
 ((0 : Int) ≤ s8.2.1 ∧ (s8.2.1 : Int) < (r6.len : Nat)) ∧
 ∃ c12 : Int, w9.cell? ((p11.add (Int.toNat s8.2.1 * 2)).add 0) = some (.int .u64 c12) ∧
 ∃ c13 : Int, w9.cell? ((p11.add (Int.toNat s8.2.1 * 2)).add 1) = some (.int .u64 c13) ∧
 AL (.cells #[.int .u64 0, .int .u64 0] E.t_stretch_One) w9 fun b14 w15 =>
 stCells (Addr.mk b14 0 none) 0 [.int .u64 c12, .int .u64 c13] w15 fun w16 =>
 ∃ x17 : Int, w16.cell? ((Addr.mk b14 0 none).add 1) = some (.int .u64 x17) ∧
 CND (decide ((x17 : Int) ≤ s8.1)) (
 next10 (s8.1, i64 (s8.2.1 + 1), ()) w16
 ) (
 JOIN (Unit) (fun J18 =>
 ∃ x21 : Int, w16.cell? (Addr.mk b14 0 none) = some (.int .u64 x21) ∧
 CND (decide ((x21 : Int) ≥ s8.1)) (
 ∃ x22 : Int, w16.cell? (Addr.mk b14 0 none) = some (.int .u64 x22) ∧
 CND (decide (((u64 (x22 - s8.1)) : Int) ≥ a2)) (
 J2 (s8.1, ()) w16
 ) (
 J18 (()) w16
 )
 ) (
 J18 (()) w16
 )
 ) fun s19 _ w20 =>
 ∃ x23 : Int, w20.cell? ((Addr.mk b14 0 none).add 1) = some (.int .u64 x23) ∧
 512 ≠ (0 : Int) ∧
 LET (u64 ((u64 (Int.tdiv (u64 ((u64 (x23 + 512)) - 1)) 512)) * 512) : Int) fun at_24 =>
 next10 (at_24, i64 (s8.2.1 + 1), ()) w20
 )
 ) (
 J2 (s8.1, ()) w9
 )
 ) w
 ) fun s3 _ w4 =>
 c_vmem_Mem_fits a0 s3.1 a2 (fun r25 w26 =>
 K s3.1 r25 w26
 ) w4
 )

theorem tieZ98 (c_stretch_Set_All : ∀ (a0 : (Option Addr)) (K : SlV → World → Prop) (w : World), Prop) (c_vmem_Mem_fits : ∀ (a0 : (Option Addr)) (a1 : Int) (a2 : Int) (K : Bool → World → Prop) (w : World), Prop) (x : ArgsV [.one (.ptr), .one (.int .u64), .one (.int .u64)]) (K Kp : Value → World → Prop) (w : World) : T0.vmem_Mem_place env c_stretch_Set_All c_vmem_Mem_fits x.1 x.2.1 x.2.2.1 (fun r1 r2 w' => K (.tuple ⟨[.int .u64 r1, .bool r2]⟩) w') w =
 ev Go.Proofs.Tryd.prog (tabC [(86, fun args w K Kp => unArgs [.one (.ptr)] args.toList fun x => c_stretch_Set_All x.1 (fun r1 w' => K (.slice r1.base r1.len r1.cap) w') w), (97, fun args w K Kp => unArgs [.one (.ptr), .one (.int .u64), .one (.int .u64)] args.toList fun x => c_vmem_Mem_fits x.1 x.2.1 x.2.2.1 (fun r1 w' => K (.bool r1) w') w)]) (ground Go.Proofs.Tryd.prog) ann98 body98 (finQ Go.Proofs.Tryd.prog Go.Proofs.Tryd.f98 K Kp) (initF (mkArgs [.one (.ptr), .one (.int .u64), .one (.int .u64)] x)) w := by kernel_rfl
theorem tie98 (x : ArgsV [.one (.ptr), .one (.int .u64), .one (.int .u64)]) (K Kp : Value → World → Prop) (w : World) : F.vmem_Mem_place env x.1 x.2.1 x.2.2.1 (fun r1 r2 w' => K (.tuple ⟨[.int .u64 r1, .bool r2]⟩) w') w =
 ev Go.Proofs.Tryd.prog (tabC [(86, C86), (97, C97)]) (ground Go.Proofs.Tryd.prog) ann98 body98 (finQ Go.Proofs.Tryd.prog Go.Proofs.Tryd.f98 K Kp) (initF (mkArgs [.one (.ptr), .one (.int .u64), .one (.int .u64)] x)) w := tieZ98 (F.stretch_Set_All env) (F.vmem_Mem_fits env) x K Kp w
theorem fits98 : FitsOne Go.Proofs.Tryd.prog 98 C98 :=
 fits_of_tie (T := [(86, C86), (97, C97)]) (A := ann98) (fn := Go.Proofs.Tryd.f98) (c := body98) (fits_cons fits86 (fits_cons fits97 fits_nil)) mixed Go.Proofs.Tryd.func98 Go.Proofs.Tryd.call98 (by kernel_rfl) (by kernel_rfl) (by kernel_rfl) tie98

noncomputable def C83 : Entry := fun args w K Kp => unArgs [.one (.ptr), .one (.int .u64), .one (.int .u64)] args.toList fun x => F.stretch_Set_Add env x.1 x.2.1 x.2.2.1 (fun  w' => K (.tuple ⟨[]⟩) w') w
noncomputable def body83 : Code := (Go.Proofs.Tryd.f83.body).getD .skip
def ann83 : Ann := { loops := [], joins := [(7, [(51, .one (.bool))]), (9, [(8, .one (.int .i64))]), (10, [(77, .one (.bool))]), (12, [(6, .one (.int .i64))])] }
def T0.stretch_Set_Add (E : Env) (c_stretch_Set_Cut : ∀ (a0 : (Option Addr)) (a1 : Int) (a2 : Int) (K : World → Prop) (w : World), Prop) (c_stretch_Set_at : ∀ (a0 : (Option Addr)) (a1 : Int) (K : Int → World → Prop) (w : World), Prop) (a0 : (Option Addr)) (a1 : Int) (a2 : Int) (K : World → Prop) (w : World) : Prop :=
 CND (decide ((a1 : Int) ≥ a2)) (
 K  w
 ) (
 c_stretch_Set_Cut a0 a1 a2 (fun  w1 =>
 NC a0 fun p2 =>
 ∃ x3 : Int, w1.cell? (p2.add 1) = some (.int .u64 x3) ∧
 NC a0 fun p4 =>
 stCells (p4.add 1) 0 [.int .u64 (u64 (x3 + (u64 (a2 - a1))))] w1 fun w5 =>
 c_stretch_Set_at a0 a1 (fun r6 w7 =>
 AL (.cells #[.int .u64 0, .int .u64 0] E.t_stretch_One) w7 fun b8 w9 =>
 stCells (Addr.mk b8 0 none) 0 [.int .u64 a1, .int .u64 a2] w9 fun w10 =>
 JOIN (Int × Unit) (fun J11 =>
 JOIN (Bool × Unit) (fun J14 =>
 NC a0 fun p17 =>
 ∃ x18 : SlV, w10.cell? p17 = some (.slice x18.base x18.len x18.cap) ∧
 CND (decide ((r6 : Int) < ((x18.len : Nat) : Int))) (
 NC a0 fun p19 =>
 ∃ x20 : SlV, w10.cell? p19 = some (.slice x20.base x20.len x20.cap) ∧
 NC x20.base fun p21 =>
 ((0 : Int) ≤ r6 ∧ (r6 : Int) < (x20.len : Nat)) ∧
 ∃ x22 : Int, w10.cell? (p21.add (Int.toNat r6 * 2)) = some (.int .u64 x22) ∧
 J14 ((x22 : Int) == a2, ()) w10
 ) (
 J14 (false, ()) w10
 )
 ) fun s15 _ w16 =>
 CND (s15.1) (
 NC a0 fun p23 =>
 ∃ x24 : SlV, w16.cell? p23 = some (.slice x24.base x24.len x24.cap) ∧
 NC x24.base fun p25 =>
 ((0 : Int) ≤ r6 ∧ (r6 : Int) < (x24.len : Nat)) ∧
 ∃ x26 : Int, w16.cell? ((p25.add (Int.toNat r6 * 2)).add 1) = some (.int .u64 x26) ∧
 stCells ((Addr.mk b8 0 none).add 1) 0 [.int .u64 x26] w16 fun w27 =>
 J11 (i64 (r6 + 1), ()) w27
 ) (
 J11 (r6, ()) w16
 )
 ) fun s12 _ w13 =>
 JOIN (Int × Unit) (fun J28 =>
 JOIN (Bool × Unit) (fun J31 =>
 CND (decide ((r6 : Int) > 0)) (
 NC a0 fun p34 =>
 ∃ x35 : SlV, w13.cell? p34 = some (.slice x35.base x35.len x35.cap) ∧
 NC x35.base fun p36 =>
 ((0 : Int) ≤ (i64 (r6 - 1)) ∧ ((i64 (r6 - 1)) : Int) < (x35.len : Nat)) ∧
 ∃ x37 : Int, w13.cell? ((p36.add (Int.toNat (i64 (r6 - 1)) * 2)).add 1) = some (.int .u64 x37) ∧
 J31 ((x37 : Int) == a1, ()) w13
 ) (
 J31 (false, ()) w13
 )
 ) fun s32 _ w33 =>
 CND (s32.1) (
 NC a0 fun p38 =>
 ∃ x39 : SlV, w33.cell? p38 = some (.slice x39.base x39.len x39.cap) ∧
 NC x39.base fun p40 =>
 ((0 : Int) ≤ (i64 (r6 - 1)) ∧ ((i64 (r6 - 1)) : Int) < (x39.len : Nat)) ∧
 ∃ x41 : Int, w33.cell? (p40.add (Int.toNat (i64 (r6 - 1)) * 2)) = some (.int .u64 x41) ∧
 stCells (Addr.mk b8 0 none) 0 [.int .u64 x41] w33 fun w42 =>
 J28 (i64 (r6 - 1), ()) w42
 ) (
 J28 (r6, ()) w33
 )
 ) fun s29 _ w30 =>
 NC a0 fun p43 =>
 ∃ x44 : SlV, w30.drew.cell? p43 = some (.slice x44.base x44.len x44.cap) ∧
 ((0 : Int) ≤ s29.1 ∧ (s29.1 : Int) ≤ (x44.cap : Nat)) ∧
 ∃ c45 : Int, w30.drew.cell? ((Addr.mk b8 0 none).add 0) = some (.int .u64 c45) ∧
 ∃ c46 : Int, w30.drew.cell? ((Addr.mk b8 0 none).add 1) = some (.int .u64 c46) ∧
 NC a0 fun p47 =>
 ∃ x48 : SlV, w30.drew.cell? p47 = some (.slice x48.base x48.len x48.cap) ∧
 ((0 : Int) ≤ s12.1 ∧ (s12.1 : Int) ≤ (x48.len : Nat)) ∧
 (
 AL (.cells ⟨[]⟩ E.t_stretch_One) w30.drew fun b49 w50 =>
 w50.cell? p47 = some (.slice x48.base x48.len x48.cap) ∧
 (w50.cell? ((Addr.mk b8 0 none).add 0) = some (.int .u64 c45) ∧ (w50.cell? ((Addr.mk b8 0 none).add 1) = some (.int .u64 c46) ∧ True)) ∧
 w50.cell? p43 = some (.slice x44.base x44.len x44.cap) ∧
 (
 APP E.t_stretch_One 2 16 #[.int .u64 0, .int .u64 0] ⟨(some (Addr.mk b49 0 none)), 0, 0⟩ ⟨(slB x44.base x44.cap 0 2), (Int.toNat s29.1), x44.cap⟩ w50 fun s51 w52 =>
 w52.cell? p47 = some (.slice x48.base x48.len x48.cap) ∧
 (w52.cell? ((Addr.mk b8 0 none).add 0) = some (.int .u64 c45) ∧ (w52.cell? ((Addr.mk b8 0 none).add 1) = some (.int .u64 c46) ∧ True)) ∧
 w52.cell? p43 = some (.slice x44.base x44.len x44.cap) ∧
 AL (.cells ⟨[.int .u64 c45, .int .u64 c46]⟩ E.t_stretch_One) w52 fun b53 w54 =>
 w54.cell? p47 = some (.slice x48.base x48.len x48.cap) ∧
 w54.cell? p43 = some (.slice x44.base x44.len x44.cap) ∧
 APP E.t_stretch_One 2 16 #[.int .u64 0, .int .u64 0] s51 ⟨(some (Addr.mk b53 0 none)), 1, 1⟩ w54 fun s55 w56 =>
 w56.cell? p47 = some (.slice x48.base x48.len x48.cap) ∧
 w56.cell? p43 = some (.slice x44.base x44.len x44.cap) ∧
 APP E.t_stretch_One 2 16 #[.int .u64 0, .int .u64 0] s55 ⟨(slB x48.base x48.cap (Int.toNat s12.1) 2), (x48.len - (Int.toNat s12.1)), (x48.cap - (Int.toNat s12.1))⟩ w56 fun s57 w58 =>
 w58.cell? p47 = some (.slice x48.base x48.len x48.cap) ∧
 w58.cell? p43 = some (.slice x44.base x44.len x44.cap) ∧
 NC a0 fun p59 =>
 stCells p59 0 [.slice s57.base s57.len s57.cap] w58 fun w60 =>
 K  w60

 ) ∧ (
 AL (.cells ⟨[.int .u64 c45, .int .u64 c46]⟩ E.t_stretch_One) w50 fun b61 w62 =>
 w62.cell? p47 = some (.slice x48.base x48.len x48.cap) ∧
 w62.cell? p43 = some (.slice x44.base x44.len x44.cap) ∧
 APP E.t_stretch_One 2 16 #[.int .u64 0, .int .u64 0] ⟨(some (Addr.mk b49 0 none)), 0, 0⟩ ⟨(slB x44.base x44.cap 0 2), (Int.toNat s29.1), x44.cap⟩ w62 fun s63 w64 =>
 w64.cell? p47 = some (.slice x48.base x48.len x48.cap) ∧
 w64.cell? p43 = some (.slice x44.base x44.len x44.cap) ∧
 APP E.t_stretch_One 2 16 #[.int .u64 0, .int .u64 0] s63 ⟨(some (Addr.mk b61 0 none)), 1, 1⟩ w64 fun s65 w66 =>
 w66.cell? p47 = some (.slice x48.base x48.len x48.cap) ∧
 w66.cell? p43 = some (.slice x44.base x44.len x44.cap) ∧
 APP E.t_stretch_One 2 16 #[.int .u64 0, .int .u64 0] s65 ⟨(slB x48.base x48.cap (Int.toNat s12.1) 2), (x48.len - (Int.toNat s12.1)), (x48.cap - (Int.toNat s12.1))⟩ w66 fun s67 w68 =>
 w68.cell? p47 = some (.slice x48.base x48.len x48.cap) ∧
 w68.cell? p43 = some (.slice x44.base x44.len x44.cap) ∧
 NC a0 fun p69 =>
 stCells p69 0 [.slice s67.base s67.len s67.cap] w68 fun w70 =>
 K  w70
 )

 ) ∧ (
 AL (.cells ⟨[.int .u64 c45, .int .u64 c46]⟩ E.t_stretch_One) w30.drew fun b71 w72 =>
 w72.cell? p47 = some (.slice x48.base x48.len x48.cap) ∧
 w72.cell? p43 = some (.slice x44.base x44.len x44.cap) ∧
 AL (.cells ⟨[]⟩ E.t_stretch_One) w72 fun b73 w74 =>
 w74.cell? p47 = some (.slice x48.base x48.len x48.cap) ∧
 w74.cell? p43 = some (.slice x44.base x44.len x44.cap) ∧
 APP E.t_stretch_One 2 16 #[.int .u64 0, .int .u64 0] ⟨(some (Addr.mk b73 0 none)), 0, 0⟩ ⟨(slB x44.base x44.cap 0 2), (Int.toNat s29.1), x44.cap⟩ w74 fun s75 w76 =>
 w76.cell? p47 = some (.slice x48.base x48.len x48.cap) ∧
 w76.cell? p43 = some (.slice x44.base x44.len x44.cap) ∧
 APP E.t_stretch_One 2 16 #[.int .u64 0, .int .u64 0] s75 ⟨(some (Addr.mk b71 0 none)), 1, 1⟩ w76 fun s77 w78 =>
 w78.cell? p47 = some (.slice x48.base x48.len x48.cap) ∧
 w78.cell? p43 = some (.slice x44.base x44.len x44.cap) ∧
 APP E.t_stretch_One 2 16 #[.int .u64 0, .int .u64 0] s77 ⟨(slB x48.base x48.cap (Int.toNat s12.1) 2), (x48.len - (Int.toNat s12.1)), (x48.cap - (Int.toNat s12.1))⟩ w78 fun s79 w80 =>
 w80.cell? p47 = some (.slice x48.base x48.len x48.cap) ∧
 w80.cell? p43 = some (.slice x44.base x44.len x44.cap) ∧
 NC a0 fun p81 =>
 stCells p81 0 [.slice s79.base s79.len s79.cap] w80 fun w82 =>
 K  w82
 )
 ) w5
 ) w
 )

theorem tieZ83 (c_stretch_Set_Cut : ∀ (a0 : (Option Addr)) (a1 : Int) (a2 : Int) (K : World → Prop) (w : World), Prop) (c_stretch_Set_at : ∀ (a0 : (Option Addr)) (a1 : Int) (K : Int → World → Prop) (w : World), Prop) (x : ArgsV [.one (.ptr), .one (.int .u64), .one (.int .u64)]) (K Kp : Value → World → Prop) (w : World) : T0.stretch_Set_Add env c_stretch_Set_Cut c_stretch_Set_at x.1 x.2.1 x.2.2.1 (fun  w' => K (.tuple ⟨[]⟩) w') w =
 ev Go.Proofs.Tryd.prog (tabC [(82, fun args w K Kp => unArgs [.one (.ptr), .one (.int .u64), .one (.int .u64)] args.toList fun x => c_stretch_Set_Cut x.1 x.2.1 x.2.2.1 (fun  w' => K (.tuple ⟨[]⟩) w') w), (64, fun args w K Kp => unArgs [.one (.ptr), .one (.int .u64)] args.toList fun x => c_stretch_Set_at x.1 x.2.1 (fun r1 w' => K (.int .i64 r1) w') w)]) (ground Go.Proofs.Tryd.prog) ann83 body83 (finQ Go.Proofs.Tryd.prog Go.Proofs.Tryd.f83 K Kp) (initF (mkArgs [.one (.ptr), .one (.int .u64), .one (.int .u64)] x)) w := by kernel_rfl
theorem tie83 (x : ArgsV [.one (.ptr), .one (.int .u64), .one (.int .u64)]) (K Kp : Value → World → Prop) (w : World) : F.stretch_Set_Add env x.1 x.2.1 x.2.2.1 (fun  w' => K (.tuple ⟨[]⟩) w') w =
 ev Go.Proofs.Tryd.prog (tabC [(82, C82), (64, C64)]) (ground Go.Proofs.Tryd.prog) ann83 body83 (finQ Go.Proofs.Tryd.prog Go.Proofs.Tryd.f83 K Kp) (initF (mkArgs [.one (.ptr), .one (.int .u64), .one (.int .u64)] x)) w := tieZ83 (F.stretch_Set_Cut env) (F.stretch_Set_at env) x K Kp w
theorem fits83 : FitsOne Go.Proofs.Tryd.prog 83 C83 :=
 fits_of_tie (T := [(82, C82), (64, C64)]) (A := ann83) (fn := Go.Proofs.Tryd.f83) (c := body83) (fits_cons fits82 (fits_cons fits64 fits_nil)) mixed Go.Proofs.Tryd.func83 Go.Proofs.Tryd.call83 (by kernel_rfl) (by kernel_rfl) (by kernel_rfl) tie83

noncomputable def C71 : Entry := fun args w K Kp => unArgs [.one (.ptr), .one (.int .u64), .one (.int .u64)] args.toList fun x => F.vmem_Mem_Reserve env x.1 x.2.1 x.2.2.1 (fun r1 r2 w' => K (.tuple ⟨[.int .u64 r1, .int .i64 r2]⟩) w') w
noncomputable def body71 : Code := (Go.Proofs.Tryd.f71.body).getD .skip
def ann71 : Ann := { loops := [(9, [(10, .one (.int .u64)), (11, .one (.bool)), (52, .one (.int .i64))])], joins := [(2, [(24, .one (.bool))]), (8, [(11, .one (.bool))])] }
def T0.vmem_Mem_Reserve (E : Env) (c_vmem_used_bool_ : ∀ (a0 : (Option Addr)) (K : Bool → Bool → World → Prop) (w : World), Prop) (c_vmem_used_uint64_ : ∀ (a0 : (Option Addr)) (K : Int → Bool → World → Prop) (w : World), Prop) (c_vmem_Mem_fits : ∀ (a0 : (Option Addr)) (a1 : Int) (a2 : Int) (K : Bool → World → Prop) (w : World), Prop) (c_vmem_Mem_place : ∀ (a0 : (Option Addr)) (a1 : Int) (a2 : Int) (K : Int → Bool → World → Prop) (w : World), Prop) (c_stretch_Set_Add : ∀ (a0 : (Option Addr)) (a1 : Int) (a2 : Int) (K : World → Prop) (w : World), Prop) (a0 : (Option Addr)) (a1 : Int) (a2 : Int) (K : Int → Int → World → Prop) (w : World) : Prop :=
 JOIN (Bool × Unit) (fun J1 =>
 CND ((a2 : Int) == 0) (
 J1 (true, ()) w
 ) (
 512 ≠ (0 : Int) ∧
 CND (((Int.tmod a2 512) : Int) != 0) (
 J1 (true, ()) w
 ) (
 J1 (decide ((a2 : Int) > 134217728), ()) w
 )
 )
 ) fun s2 _ w3 =>
 CND (s2.1) (
 K 0 1 w3
 ) (
 NC a0 fun p4 =>
 c_vmem_used_bool_ (some (p4.add 1)) (fun r5 r6 w7 =>
 CND (r5) (
 K 0 13 w7
 ) (
 NC a0 fun p8 =>
 c_vmem_used_uint64_ (some p8) (fun r9 r10 w11 =>
 JOIN (Bool × Unit) (fun J12 =>
 CND (r10) (
 c_vmem_Mem_fits a0 r9 a2 (fun r15 w16 =>
 J12 (r15, ()) w16
 ) w11
 ) (
 J12 (false, ()) w11
 )
 ) fun s13 _ w14 =>
 AL (.cells ⟨[.int .u64 a1, .int .u64 0]⟩ E.t_uint64) w14 fun b17 w18 =>
 LOOP (Int × Bool × Int × Unit) (r9, s13.1, 0, ()) w18 fun s19 _ w20 next21 =>
 CND (decide ((s19.2.2.1 : Int) < 2)) (
 ((0 : Int) ≤ s19.2.2.1 ∧ (s19.2.2.1 : Int) < (2 : Nat)) ∧
 ∃ x22 : Int, w20.cell? ((Addr.mk b17 0 none).add (Int.toNat s19.2.2.1 * 1)) = some (.int .u64 x22) ∧
 CND (!s19.2.1) (
 c_vmem_Mem_place a0 x22 a2 (fun r23 r24 w25 =>
 next21 (r23, r24, i64 (s19.2.2.1 + 1), ()) w25
 ) w20
 ) (
 next21 (s19.1, s19.2.1, i64 (s19.2.2.1 + 1), ()) w20
 )
 ) (
 CND (!s19.2.1) (
 K 0 13 w20
 ) (
 NC a0 fun p26 =>
 c_stretch_Set_Add (some (p26.add 3)) s19.1 (u64 (s19.1 + a2)) (fun  w27 =>
 K s19.1 0 w27
 ) w20
 )
 )
 ) w7
 )
 ) w3
 )

theorem tieZ71 (c_vmem_used_bool_ : ∀ (a0 : (Option Addr)) (K : Bool → Bool → World → Prop) (w : World), Prop) (c_vmem_used_uint64_ : ∀ (a0 : (Option Addr)) (K : Int → Bool → World → Prop) (w : World), Prop) (c_vmem_Mem_fits : ∀ (a0 : (Option Addr)) (a1 : Int) (a2 : Int) (K : Bool → World → Prop) (w : World), Prop) (c_vmem_Mem_place : ∀ (a0 : (Option Addr)) (a1 : Int) (a2 : Int) (K : Int → Bool → World → Prop) (w : World), Prop) (c_stretch_Set_Add : ∀ (a0 : (Option Addr)) (a1 : Int) (a2 : Int) (K : World → Prop) (w : World), Prop) (x : ArgsV [.one (.ptr), .one (.int .u64), .one (.int .u64)]) (K Kp : Value → World → Prop) (w : World) : T0.vmem_Mem_Reserve env c_vmem_used_bool_ c_vmem_used_uint64_ c_vmem_Mem_fits c_vmem_Mem_place c_stretch_Set_Add x.1 x.2.1 x.2.2.1 (fun r1 r2 w' => K (.tuple ⟨[.int .u64 r1, .int .i64 r2]⟩) w') w =
 ev Go.Proofs.Tryd.prog (tabC [(79, fun args w K Kp => unArgs [.one (.ptr)] args.toList fun x => c_vmem_used_bool_ x.1 (fun r1 r2 w' => K (.tuple ⟨[.bool r1, .bool r2]⟩) w') w), (81, fun args w K Kp => unArgs [.one (.ptr)] args.toList fun x => c_vmem_used_uint64_ x.1 (fun r1 r2 w' => K (.tuple ⟨[.int .u64 r1, .bool r2]⟩) w') w), (97, fun args w K Kp => unArgs [.one (.ptr), .one (.int .u64), .one (.int .u64)] args.toList fun x => c_vmem_Mem_fits x.1 x.2.1 x.2.2.1 (fun r1 w' => K (.bool r1) w') w), (98, fun args w K Kp => unArgs [.one (.ptr), .one (.int .u64), .one (.int .u64)] args.toList fun x => c_vmem_Mem_place x.1 x.2.1 x.2.2.1 (fun r1 r2 w' => K (.tuple ⟨[.int .u64 r1, .bool r2]⟩) w') w), (83, fun args w K Kp => unArgs [.one (.ptr), .one (.int .u64), .one (.int .u64)] args.toList fun x => c_stretch_Set_Add x.1 x.2.1 x.2.2.1 (fun  w' => K (.tuple ⟨[]⟩) w') w)]) (ground Go.Proofs.Tryd.prog) ann71 body71 (finQ Go.Proofs.Tryd.prog Go.Proofs.Tryd.f71 K Kp) (initF (mkArgs [.one (.ptr), .one (.int .u64), .one (.int .u64)] x)) w := by kernel_rfl
theorem tie71 (x : ArgsV [.one (.ptr), .one (.int .u64), .one (.int .u64)]) (K Kp : Value → World → Prop) (w : World) : F.vmem_Mem_Reserve env x.1 x.2.1 x.2.2.1 (fun r1 r2 w' => K (.tuple ⟨[.int .u64 r1, .int .i64 r2]⟩) w') w =
 ev Go.Proofs.Tryd.prog (tabC [(79, C79), (81, C81), (97, C97), (98, C98), (83, C83)]) (ground Go.Proofs.Tryd.prog) ann71 body71 (finQ Go.Proofs.Tryd.prog Go.Proofs.Tryd.f71 K Kp) (initF (mkArgs [.one (.ptr), .one (.int .u64), .one (.int .u64)] x)) w := tieZ71 (F.vmem_used_bool_ env) (F.vmem_used_uint64_ env) (F.vmem_Mem_fits env) (F.vmem_Mem_place env) (F.stretch_Set_Add env) x K Kp w
theorem fits71 : FitsOne Go.Proofs.Tryd.prog 71 C71 :=
 fits_of_tie (T := [(79, C79), (81, C81), (97, C97), (98, C98), (83, C83)]) (A := ann71) (fn := Go.Proofs.Tryd.f71) (c := body71) (fits_cons fits79 (fits_cons fits81 (fits_cons fits97 (fits_cons fits98 (fits_cons fits83 fits_nil))))) mixed Go.Proofs.Tryd.func71 Go.Proofs.Tryd.call71 (by kernel_rfl) (by kernel_rfl) (by kernel_rfl) tie71

noncomputable def C72 : Entry := fun args w K Kp => unArgs [.one (.ptr), .one (.int .u64), .one (.int .u64)] args.toList fun x => F.radix_Tree_Grow env x.1 x.2.1 x.2.2.1 (fun r1 w' => K (.int .i64 r1) w') w
noncomputable def body72 : Code := (Go.Proofs.Tryd.f72.body).getD .skip
def ann72 : Ann := { loops := [], joins := [(2, [(24, .one (.bool))])] }
def T0.radix_Tree_Grow (E : Env) (c_stretch_Set_Count : ∀ (a0 : (Option Addr)) (a1 : Int) (a2 : Int) (K : Int → World → Prop) (w : World), Prop) (c_stretch_Set_Add : ∀ (a0 : (Option Addr)) (a1 : Int) (a2 : Int) (K : World → Prop) (w : World), Prop) (c_radix_Tree_changed : ∀ (a0 : (Option Addr)) (K : World → Prop) (w : World), Prop) (a0 : (Option Addr)) (a1 : Int) (a2 : Int) (K : Int → World → Prop) (w : World) : Prop :=
 JOIN (Bool × Unit) (fun J1 =>
 CND ((a2 : Int) == 0) (
 J1 (true, ()) w
 ) (
 CND (decide ((a2 : Int) > 262144)) (
 J1 (true, ()) w
 ) (
 CND (decide ((a1 : Int) > 67108864)) (
 J1 (true, ()) w
 ) (
 J1 (decide ((a2 : Int) > (u64 (67108864 - a1))), ()) w
 )
 )
 )
 ) fun s2 _ w3 =>
 CND (s2.1) (
 K 1 w3
 ) (
 LET (u64 ((u64 (a1 + a2)) * 512) : Int) fun to_4 =>
 NC a0 fun p5 =>
 c_stretch_Set_Count (some p5) (u64 (a1 * 512)) to_4 (fun r6 w7 =>
 CND (decide ((r6 : Int) > 0)) (
 K 34 w7
 ) (
 NC a0 fun p8 =>
 c_stretch_Set_Add (some p8) (u64 (a1 * 512)) to_4 (fun  w9 =>
 NC a0 fun p10 =>
 c_stretch_Set_Add (some (p10.add 2)) (u64 (a1 * 512)) to_4 (fun  w11 =>
 NC a0 fun p12 =>
 c_stretch_Set_Add (some (p12.add 4)) (u64 (a1 * 512)) to_4 (fun  w13 =>
 c_radix_Tree_changed a0 (fun  w14 =>
 K 0 w14
 ) w13
 ) w11
 ) w9
 ) w7
 )
 ) w3
 )

theorem tieZ72 (c_stretch_Set_Count : ∀ (a0 : (Option Addr)) (a1 : Int) (a2 : Int) (K : Int → World → Prop) (w : World), Prop) (c_stretch_Set_Add : ∀ (a0 : (Option Addr)) (a1 : Int) (a2 : Int) (K : World → Prop) (w : World), Prop) (c_radix_Tree_changed : ∀ (a0 : (Option Addr)) (K : World → Prop) (w : World), Prop) (x : ArgsV [.one (.ptr), .one (.int .u64), .one (.int .u64)]) (K Kp : Value → World → Prop) (w : World) : T0.radix_Tree_Grow env c_stretch_Set_Count c_stretch_Set_Add c_radix_Tree_changed x.1 x.2.1 x.2.2.1 (fun r1 w' => K (.int .i64 r1) w') w =
 ev Go.Proofs.Tryd.prog (tabC [(52, fun args w K Kp => unArgs [.one (.ptr), .one (.int .u64), .one (.int .u64)] args.toList fun x => c_stretch_Set_Count x.1 x.2.1 x.2.2.1 (fun r1 w' => K (.int .u64 r1) w') w), (83, fun args w K Kp => unArgs [.one (.ptr), .one (.int .u64), .one (.int .u64)] args.toList fun x => c_stretch_Set_Add x.1 x.2.1 x.2.2.1 (fun  w' => K (.tuple ⟨[]⟩) w') w), (65, fun args w K Kp => unArgs [.one (.ptr)] args.toList fun x => c_radix_Tree_changed x.1 (fun  w' => K (.tuple ⟨[]⟩) w') w)]) (ground Go.Proofs.Tryd.prog) ann72 body72 (finQ Go.Proofs.Tryd.prog Go.Proofs.Tryd.f72 K Kp) (initF (mkArgs [.one (.ptr), .one (.int .u64), .one (.int .u64)] x)) w := by kernel_rfl
theorem tie72 (x : ArgsV [.one (.ptr), .one (.int .u64), .one (.int .u64)]) (K Kp : Value → World → Prop) (w : World) : F.radix_Tree_Grow env x.1 x.2.1 x.2.2.1 (fun r1 w' => K (.int .i64 r1) w') w =
 ev Go.Proofs.Tryd.prog (tabC [(52, C52), (83, C83), (65, C65)]) (ground Go.Proofs.Tryd.prog) ann72 body72 (finQ Go.Proofs.Tryd.prog Go.Proofs.Tryd.f72 K Kp) (initF (mkArgs [.one (.ptr), .one (.int .u64), .one (.int .u64)] x)) w := tieZ72 (F.stretch_Set_Count env) (F.stretch_Set_Add env) (F.radix_Tree_changed env) x K Kp w
theorem fits72 : FitsOne Go.Proofs.Tryd.prog 72 C72 :=
 fits_of_tie (T := [(52, C52), (83, C83), (65, C65)]) (A := ann72) (fn := Go.Proofs.Tryd.f72) (c := body72) (fits_cons fits52 (fits_cons fits83 (fits_cons fits65 fits_nil))) mixed Go.Proofs.Tryd.func72 Go.Proofs.Tryd.call72 (by kernel_rfl) (by kernel_rfl) (by kernel_rfl) tie72

noncomputable def C73 : Entry := fun args w K Kp => unArgs [.one (.ptr), .one (.int .u64), .one (.int .u64)] args.toList fun x => F.arena_Map_Many env x.1 x.2.1 x.2.2.1 (fun  w' => K (.tuple ⟨[]⟩) w') w
noncomputable def body73 : Code := (Go.Proofs.Tryd.f73.body).getD .skip
def ann73 : Ann := { loops := [], joins := [] }
def T0.arena_Map_Many (E : Env) (c_stretch_Set_Add : ∀ (a0 : (Option Addr)) (a1 : Int) (a2 : Int) (K : World → Prop) (w : World), Prop) (a0 : (Option Addr)) (a1 : Int) (a2 : Int) (K : World → Prop) (w : World) : Prop :=
 NC a0 fun p1 =>
 c_stretch_Set_Add (some p1) a1 a2 (fun  w2 =>
 K  w2
 ) w

theorem tieZ73 (c_stretch_Set_Add : ∀ (a0 : (Option Addr)) (a1 : Int) (a2 : Int) (K : World → Prop) (w : World), Prop) (x : ArgsV [.one (.ptr), .one (.int .u64), .one (.int .u64)]) (K Kp : Value → World → Prop) (w : World) : T0.arena_Map_Many env c_stretch_Set_Add x.1 x.2.1 x.2.2.1 (fun  w' => K (.tuple ⟨[]⟩) w') w =
 ev Go.Proofs.Tryd.prog (tabC [(83, fun args w K Kp => unArgs [.one (.ptr), .one (.int .u64), .one (.int .u64)] args.toList fun x => c_stretch_Set_Add x.1 x.2.1 x.2.2.1 (fun  w' => K (.tuple ⟨[]⟩) w') w)]) (ground Go.Proofs.Tryd.prog) ann73 body73 (finQ Go.Proofs.Tryd.prog Go.Proofs.Tryd.f73 K Kp) (initF (mkArgs [.one (.ptr), .one (.int .u64), .one (.int .u64)] x)) w := by kernel_rfl
theorem tie73 (x : ArgsV [.one (.ptr), .one (.int .u64), .one (.int .u64)]) (K Kp : Value → World → Prop) (w : World) : F.arena_Map_Many env x.1 x.2.1 x.2.2.1 (fun  w' => K (.tuple ⟨[]⟩) w') w =
 ev Go.Proofs.Tryd.prog (tabC [(83, C83)]) (ground Go.Proofs.Tryd.prog) ann73 body73 (finQ Go.Proofs.Tryd.prog Go.Proofs.Tryd.f73 K Kp) (initF (mkArgs [.one (.ptr), .one (.int .u64), .one (.int .u64)] x)) w := tieZ73 (F.stretch_Set_Add env) x K Kp w
theorem fits73 : FitsOne Go.Proofs.Tryd.prog 73 C73 :=
 fits_of_tie (T := [(83, C83)]) (A := ann73) (fn := Go.Proofs.Tryd.f73) (c := body73) (fits_cons fits83 fits_nil) mixed Go.Proofs.Tryd.func73 Go.Proofs.Tryd.call73 (by kernel_rfl) (by kernel_rfl) (by kernel_rfl) tie73

noncomputable def C46 : Entry := fun args w K Kp => unArgs [.one (.ptr), .one (.int .u64)] args.toList fun x => F.mheap_Heap_grow env x.1 x.2.1 (fun r1 w' => K (.int .i64 r1) w') w
noncomputable def body46 : Code := (Go.Proofs.Tryd.f46.body).getD .skip
def ann46 : Ann := { loops := [], joins := [] }
def T0.mheap_Heap_grow (E : Env) (c_vmem_Mem_Reserve : ∀ (a0 : (Option Addr)) (a1 : Int) (a2 : Int) (K : Int → Int → World → Prop) (w : World), Prop) (c_radix_Tree_Grow : ∀ (a0 : (Option Addr)) (a1 : Int) (a2 : Int) (K : Int → World → Prop) (w : World), Prop) (c_arena_Map_Many : ∀ (a0 : (Option Addr)) (a1 : Int) (a2 : Int) (K : World → Prop) (w : World), Prop) (a0 : (Option Addr)) (a1 : Int) (K : Int → World → Prop) (w : World) : Prop :=
 512 ≠ (0 : Int) ∧
 LET (u64 ((u64 (Int.tdiv (u64 ((u64 (a1 + 512)) - 1)) 512)) * 512) : Int) fun n_1 =>
 NC a0 fun p2 =>
 ∃ x3 : (Option Addr), w.drew.cell? p2 = some (.pointer x3) ∧
 NC a0 fun p4 =>
 ∃ x5 : Int, w.drew.cell? (p4.add 69) = some (.int .u64 x5) ∧
 c_vmem_Mem_Reserve x3 x5 n_1 (fun r6 r7 w8 =>
 CND ((r7 : Int) != 0) (
 K 13 w8
 ) (
 NC a0 fun p9 =>
 stCells (p9.add 69) 0 [.int .u64 (u64 (r6 + n_1))] w8 fun w10 =>
 NC a0 fun p11 =>
 ∃ x12 : (Option Addr), w10.cell? (p11.add 1) = some (.pointer x12) ∧
 512 ≠ (0 : Int) ∧
 512 ≠ (0 : Int) ∧
 c_radix_Tree_Grow x12 (u64 (Int.tdiv r6 512)) (u64 (Int.tdiv n_1 512)) (fun r13 w14 =>
 NC a0 fun p15 =>
 ∃ x16 : (Option Addr), w14.drew.cell? (p15.add 2) = some (.pointer x16) ∧
 512 ≠ (0 : Int) ∧
 NC a0 fun p17 =>
 ∃ x18 : Int, w14.drew.cell? (p17.add 69) = some (.int .u64 x18) ∧
 512 ≠ (0 : Int) ∧
 c_arena_Map_Many x16 (u64 (Int.tdiv r6 512)) (u64 (Int.tdiv x18 512)) (fun  w19 =>
 w19.cell? (p17.add 69) = some (.int .u64 x18) ∧
 K 0 w19
 ) w14.drew
 ) w10
 )
 ) w.drew

theorem tieZ46 (c_vmem_Mem_Reserve : ∀ (a0 : (Option Addr)) (a1 : Int) (a2 : Int) (K : Int → Int → World → Prop) (w : World), Prop) (c_radix_Tree_Grow : ∀ (a0 : (Option Addr)) (a1 : Int) (a2 : Int) (K : Int → World → Prop) (w : World), Prop) (c_arena_Map_Many : ∀ (a0 : (Option Addr)) (a1 : Int) (a2 : Int) (K : World → Prop) (w : World), Prop) (x : ArgsV [.one (.ptr), .one (.int .u64)]) (K Kp : Value → World → Prop) (w : World) : T0.mheap_Heap_grow env c_vmem_Mem_Reserve c_radix_Tree_Grow c_arena_Map_Many x.1 x.2.1 (fun r1 w' => K (.int .i64 r1) w') w =
 ev Go.Proofs.Tryd.prog (tabC [(71, fun args w K Kp => unArgs [.one (.ptr), .one (.int .u64), .one (.int .u64)] args.toList fun x => c_vmem_Mem_Reserve x.1 x.2.1 x.2.2.1 (fun r1 r2 w' => K (.tuple ⟨[.int .u64 r1, .int .i64 r2]⟩) w') w), (72, fun args w K Kp => unArgs [.one (.ptr), .one (.int .u64), .one (.int .u64)] args.toList fun x => c_radix_Tree_Grow x.1 x.2.1 x.2.2.1 (fun r1 w' => K (.int .i64 r1) w') w), (73, fun args w K Kp => unArgs [.one (.ptr), .one (.int .u64), .one (.int .u64)] args.toList fun x => c_arena_Map_Many x.1 x.2.1 x.2.2.1 (fun  w' => K (.tuple ⟨[]⟩) w') w)]) (ground Go.Proofs.Tryd.prog) ann46 body46 (finQ Go.Proofs.Tryd.prog Go.Proofs.Tryd.f46 K Kp) (initF (mkArgs [.one (.ptr), .one (.int .u64)] x)) w := by kernel_rfl
theorem tie46 (x : ArgsV [.one (.ptr), .one (.int .u64)]) (K Kp : Value → World → Prop) (w : World) : F.mheap_Heap_grow env x.1 x.2.1 (fun r1 w' => K (.int .i64 r1) w') w =
 ev Go.Proofs.Tryd.prog (tabC [(71, C71), (72, C72), (73, C73)]) (ground Go.Proofs.Tryd.prog) ann46 body46 (finQ Go.Proofs.Tryd.prog Go.Proofs.Tryd.f46 K Kp) (initF (mkArgs [.one (.ptr), .one (.int .u64)] x)) w := tieZ46 (F.vmem_Mem_Reserve env) (F.radix_Tree_Grow env) (F.arena_Map_Many env) x K Kp w
theorem fits46 : FitsOne Go.Proofs.Tryd.prog 46 C46 :=
 fits_of_tie (T := [(71, C71), (72, C72), (73, C73)]) (A := ann46) (fn := Go.Proofs.Tryd.f46) (c := body46) (fits_cons fits71 (fits_cons fits72 (fits_cons fits73 fits_nil))) mixed Go.Proofs.Tryd.func46 Go.Proofs.Tryd.call46 (by kernel_rfl) (by kernel_rfl) (by kernel_rfl) tie46

noncomputable def C78 : Entry := fun args w K Kp => unArgs [.one (.int .u64), .one (.int .u64)] args.toList fun x => F.vmem_right env x.1 x.2.1 (fun r1 w' => K (.bool r1) w') w
noncomputable def body78 : Code := (Go.Proofs.Tryd.f78.body).getD .skip
def ann78 : Ann := { loops := [], joins := [] }
theorem tie78 (x : ArgsV [.one (.int .u64), .one (.int .u64)]) (K Kp : Value → World → Prop) (w : World) : F.vmem_right env x.1 x.2.1 (fun r1 w' => K (.bool r1) w') w =
 ev Go.Proofs.Tryd.prog (tabC []) (ground Go.Proofs.Tryd.prog) ann78 body78 (finQ Go.Proofs.Tryd.prog Go.Proofs.Tryd.f78 K Kp) (initF (mkArgs [.one (.int .u64), .one (.int .u64)] x)) w := by kernel_rfl
theorem fits78 : FitsOne Go.Proofs.Tryd.prog 78 C78 :=
 fits_of_tie (T := []) (A := ann78) (fn := Go.Proofs.Tryd.f78) (c := body78) fits_nil mixed Go.Proofs.Tryd.func78 Go.Proofs.Tryd.call78 (by kernel_rfl) (by kernel_rfl) (by kernel_rfl) tie78

noncomputable def C80 : Entry := fun args w K Kp => unArgs [.one (.ptr), .one (.int .u64), .one (.int .u64)] args.toList fun x => F.stretch_Set_Within env x.1 x.2.1 x.2.2.1 (fun r1 w' => K (.slice r1.base r1.len r1.cap) w') w
noncomputable def body80 : Code := (Go.Proofs.Tryd.f80.body).getD .skip
def ann80 : Ann := { loops := [(3, [(7, .one (.sl)), (8, .one (.int .i64))])], joins := [] }
def T0.stretch_Set_Within (E : Env) (c_stretch_Set_at : ∀ (a0 : (Option Addr)) (a1 : Int) (K : Int → World → Prop) (w : World), Prop) (a0 : (Option Addr)) (a1 : Int) (a2 : Int) (K : SlV → World → Prop) (w : World) : Prop :=
 c_stretch_Set_at a0 a1 (fun r1 w2 =>
 LOOP (SlV × Int × Unit) (⟨none, 0, 0⟩, r1, ()) w2 fun s3 _ w4 next5 =>
 NC a0 fun p6 =>
 ∃ x7 : SlV, w4.cell? p6 = some (.slice x7.base x7.len x7.cap) ∧
 CND (decide ((s3.2.1 : Int) < ((x7.len : Nat) : Int))) (
 NC a0 fun p8 =>
 ∃ x9 : SlV, w4.cell? p8 = some (.slice x9.base x9.len x9.cap) ∧
 NC x9.base fun p10 =>
 ((0 : Int) ≤ s3.2.1 ∧ (s3.2.1 : Int) < (x9.len : Nat)) ∧
 ∃ x11 : Int, w4.cell? (p10.add (Int.toNat s3.2.1 * 2)) = some (.int .u64 x11) ∧
 CND (decide ((x11 : Int) < a2)) (
 NC a0 fun p12 =>
 ∃ x13 : SlV, w4.drew.cell? p12 = some (.slice x13.base x13.len x13.cap) ∧
 NC x13.base fun p14 =>
 ((0 : Int) ≤ s3.2.1 ∧ (s3.2.1 : Int) < (x13.len : Nat)) ∧
 ∃ x15 : Int, w4.drew.cell? (p14.add (Int.toNat s3.2.1 * 2)) = some (.int .u64 x15) ∧
 NC a0 fun p16 =>
 ∃ x17 : SlV, w4.drew.cell? p16 = some (.slice x17.base x17.len x17.cap) ∧
 NC x17.base fun p18 =>
 ((0 : Int) ≤ s3.2.1 ∧ (s3.2.1 : Int) < (x17.len : Nat)) ∧
 ∃ x19 : Int, w4.drew.cell? ((p18.add (Int.toNat s3.2.1 * 2)).add 1) = some (.int .u64 x19) ∧
 AL (.cells ⟨[.int .u64 (maxI x15 a1), .int .u64 (minI x19 a2)]⟩ E.t_stretch_One) w4.drew fun b20 w21 =>
 w21.cell? ((p18.add (Int.toNat s3.2.1 * 2)).add 1) = some (.int .u64 x19) ∧
 w21.cell? p16 = some (.slice x17.base x17.len x17.cap) ∧
 w21.cell? (p14.add (Int.toNat s3.2.1 * 2)) = some (.int .u64 x15) ∧
 w21.cell? p12 = some (.slice x13.base x13.len x13.cap) ∧
 APP E.t_stretch_One 2 16 #[.int .u64 0, .int .u64 0] s3.1 ⟨(some (Addr.mk b20 0 none)), 1, 1⟩ w21 fun s22 w23 =>
 w23.cell? ((p18.add (Int.toNat s3.2.1 * 2)).add 1) = some (.int .u64 x19) ∧
 w23.cell? p16 = some (.slice x17.base x17.len x17.cap) ∧
 w23.cell? (p14.add (Int.toNat s3.2.1 * 2)) = some (.int .u64 x15) ∧
 w23.cell? p12 = some (.slice x13.base x13.len x13.cap) ∧
 next5 (s22, i64 (s3.2.1 + 1), ()) w23
 ) (
 K s3.1 w4
 )
 ) (
 K s3.1 w4
 )
 ) w

theorem tieZ80 (c_stretch_Set_at : ∀ (a0 : (Option Addr)) (a1 : Int) (K : Int → World → Prop) (w : World), Prop) (x : ArgsV [.one (.ptr), .one (.int .u64), .one (.int .u64)]) (K Kp : Value → World → Prop) (w : World) : T0.stretch_Set_Within env c_stretch_Set_at x.1 x.2.1 x.2.2.1 (fun r1 w' => K (.slice r1.base r1.len r1.cap) w') w =
 ev Go.Proofs.Tryd.prog (tabC [(64, fun args w K Kp => unArgs [.one (.ptr), .one (.int .u64)] args.toList fun x => c_stretch_Set_at x.1 x.2.1 (fun r1 w' => K (.int .i64 r1) w') w)]) (ground Go.Proofs.Tryd.prog) ann80 body80 (finQ Go.Proofs.Tryd.prog Go.Proofs.Tryd.f80 K Kp) (initF (mkArgs [.one (.ptr), .one (.int .u64), .one (.int .u64)] x)) w := by kernel_rfl
theorem tie80 (x : ArgsV [.one (.ptr), .one (.int .u64), .one (.int .u64)]) (K Kp : Value → World → Prop) (w : World) : F.stretch_Set_Within env x.1 x.2.1 x.2.2.1 (fun r1 w' => K (.slice r1.base r1.len r1.cap) w') w =
 ev Go.Proofs.Tryd.prog (tabC [(64, C64)]) (ground Go.Proofs.Tryd.prog) ann80 body80 (finQ Go.Proofs.Tryd.prog Go.Proofs.Tryd.f80 K Kp) (initF (mkArgs [.one (.ptr), .one (.int .u64), .one (.int .u64)] x)) w := tieZ80 (F.stretch_Set_at env) x K Kp w
theorem fits80 : FitsOne Go.Proofs.Tryd.prog 80 C80 :=
 fits_of_tie (T := [(64, C64)]) (A := ann80) (fn := Go.Proofs.Tryd.f80) (c := body80) (fits_cons fits64 fits_nil) mixed Go.Proofs.Tryd.func80 Go.Proofs.Tryd.call80 (by kernel_rfl) (by kernel_rfl) (by kernel_rfl) tie80

noncomputable def C50 : Entry := fun args w K Kp => unArgs [.one (.ptr), .one (.int .u64), .one (.int .u64)] args.toList fun x => F.vmem_Mem_Commit env x.1 x.2.1 x.2.2.1 (fun r1 w' => K (.int .i64 r1) w') w
noncomputable def body50 : Code := (Go.Proofs.Tryd.f50.body).getD .skip
def ann50 : Ann := { loops := [(12, [(56, .one (.int .i64))]), (15, [(12, .one (.int .u64))])], joins := [(22, [])] }
def T0.vmem_Mem_Commit (E : Env) (c_vmem_right : ∀ (a0 : Int) (a1 : Int) (K : Bool → World → Prop) (w : World), Prop) (c_stretch_Set_Count : ∀ (a0 : (Option Addr)) (a1 : Int) (a2 : Int) (K : Int → World → Prop) (w : World), Prop) (c_vmem_used_bool_ : ∀ (a0 : (Option Addr)) (K : Bool → Bool → World → Prop) (w : World), Prop) (c_stretch_Set_Within : ∀ (a0 : (Option Addr)) (a1 : Int) (a2 : Int) (K : SlV → World → Prop) (w : World), Prop) (c_vmem_used_uint64_ : ∀ (a0 : (Option Addr)) (K : Int → Bool → World → Prop) (w : World), Prop) (c_stretch_Set_Cut : ∀ (a0 : (Option Addr)) (a1 : Int) (a2 : Int) (K : World → Prop) (w : World), Prop) (c_stretch_Set_Add : ∀ (a0 : (Option Addr)) (a1 : Int) (a2 : Int) (K : World → Prop) (w : World), Prop) (a0 : (Option Addr)) (a1 : Int) (a2 : Int) (K : Int → World → Prop) (w : World) : Prop :=
 c_vmem_right a1 a2 (fun r1 w2 =>
 CND (!r1) (
 K 1 w2
 ) (
 NC a0 fun p3 =>
 c_stretch_Set_Count (some (p3.add 3)) a1 (u64 (a1 + a2)) (fun r4 w5 =>
 CND ((r4 : Int) != a2) (
 K 33 w5
 ) (
 NC a0 fun p6 =>
 c_stretch_Set_Count (some (p6.add 5)) a1 (u64 (a1 + a2)) (fun r7 w8 =>
 CND ((r7 : Int) == a2) (
 K 0 w8
 ) (
 NC a0 fun p9 =>
 c_vmem_used_bool_ (some (p9.add 1)) (fun r10 r11 w12 =>
 CND (r10) (
 K 13 w12
 ) (
 JOIN (Unit) (fun J13 =>
 NC a0 fun p16 =>
 c_stretch_Set_Within (some (p16.add 7)) a1 (u64 (a1 + a2)) (fun r17 w18 =>
 LOOP (Int × Unit) (0, ()) w18 fun s19 _ w20 next21 =>
 CND (decide ((s19.1 : Int) < ((r17.len : Nat) : Int))) (
 NC r17.base fun p22 =>
 ((0 : Int) ≤ s19.1 ∧ (s19.1 : Int) < (r17.len : Nat)) ∧
 ∃ c23 : Int, w20.cell? ((p22.add (Int.toNat s19.1 * 2)).add 0) = some (.int .u64 c23) ∧
 ∃ c24 : Int, w20.cell? ((p22.add (Int.toNat s19.1 * 2)).add 1) = some (.int .u64 c24) ∧
 AL (.cells #[.int .u64 0, .int .u64 0] E.t_stretch_One) w20 fun b25 w26 =>
 stCells (Addr.mk b25 0 none) 0 [.int .u64 c23, .int .u64 c24] w26 fun w27 =>
 ∃ x28 : Int, w27.cell? (Addr.mk b25 0 none) = some (.int .u64 x28) ∧
 LOOP (Int × Unit) (x28, ()) w27 fun s29 _ w30 next31 =>
 ∃ x32 : Int, w30.cell? ((Addr.mk b25 0 none).add 1) = some (.int .u64 x32) ∧
 CND (decide ((s29.1 : Int) < x32)) (
 NC a0 fun p33 =>
 ∃ x34 : SlV, w30.cell? (p33.add 2) = some (.slice x34.base x34.len x34.cap) ∧
 CND ((((x34.len : Nat) : Int) : Int) == 0) (
 J13 (()) w30
 ) (
 NC a0 fun p35 =>
 c_vmem_used_uint64_ (some (p35.add 2)) (fun r36 r37 w38 =>
 CND ((r36 : Int) != 0) (
 NC a0 fun p39 =>
 ∃ x40 : (Option Nat), w38.cell? (p39.add 9) = some (.map x40) ∧
 MUPD .u64 s29.1 (.int .u64 r36) x40 w38 fun w41 =>
 next31 (u64 (s29.1 + 1), ()) w41
 ) (
 next31 (u64 (s29.1 + 1), ()) w38
 )
 ) w30
 )
 ) (
 next21 (i64 (s19.1 + 1), ()) w30
 )
 ) (
 J13 (()) w20
 )
 ) w12
 ) fun s14 _ w15 =>
 NC a0 fun p42 =>
 c_stretch_Set_Cut (some (p42.add 7)) a1 (u64 (a1 + a2)) (fun  w43 =>
 NC a0 fun p44 =>
 c_stretch_Set_Add (some (p44.add 5)) a1 (u64 (a1 + a2)) (fun  w45 =>
 K 0 w45
 ) w43
 ) w15
 )
 ) w8
 )
 ) w5
 )
 ) w2
 )
 ) w

theorem tieZ50 (c_vmem_right : ∀ (a0 : Int) (a1 : Int) (K : Bool → World → Prop) (w : World), Prop) (c_stretch_Set_Count : ∀ (a0 : (Option Addr)) (a1 : Int) (a2 : Int) (K : Int → World → Prop) (w : World), Prop) (c_vmem_used_bool_ : ∀ (a0 : (Option Addr)) (K : Bool → Bool → World → Prop) (w : World), Prop) (c_stretch_Set_Within : ∀ (a0 : (Option Addr)) (a1 : Int) (a2 : Int) (K : SlV → World → Prop) (w : World), Prop) (c_vmem_used_uint64_ : ∀ (a0 : (Option Addr)) (K : Int → Bool → World → Prop) (w : World), Prop) (c_stretch_Set_Cut : ∀ (a0 : (Option Addr)) (a1 : Int) (a2 : Int) (K : World → Prop) (w : World), Prop) (c_stretch_Set_Add : ∀ (a0 : (Option Addr)) (a1 : Int) (a2 : Int) (K : World → Prop) (w : World), Prop) (x : ArgsV [.one (.ptr), .one (.int .u64), .one (.int .u64)]) (K Kp : Value → World → Prop) (w : World) : T0.vmem_Mem_Commit env c_vmem_right c_stretch_Set_Count c_vmem_used_bool_ c_stretch_Set_Within c_vmem_used_uint64_ c_stretch_Set_Cut c_stretch_Set_Add x.1 x.2.1 x.2.2.1 (fun r1 w' => K (.int .i64 r1) w') w =
 ev Go.Proofs.Tryd.prog (tabC [(78, fun args w K Kp => unArgs [.one (.int .u64), .one (.int .u64)] args.toList fun x => c_vmem_right x.1 x.2.1 (fun r1 w' => K (.bool r1) w') w), (52, fun args w K Kp => unArgs [.one (.ptr), .one (.int .u64), .one (.int .u64)] args.toList fun x => c_stretch_Set_Count x.1 x.2.1 x.2.2.1 (fun r1 w' => K (.int .u64 r1) w') w), (79, fun args w K Kp => unArgs [.one (.ptr)] args.toList fun x => c_vmem_used_bool_ x.1 (fun r1 r2 w' => K (.tuple ⟨[.bool r1, .bool r2]⟩) w') w), (80, fun args w K Kp => unArgs [.one (.ptr), .one (.int .u64), .one (.int .u64)] args.toList fun x => c_stretch_Set_Within x.1 x.2.1 x.2.2.1 (fun r1 w' => K (.slice r1.base r1.len r1.cap) w') w), (81, fun args w K Kp => unArgs [.one (.ptr)] args.toList fun x => c_vmem_used_uint64_ x.1 (fun r1 r2 w' => K (.tuple ⟨[.int .u64 r1, .bool r2]⟩) w') w), (82, fun args w K Kp => unArgs [.one (.ptr), .one (.int .u64), .one (.int .u64)] args.toList fun x => c_stretch_Set_Cut x.1 x.2.1 x.2.2.1 (fun  w' => K (.tuple ⟨[]⟩) w') w), (83, fun args w K Kp => unArgs [.one (.ptr), .one (.int .u64), .one (.int .u64)] args.toList fun x => c_stretch_Set_Add x.1 x.2.1 x.2.2.1 (fun  w' => K (.tuple ⟨[]⟩) w') w)]) (ground Go.Proofs.Tryd.prog) ann50 body50 (finQ Go.Proofs.Tryd.prog Go.Proofs.Tryd.f50 K Kp) (initF (mkArgs [.one (.ptr), .one (.int .u64), .one (.int .u64)] x)) w := by kernel_rfl
theorem tie50 (x : ArgsV [.one (.ptr), .one (.int .u64), .one (.int .u64)]) (K Kp : Value → World → Prop) (w : World) : F.vmem_Mem_Commit env x.1 x.2.1 x.2.2.1 (fun r1 w' => K (.int .i64 r1) w') w =
 ev Go.Proofs.Tryd.prog (tabC [(78, C78), (52, C52), (79, C79), (80, C80), (81, C81), (82, C82), (83, C83)]) (ground Go.Proofs.Tryd.prog) ann50 body50 (finQ Go.Proofs.Tryd.prog Go.Proofs.Tryd.f50 K Kp) (initF (mkArgs [.one (.ptr), .one (.int .u64), .one (.int .u64)] x)) w := tieZ50 (F.vmem_right env) (F.stretch_Set_Count env) (F.vmem_used_bool_ env) (F.stretch_Set_Within env) (F.vmem_used_uint64_ env) (F.stretch_Set_Cut env) (F.stretch_Set_Add env) x K Kp w
theorem fits50 : FitsOne Go.Proofs.Tryd.prog 50 C50 :=
 fits_of_tie (T := [(78, C78), (52, C52), (79, C79), (80, C80), (81, C81), (82, C82), (83, C83)]) (A := ann50) (fn := Go.Proofs.Tryd.f50) (c := body50) (fits_cons fits78 (fits_cons fits52 (fits_cons fits79 (fits_cons fits80 (fits_cons fits81 (fits_cons fits82 (fits_cons fits83 fits_nil))))))) mixed Go.Proofs.Tryd.func50 Go.Proofs.Tryd.call50 (by kernel_rfl) (by kernel_rfl) (by kernel_rfl) tie50

end Go.Sh

