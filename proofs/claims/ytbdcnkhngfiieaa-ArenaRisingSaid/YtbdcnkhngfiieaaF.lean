/- The shallow forms of the functions, printed by a program. No further condition. -/
import Derived.Test.YtbdcnkhngfiieaaM
set_option linter.all false
set_option maxRecDepth 100000
namespace Go.Sh

structure Env where
 call : Calling
 yld : Yields
 seq : Seqs
 t_arena_Map : Nat
 t_stretch_One : Nat
 t___stretch_One : Nat
 t__stretch_Set : Nat
 t_uint64 : Nat
 t_arena_wide : Nat
 t__arena_Map : Nat
 t_int : Nat
 t__mallowlaw11_Model : Nat
 t_mallowlaw11_Act : Nat
 t_bool : Nat
 t_mallowlaw11_Model : Nat
 t_map_uint64_bool : Nat
 t_func_uint64_bool : Nat
 t__512_int : Nat
 f_arena_Map_Chunks_1 : Nat
 f_stretch_Set_at_1 : Nat
 f_arena_Map_Set_1 : Nat
 f_arena_rising_1 : Nat

def F.arena_New (E : Env)  (K : (Option Addr) → World → Prop) (w : World) : Prop :=
 AL (.map #[] 0) w fun b1 w2 =>
 AL (.cells #[.slice none 0 0, .int .u64 0, .slice none 0 0, .map (some b1)] E.t_arena_Map) w2 fun b3 w4 =>
 K (some (Addr.mk b3 0 none)) w4

def F.stretch_Set_All (E : Env) (a0 : (Option Addr)) (K : SlV → World → Prop) (w : World) : Prop :=
 NC a0 fun p1 =>
 ∃ x2 : SlV, w.cell? p1 = some (.slice x2.base x2.len x2.cap) ∧
 K x2 w

def F.arena_Map_Chunks (E : Env) (a0 : (Option Addr)) (K : Value → World → Prop) (w : World) : Prop :=
 AL (.cells ⟨[]⟩ E.t_stretch_One) w fun b1 w2 =>
 NC a0 fun p3 =>
 F.stretch_Set_All E (some p3) (fun r4 w5 =>
 APP E.t_stretch_One 2 16 #[.int .u64 0, .int .u64 0] ⟨(some (Addr.mk b1 0 none)), 0, 0⟩ r4 w5 fun s6 w7 =>
 AL (.cells #[.slice none 0 0] E.t___stretch_One) w7 fun b8 w9 =>
 stCells (Addr.mk b8 0 none) 0 [.slice s6.base s6.len s6.cap] w9 fun w10 =>
 K (.func (.func E.f_arena_Map_Chunks_1) #[] #[.pointer (some (Addr.mk b8 0 none))]) w10
 ) w2

def F.sort_Search (E : Env) (a0 : Int) (a1 : Value) (K : Int → World → Prop) (w : World) : Prop :=
 LOOP (Int × Int × Unit) (0, a0, ()) w fun s1 _ w2 next3 =>
 CND (decide ((s1.1 : Int) < s1.2.1)) (
 (0 : Int) ≤ 1 ∧
 LET (i64 (Int.fdiv (u64 (i64 (s1.1 + s1.2.1))) (2 ^ (min (Int.toNat 1) (IntKind.bits .u64)))) : Int) fun h_4 =>
 DYN E.call a1 #[.int .i64 h_4] w2 fun r5 w6 =>
 ∃ x7 : Bool, r5 = .bool x7 ∧
 CND (!x7) (
 next3 (i64 (h_4 + 1), s1.2.1, ()) w6
 ) (
 next3 (s1.1, h_4, ()) w6
 )
 ) (
 K s1.1 w2
 )

def F.stretch_Set_at (E : Env) (a0 : (Option Addr)) (a1 : Int) (K : Int → World → Prop) (w : World) : Prop :=
 AL (.cells #[.pointer a0] E.t__stretch_Set) w fun b1 w2 =>
 AL (.cells #[.int .u64 a1] E.t_uint64) w2 fun b3 w4 =>
 ∃ x5 : (Option Addr), w4.cell? (Addr.mk b1 0 none) = some (.pointer x5) ∧
 NC x5 fun p6 =>
 ∃ x7 : SlV, w4.cell? p6 = some (.slice x7.base x7.len x7.cap) ∧
 F.sort_Search E ((x7.len : Nat) : Int) (.func (.func E.f_stretch_Set_at_1) #[] #[.pointer (some (Addr.mk b1 0 none)), .pointer (some (Addr.mk b3 0 none))]) (fun r8 w9 =>
 K r8 w9
 ) w4

def F.stretch_Set_Has (E : Env) (a0 : (Option Addr)) (a1 : Int) (K : Bool → World → Prop) (w : World) : Prop :=
 F.stretch_Set_at E a0 a1 (fun r1 w2 =>
 NC a0 fun p3 =>
 ∃ x4 : SlV, w2.cell? p3 = some (.slice x4.base x4.len x4.cap) ∧
 CND (decide ((r1 : Int) < ((x4.len : Nat) : Int))) (
 NC a0 fun p5 =>
 ∃ x6 : SlV, w2.cell? p5 = some (.slice x6.base x6.len x6.cap) ∧
 NC x6.base fun p7 =>
 ((0 : Int) ≤ r1 ∧ (r1 : Int) < (x6.len : Nat)) ∧
 ∃ x8 : Int, w2.cell? (p7.add (Int.toNat r1 * 2)) = some (.int .u64 x8) ∧
 K (decide ((x8 : Int) ≤ a1)) w2
 ) (
 K false w2
 )
 ) w

def F.stretch_Set_Count (E : Env) (a0 : (Option Addr)) (a1 : Int) (a2 : Int) (K : Int → World → Prop) (w : World) : Prop :=
 F.stretch_Set_at E a0 a1 (fun r1 w2 =>
 LOOP (Int × Int × Unit) (0, r1, ()) w2 fun s3 _ w4 next5 =>
 NC a0 fun p6 =>
 ∃ x7 : SlV, w4.cell? p6 = some (.slice x7.base x7.len x7.cap) ∧
 CND (decide ((s3.2.1 : Int) < ((x7.len : Nat) : Int))) (
 NC a0 fun p8 =>
 ∃ x9 : SlV, w4.cell? p8 = some (.slice x9.base x9.len x9.cap) ∧
 NC x9.base fun p10 =>
 ((0 : Int) ≤ s3.2.1 ∧ (s3.2.1 : Int) < (x9.len : Nat)) ∧
 ∃ x11 : Int, w4.cell? (p10.add (Int.toNat s3.2.1 * 2)) = some (.int .u64 x11) ∧
 CND (decide ((x11 : Int) < a2)) (
 NC a0 fun p12 =>
 ∃ x13 : SlV, w4.drew.cell? p12 = some (.slice x13.base x13.len x13.cap) ∧
 NC x13.base fun p14 =>
 ((0 : Int) ≤ s3.2.1 ∧ (s3.2.1 : Int) < (x13.len : Nat)) ∧
 ∃ x15 : Int, w4.drew.cell? ((p14.add (Int.toNat s3.2.1 * 2)).add 1) = some (.int .u64 x15) ∧
 NC a0 fun p16 =>
 ∃ x17 : SlV, w4.drew.cell? p16 = some (.slice x17.base x17.len x17.cap) ∧
 NC x17.base fun p18 =>
 ((0 : Int) ≤ s3.2.1 ∧ (s3.2.1 : Int) < (x17.len : Nat)) ∧
 ∃ x19 : Int, w4.drew.cell? (p18.add (Int.toNat s3.2.1 * 2)) = some (.int .u64 x19) ∧
 LET (u64 (s3.1 + (u64 ((minI x15 a2) - (maxI x19 a1)))) : Int) fun n_20 =>
 next5 (n_20, i64 (s3.2.1 + 1), ()) w4.drew
 ) (
 K s3.1 w4
 )
 ) (
 K s3.1 w4
 )
 ) w

def F.stretch_Set_Cut (E : Env) (a0 : (Option Addr)) (a1 : Int) (a2 : Int) (K : World → Prop) (w : World) : Prop :=
 CND (decide ((a1 : Int) ≥ a2)) (
 K  w
 ) (
 NC a0 fun p1 =>
 ∃ x2 : Int, w.drew.cell? (p1.add 1) = some (.int .u64 x2) ∧
 F.stretch_Set_Count E a0 a1 a2 (fun r3 w4 =>
 w4.cell? (p1.add 1) = some (.int .u64 x2) ∧
 NC a0 fun p5 =>
 stCells (p5.add 1) 0 [.int .u64 (u64 (x2 - r3))] w4 fun w6 =>
 F.stretch_Set_at E a0 a1 (fun r7 w8 =>
 JOIN (Int × SlV × Unit) (fun J9 =>
 LOOP (Int × SlV × Unit) (r7, ⟨none, 0, 0⟩, ()) w8 fun s12 _ w13 next14 =>
 NC a0 fun p15 =>
 ∃ x16 : SlV, w13.cell? p15 = some (.slice x16.base x16.len x16.cap) ∧
 CND (decide ((s12.1 : Int) < ((x16.len : Nat) : Int))) (
 NC a0 fun p17 =>
 ∃ x18 : SlV, w13.cell? p17 = some (.slice x18.base x18.len x18.cap) ∧
 NC x18.base fun p19 =>
 ((0 : Int) ≤ s12.1 ∧ (s12.1 : Int) < (x18.len : Nat)) ∧
 ∃ x20 : Int, w13.cell? (p19.add (Int.toNat s12.1 * 2)) = some (.int .u64 x20) ∧
 CND (decide ((x20 : Int) < a2)) (
 NC a0 fun p21 =>
 ∃ x22 : SlV, w13.cell? p21 = some (.slice x22.base x22.len x22.cap) ∧
 NC x22.base fun p23 =>
 ((0 : Int) ≤ s12.1 ∧ (s12.1 : Int) < (x22.len : Nat)) ∧
 ∃ c24 : Int, w13.cell? ((p23.add (Int.toNat s12.1 * 2)).add 0) = some (.int .u64 c24) ∧
 ∃ c25 : Int, w13.cell? ((p23.add (Int.toNat s12.1 * 2)).add 1) = some (.int .u64 c25) ∧
 AL (.cells #[.int .u64 0, .int .u64 0] E.t_stretch_One) w13 fun b26 w27 =>
 stCells (Addr.mk b26 0 none) 0 [.int .u64 c24, .int .u64 c25] w27 fun w28 =>
 JOIN (SlV × Unit) (fun J29 =>
 ∃ x32 : Int, w28.cell? (Addr.mk b26 0 none) = some (.int .u64 x32) ∧
 CND (decide ((x32 : Int) < a1)) (
 ∃ x33 : Int, w28.cell? (Addr.mk b26 0 none) = some (.int .u64 x33) ∧
 AL (.cells ⟨[.int .u64 x33, .int .u64 a1]⟩ E.t_stretch_One) w28 fun b34 w35 =>
 APP E.t_stretch_One 2 16 #[.int .u64 0, .int .u64 0] s12.2.1 ⟨(some (Addr.mk b34 0 none)), 1, 1⟩ w35 fun s36 w37 =>
 J29 (s36, ()) w37
 ) (
 J29 (s12.2.1, ()) w28
 )
 ) fun s30 _ w31 =>
 ∃ x38 : Int, w31.cell? ((Addr.mk b26 0 none).add 1) = some (.int .u64 x38) ∧
 CND (decide ((x38 : Int) > a2)) (
 ∃ x39 : Int, w31.cell? ((Addr.mk b26 0 none).add 1) = some (.int .u64 x39) ∧
 AL (.cells ⟨[.int .u64 a2, .int .u64 x39]⟩ E.t_stretch_One) w31 fun b40 w41 =>
 APP E.t_stretch_One 2 16 #[.int .u64 0, .int .u64 0] s30.1 ⟨(some (Addr.mk b40 0 none)), 1, 1⟩ w41 fun s42 w43 =>
 next14 (i64 (s12.1 + 1), s42, ()) w43
 ) (
 next14 (i64 (s12.1 + 1), s30.1, ()) w31
 )
 ) (
 J9 (s12.1, s12.2.1, ()) w13
 )
 ) (
 J9 (s12.1, s12.2.1, ()) w13
 )
 ) fun s10 _ w11 =>
 NC a0 fun p44 =>
 ∃ x45 : SlV, w11.drew.cell? p44 = some (.slice x45.base x45.len x45.cap) ∧
 ((0 : Int) ≤ r7 ∧ (r7 : Int) ≤ (x45.cap : Nat)) ∧
 NC a0 fun p46 =>
 ∃ x47 : SlV, w11.drew.cell? p46 = some (.slice x47.base x47.len x47.cap) ∧
 ((0 : Int) ≤ s10.1 ∧ (s10.1 : Int) ≤ (x47.len : Nat)) ∧
 AL (.cells ⟨[]⟩ E.t_stretch_One) w11.drew fun b48 w49 =>
 w49.cell? p46 = some (.slice x47.base x47.len x47.cap) ∧
 w49.cell? p44 = some (.slice x45.base x45.len x45.cap) ∧
 APP E.t_stretch_One 2 16 #[.int .u64 0, .int .u64 0] ⟨(some (Addr.mk b48 0 none)), 0, 0⟩ ⟨(slB x45.base x45.cap 0 2), (Int.toNat r7), x45.cap⟩ w49 fun s50 w51 =>
 w51.cell? p46 = some (.slice x47.base x47.len x47.cap) ∧
 w51.cell? p44 = some (.slice x45.base x45.len x45.cap) ∧
 APP E.t_stretch_One 2 16 #[.int .u64 0, .int .u64 0] s50 s10.2.1 w51 fun s52 w53 =>
 w53.cell? p46 = some (.slice x47.base x47.len x47.cap) ∧
 w53.cell? p44 = some (.slice x45.base x45.len x45.cap) ∧
 APP E.t_stretch_One 2 16 #[.int .u64 0, .int .u64 0] s52 ⟨(slB x47.base x47.cap (Int.toNat s10.1) 2), (x47.len - (Int.toNat s10.1)), (x47.cap - (Int.toNat s10.1))⟩ w53 fun s54 w55 =>
 w55.cell? p46 = some (.slice x47.base x47.len x47.cap) ∧
 w55.cell? p44 = some (.slice x45.base x45.len x45.cap) ∧
 NC a0 fun p56 =>
 stCells p56 0 [.slice s54.base s54.len s54.cap] w55 fun w57 =>
 K  w57
 ) w6
 ) w.drew
 )

def F.stretch_Set_Add (E : Env) (a0 : (Option Addr)) (a1 : Int) (a2 : Int) (K : World → Prop) (w : World) : Prop :=
 CND (decide ((a1 : Int) ≥ a2)) (
 K  w
 ) (
 F.stretch_Set_Cut E a0 a1 a2 (fun  w1 =>
 NC a0 fun p2 =>
 ∃ x3 : Int, w1.cell? (p2.add 1) = some (.int .u64 x3) ∧
 NC a0 fun p4 =>
 stCells (p4.add 1) 0 [.int .u64 (u64 (x3 + (u64 (a2 - a1))))] w1 fun w5 =>
 F.stretch_Set_at E a0 a1 (fun r6 w7 =>
 AL (.cells #[.int .u64 0, .int .u64 0] E.t_stretch_One) w7 fun b8 w9 =>
 stCells (Addr.mk b8 0 none) 0 [.int .u64 a1, .int .u64 a2] w9 fun w10 =>
 JOIN (Int × Unit) (fun J11 =>
 JOIN (Bool × Unit) (fun J14 =>
 NC a0 fun p17 =>
 ∃ x18 : SlV, w10.cell? p17 = some (.slice x18.base x18.len x18.cap) ∧
 CND (decide ((r6 : Int) < ((x18.len : Nat) : Int))) (
 NC a0 fun p19 =>
 ∃ x20 : SlV, w10.cell? p19 = some (.slice x20.base x20.len x20.cap) ∧
 NC x20.base fun p21 =>
 ((0 : Int) ≤ r6 ∧ (r6 : Int) < (x20.len : Nat)) ∧
 ∃ x22 : Int, w10.cell? (p21.add (Int.toNat r6 * 2)) = some (.int .u64 x22) ∧
 J14 ((x22 : Int) == a2, ()) w10
 ) (
 J14 (false, ()) w10
 )
 ) fun s15 _ w16 =>
 CND (s15.1) (
 NC a0 fun p23 =>
 ∃ x24 : SlV, w16.cell? p23 = some (.slice x24.base x24.len x24.cap) ∧
 NC x24.base fun p25 =>
 ((0 : Int) ≤ r6 ∧ (r6 : Int) < (x24.len : Nat)) ∧
 ∃ x26 : Int, w16.cell? ((p25.add (Int.toNat r6 * 2)).add 1) = some (.int .u64 x26) ∧
 stCells ((Addr.mk b8 0 none).add 1) 0 [.int .u64 x26] w16 fun w27 =>
 J11 (i64 (r6 + 1), ()) w27
 ) (
 J11 (r6, ()) w16
 )
 ) fun s12 _ w13 =>
 JOIN (Int × Unit) (fun J28 =>
 JOIN (Bool × Unit) (fun J31 =>
 CND (decide ((r6 : Int) > 0)) (
 NC a0 fun p34 =>
 ∃ x35 : SlV, w13.cell? p34 = some (.slice x35.base x35.len x35.cap) ∧
 NC x35.base fun p36 =>
 ((0 : Int) ≤ (i64 (r6 - 1)) ∧ ((i64 (r6 - 1)) : Int) < (x35.len : Nat)) ∧
 ∃ x37 : Int, w13.cell? ((p36.add (Int.toNat (i64 (r6 - 1)) * 2)).add 1) = some (.int .u64 x37) ∧
 J31 ((x37 : Int) == a1, ()) w13
 ) (
 J31 (false, ()) w13
 )
 ) fun s32 _ w33 =>
 CND (s32.1) (
 NC a0 fun p38 =>
 ∃ x39 : SlV, w33.cell? p38 = some (.slice x39.base x39.len x39.cap) ∧
 NC x39.base fun p40 =>
 ((0 : Int) ≤ (i64 (r6 - 1)) ∧ ((i64 (r6 - 1)) : Int) < (x39.len : Nat)) ∧
 ∃ x41 : Int, w33.cell? (p40.add (Int.toNat (i64 (r6 - 1)) * 2)) = some (.int .u64 x41) ∧
 stCells (Addr.mk b8 0 none) 0 [.int .u64 x41] w33 fun w42 =>
 J28 (i64 (r6 - 1), ()) w42
 ) (
 J28 (r6, ()) w33
 )
 ) fun s29 _ w30 =>
 NC a0 fun p43 =>
 ∃ x44 : SlV, w30.drew.cell? p43 = some (.slice x44.base x44.len x44.cap) ∧
 ((0 : Int) ≤ s29.1 ∧ (s29.1 : Int) ≤ (x44.cap : Nat)) ∧
 ∃ c45 : Int, w30.drew.cell? ((Addr.mk b8 0 none).add 0) = some (.int .u64 c45) ∧
 ∃ c46 : Int, w30.drew.cell? ((Addr.mk b8 0 none).add 1) = some (.int .u64 c46) ∧
 NC a0 fun p47 =>
 ∃ x48 : SlV, w30.drew.cell? p47 = some (.slice x48.base x48.len x48.cap) ∧
 ((0 : Int) ≤ s12.1 ∧ (s12.1 : Int) ≤ (x48.len : Nat)) ∧
 (
 AL (.cells ⟨[]⟩ E.t_stretch_One) w30.drew fun b49 w50 =>
 w50.cell? p47 = some (.slice x48.base x48.len x48.cap) ∧
 (w50.cell? ((Addr.mk b8 0 none).add 0) = some (.int .u64 c45) ∧ (w50.cell? ((Addr.mk b8 0 none).add 1) = some (.int .u64 c46) ∧ True)) ∧
 w50.cell? p43 = some (.slice x44.base x44.len x44.cap) ∧
 (
 APP E.t_stretch_One 2 16 #[.int .u64 0, .int .u64 0] ⟨(some (Addr.mk b49 0 none)), 0, 0⟩ ⟨(slB x44.base x44.cap 0 2), (Int.toNat s29.1), x44.cap⟩ w50 fun s51 w52 =>
 w52.cell? p47 = some (.slice x48.base x48.len x48.cap) ∧
 (w52.cell? ((Addr.mk b8 0 none).add 0) = some (.int .u64 c45) ∧ (w52.cell? ((Addr.mk b8 0 none).add 1) = some (.int .u64 c46) ∧ True)) ∧
 w52.cell? p43 = some (.slice x44.base x44.len x44.cap) ∧
 AL (.cells ⟨[.int .u64 c45, .int .u64 c46]⟩ E.t_stretch_One) w52 fun b53 w54 =>
 w54.cell? p47 = some (.slice x48.base x48.len x48.cap) ∧
 w54.cell? p43 = some (.slice x44.base x44.len x44.cap) ∧
 APP E.t_stretch_One 2 16 #[.int .u64 0, .int .u64 0] s51 ⟨(some (Addr.mk b53 0 none)), 1, 1⟩ w54 fun s55 w56 =>
 w56.cell? p47 = some (.slice x48.base x48.len x48.cap) ∧
 w56.cell? p43 = some (.slice x44.base x44.len x44.cap) ∧
 APP E.t_stretch_One 2 16 #[.int .u64 0, .int .u64 0] s55 ⟨(slB x48.base x48.cap (Int.toNat s12.1) 2), (x48.len - (Int.toNat s12.1)), (x48.cap - (Int.toNat s12.1))⟩ w56 fun s57 w58 =>
 w58.cell? p47 = some (.slice x48.base x48.len x48.cap) ∧
 w58.cell? p43 = some (.slice x44.base x44.len x44.cap) ∧
 NC a0 fun p59 =>
 stCells p59 0 [.slice s57.base s57.len s57.cap] w58 fun w60 =>
 K  w60

 ) ∧ (
 AL (.cells ⟨[.int .u64 c45, .int .u64 c46]⟩ E.t_stretch_One) w50 fun b61 w62 =>
 w62.cell? p47 = some (.slice x48.base x48.len x48.cap) ∧
 w62.cell? p43 = some (.slice x44.base x44.len x44.cap) ∧
 APP E.t_stretch_One 2 16 #[.int .u64 0, .int .u64 0] ⟨(some (Addr.mk b49 0 none)), 0, 0⟩ ⟨(slB x44.base x44.cap 0 2), (Int.toNat s29.1), x44.cap⟩ w62 fun s63 w64 =>
 w64.cell? p47 = some (.slice x48.base x48.len x48.cap) ∧
 w64.cell? p43 = some (.slice x44.base x44.len x44.cap) ∧
 APP E.t_stretch_One 2 16 #[.int .u64 0, .int .u64 0] s63 ⟨(some (Addr.mk b61 0 none)), 1, 1⟩ w64 fun s65 w66 =>
 w66.cell? p47 = some (.slice x48.base x48.len x48.cap) ∧
 w66.cell? p43 = some (.slice x44.base x44.len x44.cap) ∧
 APP E.t_stretch_One 2 16 #[.int .u64 0, .int .u64 0] s65 ⟨(slB x48.base x48.cap (Int.toNat s12.1) 2), (x48.len - (Int.toNat s12.1)), (x48.cap - (Int.toNat s12.1))⟩ w66 fun s67 w68 =>
 w68.cell? p47 = some (.slice x48.base x48.len x48.cap) ∧
 w68.cell? p43 = some (.slice x44.base x44.len x44.cap) ∧
 NC a0 fun p69 =>
 stCells p69 0 [.slice s67.base s67.len s67.cap] w68 fun w70 =>
 K  w70
 )

 ) ∧ (
 AL (.cells ⟨[.int .u64 c45, .int .u64 c46]⟩ E.t_stretch_One) w30.drew fun b71 w72 =>
 w72.cell? p47 = some (.slice x48.base x48.len x48.cap) ∧
 w72.cell? p43 = some (.slice x44.base x44.len x44.cap) ∧
 AL (.cells ⟨[]⟩ E.t_stretch_One) w72 fun b73 w74 =>
 w74.cell? p47 = some (.slice x48.base x48.len x48.cap) ∧
 w74.cell? p43 = some (.slice x44.base x44.len x44.cap) ∧
 APP E.t_stretch_One 2 16 #[.int .u64 0, .int .u64 0] ⟨(some (Addr.mk b73 0 none)), 0, 0⟩ ⟨(slB x44.base x44.cap 0 2), (Int.toNat s29.1), x44.cap⟩ w74 fun s75 w76 =>
 w76.cell? p47 = some (.slice x48.base x48.len x48.cap) ∧
 w76.cell? p43 = some (.slice x44.base x44.len x44.cap) ∧
 APP E.t_stretch_One 2 16 #[.int .u64 0, .int .u64 0] s75 ⟨(some (Addr.mk b71 0 none)), 1, 1⟩ w76 fun s77 w78 =>
 w78.cell? p47 = some (.slice x48.base x48.len x48.cap) ∧
 w78.cell? p43 = some (.slice x44.base x44.len x44.cap) ∧
 APP E.t_stretch_One 2 16 #[.int .u64 0, .int .u64 0] s77 ⟨(slB x48.base x48.cap (Int.toNat s12.1) 2), (x48.len - (Int.toNat s12.1)), (x48.cap - (Int.toNat s12.1))⟩ w78 fun s79 w80 =>
 w80.cell? p47 = some (.slice x48.base x48.len x48.cap) ∧
 w80.cell? p43 = some (.slice x44.base x44.len x44.cap) ∧
 NC a0 fun p81 =>
 stCells p81 0 [.slice s79.base s79.len s79.cap] w80 fun w82 =>
 K  w82
 )
 ) w5
 ) w
 )

def F.arena_Map_Add (E : Env) (a0 : (Option Addr)) (a1 : Int) (K : Int → World → Prop) (w : World) : Prop :=
 CND (decide ((a1 : Int) ≥ 67108864)) (
 K 1 w
 ) (
 NC a0 fun p1 =>
 F.stretch_Set_Has E (some p1) a1 (fun r2 w3 =>
 CND (r2) (
 K 34 w3
 ) (
 NC a0 fun p4 =>
 F.stretch_Set_Add E (some p4) a1 (u64 (a1 + 1)) (fun  w5 =>
 K 0 w5
 ) w3
 )
 ) w
 )

def F.arena_Map_cut (E : Env) (a0 : (Option Addr)) (a1 : Int) (a2 : Int) (K : World → Prop) (w : World) : Prop :=
 NC a0 fun p1 =>
 ∃ x2 : SlV, w.cell? (p1.add 2) = some (.slice x2.base x2.len x2.cap) ∧
 LOOP (SlV × Int × Unit) (⟨none, 0, 0⟩, 0, ()) w fun s3 _ w4 next5 =>
 CND (decide ((s3.2.1 : Int) < ((x2.len : Nat) : Int))) (
 NC x2.base fun p6 =>
 ((0 : Int) ≤ s3.2.1 ∧ (s3.2.1 : Int) < (x2.len : Nat)) ∧
 ∃ c7 : Int, w4.cell? ((p6.add (Int.toNat s3.2.1 * 3)).add 0) = some (.int .u64 c7) ∧
 ∃ c8 : Int, w4.cell? ((p6.add (Int.toNat s3.2.1 * 3)).add 1) = some (.int .u64 c8) ∧
 ∃ c9 : Int, w4.cell? ((p6.add (Int.toNat s3.2.1 * 3)).add 2) = some (.int .i64 c9) ∧
 AL (.cells #[.int .u64 0, .int .u64 0, .int .i64 0] E.t_arena_wide) w4 fun b10 w11 =>
 stCells (Addr.mk b10 0 none) 0 [.int .u64 c7, .int .u64 c8, .int .i64 c9] w11 fun w12 =>
 JOIN (Bool × Unit) (fun J13 =>
 ∃ x16 : Int, w12.cell? ((Addr.mk b10 0 none).add 1) = some (.int .u64 x16) ∧
 CND (decide ((x16 : Int) ≤ a1)) (
 J13 (true, ()) w12
 ) (
 ∃ x17 : Int, w12.cell? (Addr.mk b10 0 none) = some (.int .u64 x17) ∧
 J13 (decide ((x17 : Int) ≥ a2), ()) w12
 )
 ) fun s14 _ w15 =>
 CND (s14.1) (
 ∃ c18 : Int, w15.cell? ((Addr.mk b10 0 none).add 0) = some (.int .u64 c18) ∧
 ∃ c19 : Int, w15.cell? ((Addr.mk b10 0 none).add 1) = some (.int .u64 c19) ∧
 ∃ c20 : Int, w15.cell? ((Addr.mk b10 0 none).add 2) = some (.int .i64 c20) ∧
 AL (.cells ⟨[.int .u64 c18, .int .u64 c19, .int .i64 c20]⟩ E.t_arena_wide) w15 fun b21 w22 =>
 APP E.t_arena_wide 3 24 #[.int .u64 0, .int .u64 0, .int .i64 0] s3.1 ⟨(some (Addr.mk b21 0 none)), 1, 1⟩ w22 fun s23 w24 =>
 next5 (s23, i64 (s3.2.1 + 1), ()) w24
 ) (
 JOIN (SlV × Unit) (fun J25 =>
 ∃ x28 : Int, w15.cell? (Addr.mk b10 0 none) = some (.int .u64 x28) ∧
 CND (decide ((x28 : Int) < a1)) (
 ∃ x29 : Int, w15.cell? (Addr.mk b10 0 none) = some (.int .u64 x29) ∧
 ∃ x30 : Int, w15.cell? ((Addr.mk b10 0 none).add 2) = some (.int .i64 x30) ∧
 AL (.cells ⟨[.int .u64 x29, .int .u64 a1, .int .i64 x30]⟩ E.t_arena_wide) w15 fun b31 w32 =>
 APP E.t_arena_wide 3 24 #[.int .u64 0, .int .u64 0, .int .i64 0] s3.1 ⟨(some (Addr.mk b31 0 none)), 1, 1⟩ w32 fun s33 w34 =>
 J25 (s33, ()) w34
 ) (
 J25 (s3.1, ()) w15
 )
 ) fun s26 _ w27 =>
 ∃ x35 : Int, w27.cell? ((Addr.mk b10 0 none).add 1) = some (.int .u64 x35) ∧
 CND (decide ((x35 : Int) > a2)) (
 ∃ x36 : Int, w27.cell? ((Addr.mk b10 0 none).add 1) = some (.int .u64 x36) ∧
 ∃ x37 : Int, w27.cell? ((Addr.mk b10 0 none).add 2) = some (.int .i64 x37) ∧
 AL (.cells ⟨[.int .u64 a2, .int .u64 x36, .int .i64 x37]⟩ E.t_arena_wide) w27 fun b38 w39 =>
 APP E.t_arena_wide 3 24 #[.int .u64 0, .int .u64 0, .int .i64 0] s26.1 ⟨(some (Addr.mk b38 0 none)), 1, 1⟩ w39 fun s40 w41 =>
 next5 (s40, i64 (s3.2.1 + 1), ()) w41
 ) (
 next5 (s26.1, i64 (s3.2.1 + 1), ()) w27
 )
 )
 ) (
 NC a0 fun p42 =>
 stCells (p42.add 2) 0 [.slice s3.1.base s3.1.len s3.1.cap] w4 fun w43 =>
 NC a0 fun p44 =>
 ∃ x45 : (Option Nat), w43.cell? (p44.add 3) = some (.map x45) ∧
 ∃ es46 : Array MapEntry, mapAt w43 x45 es46 ∧
 CND (decide (((u64 (((es46.size : Nat) : Int))) : Int) < (u64 (a2 - a1)))) (
 NC a0 fun p47 =>
 ∃ x48 : (Option Nat), w43.cell? (p47.add 3) = some (.map x48) ∧
 ∃ cl49, rngAt w43 x48 cl49 ∧
 AL (rngObj x48 cl49) w43 fun b50 w51 =>
 LOOP (Unit) (()) w51 fun s52 _ w53 next54 =>
 JOIN (Bool × Unit) (fun J55 =>
 NEXT b50 w53 (fun w58 =>
 J55 (false, ()) w58
 ) fun k60 v61 w59 =>
 J55 (true, ()) w59
 ) fun s56 _ w57 =>
 JOIN (Bool × Unit) (fun J62 =>
 CND (s56.1) (
 J62 (s56.1, ()) w57
 ) (
 K  w57
 )
 ) fun s63 _ w64 =>
 ENT b50 w64 fun k65 v66 S67 =>
 unInt .u64 k65 fun x68 =>
 JOIN (Bool × Unit) (fun J69 =>
 CND (decide ((x68 : Int) ≥ a1)) (
 J69 (decide ((x68 : Int) < a2), ()) w64
 ) (
 J69 (false, ()) w64
 )
 ) fun s70 _ w71 =>
 CND (s70.1) (
 NC a0 fun p72 =>
 ∃ x73 : (Option Nat), w71.cell? (p72.add 3) = some (.map x73) ∧
 MDEL .u64 x68 x73 w71 fun w74 =>
 next54 (()) w74
 ) (
 next54 (()) w71
 )
 ) (
 LOOP (Int × Unit) (a1, ()) w43 fun s75 _ w76 next77 =>
 CND (decide ((s75.1 : Int) < a2)) (
 NC a0 fun p78 =>
 ∃ x79 : (Option Nat), w76.cell? (p78.add 3) = some (.map x79) ∧
 MDEL .u64 s75.1 x79 w76 fun w80 =>
 next77 (u64 (s75.1 + 1), ()) w80
 ) (
 K  w76
 )
 )
 )

def F.arena_Map_Set (E : Env) (a0 : (Option Addr)) (a1 : Int) (a2 : Int) (a3 : Int) (K : Int → World → Prop) (w : World) : Prop :=
 AL (.cells #[.pointer a0] E.t__arena_Map) w fun b1 w2 =>
 AL (.cells #[.int .i64 a3] E.t_int) w2 fun b3 w4 =>
 JOIN (Bool × Unit) (fun J5 =>
 CND ((a2 : Int) == 0) (
 J5 (true, ()) w4
 ) (
 ∃ x8 : Int, w4.cell? (Addr.mk b3 0 none) = some (.int .i64 x8) ∧
 J5 (decide ((x8 : Int) < 0), ()) w4
 )
 ) fun s6 _ w7 =>
 CND (s6.1) (
 K 1 w7
 ) (
 JOIN (Bool × Unit) (fun J9 =>
 CND (decide ((a1 : Int) ≥ 34359738368)) (
 J9 (true, ()) w7
 ) (
 J9 (decide ((a2 : Int) > (u64 (34359738368 - a1))), ()) w7
 )
 ) fun s10 _ w11 =>
 CND (s10.1) (
 K 10 w11
 ) (
 512 ≠ (0 : Int) ∧
 512 ≠ (0 : Int) ∧
 LET (u64 (Int.tdiv (u64 ((u64 ((u64 (a1 + a2)) + 512)) - 1)) 512) : Int) fun last_12 =>
 ∃ x13 : (Option Addr), w11.cell? (Addr.mk b1 0 none) = some (.pointer x13) ∧
 NC x13 fun p14 =>
 F.stretch_Set_Count E (some p14) (u64 (Int.tdiv a1 512)) last_12 (fun r15 w16 =>
 CND ((r15 : Int) != (u64 (last_12 - (u64 (Int.tdiv a1 512))))) (
 K 10 w16
 ) (
 512 ≠ (0 : Int) ∧
 512 ≠ (0 : Int) ∧
 LET (u64 (Int.tdiv (u64 ((u64 (a1 + 512)) - 1)) 512) : Int) fun from_17 =>
 LET (u64 (Int.tdiv (u64 (a1 + a2)) 512) : Int) fun to_18 =>
 JOIN (Unit) (fun J19 =>
 CND (decide ((from_17 : Int) < to_18)) (
 ∃ x22 : (Option Addr), w16.cell? (Addr.mk b1 0 none) = some (.pointer x22) ∧
 F.arena_Map_cut E x22 from_17 to_18 (fun  w23 =>
 ∃ x24 : Int, w23.cell? (Addr.mk b3 0 none) = some (.int .i64 x24) ∧
 CND (decide ((x24 : Int) > 0)) (
 ∃ x25 : (Option Addr), w23.drew.cell? (Addr.mk b1 0 none) = some (.pointer x25) ∧
 ∃ x26 : (Option Addr), w23.drew.cell? (Addr.mk b1 0 none) = some (.pointer x26) ∧
 NC x26 fun p27 =>
 ∃ x28 : SlV, w23.drew.cell? (p27.add 2) = some (.slice x28.base x28.len x28.cap) ∧
 ∃ x29 : Int, w23.drew.cell? (Addr.mk b3 0 none) = some (.int .i64 x29) ∧
 AL (.cells ⟨[.int .u64 from_17, .int .u64 to_18, .int .i64 x29]⟩ E.t_arena_wide) w23.drew fun b30 w31 =>
 w31.cell? (Addr.mk b3 0 none) = some (.int .i64 x29) ∧
 w31.cell? (p27.add 2) = some (.slice x28.base x28.len x28.cap) ∧
 w31.cell? (Addr.mk b1 0 none) = some (.pointer x26) ∧
 w31.cell? (Addr.mk b1 0 none) = some (.pointer x25) ∧
 APP E.t_arena_wide 3 24 #[.int .u64 0, .int .u64 0, .int .i64 0] x28 ⟨(some (Addr.mk b30 0 none)), 1, 1⟩ w31 fun s32 w33 =>
 w33.cell? (Addr.mk b3 0 none) = some (.int .i64 x29) ∧
 w33.cell? (Addr.mk b1 0 none) = some (.pointer x26) ∧
 w33.cell? (Addr.mk b1 0 none) = some (.pointer x25) ∧
 NC x25 fun p34 =>
 stCells (p34.add 2) 0 [.slice s32.base s32.len s32.cap] w33 fun w35 =>
 J19 (()) w35
 ) (
 J19 (()) w23
 )
 ) w16
 ) (
 J19 (()) w16
 )
 ) fun s20 _ w21 =>
 CND (decide ((from_17 : Int) > to_18)) (
 CAL E.call E.f_arena_Map_Set_1 #[.int .u64 a1, .int .u64 (u64 (a1 + a2)), .pointer (some (Addr.mk b3 0 none)), .pointer (some (Addr.mk b1 0 none))] w21 fun r36 w37 =>
 r36 = .tuple ⟨[]⟩ ∧
 K 0 w37
 ) (
 CAL E.call E.f_arena_Map_Set_1 #[.int .u64 a1, .int .u64 (u64 (from_17 * 512)), .pointer (some (Addr.mk b3 0 none)), .pointer (some (Addr.mk b1 0 none))] w21 fun r38 w39 =>
 r38 = .tuple ⟨[]⟩ ∧
 CAL E.call E.f_arena_Map_Set_1 #[.int .u64 (u64 (to_18 * 512)), .int .u64 (u64 (a1 + a2)), .pointer (some (Addr.mk b3 0 none)), .pointer (some (Addr.mk b1 0 none))] w39 fun r40 w41 =>
 r40 = .tuple ⟨[]⟩ ∧
 K 0 w41
 )
 )
 ) w11
 )
 )

def F.arena_Map_whole (E : Env) (a0 : (Option Addr)) (a1 : Int) (K : Int → World → Prop) (w : World) : Prop :=
 NC a0 fun p1 =>
 ∃ x2 : SlV, w.cell? (p1.add 2) = some (.slice x2.base x2.len x2.cap) ∧
 LOOP (Int × Unit) (0, ()) w fun s3 _ w4 next5 =>
 CND (decide ((s3.1 : Int) < ((x2.len : Nat) : Int))) (
 NC x2.base fun p6 =>
 ((0 : Int) ≤ s3.1 ∧ (s3.1 : Int) < (x2.len : Nat)) ∧
 ∃ c7 : Int, w4.cell? ((p6.add (Int.toNat s3.1 * 3)).add 0) = some (.int .u64 c7) ∧
 ∃ c8 : Int, w4.cell? ((p6.add (Int.toNat s3.1 * 3)).add 1) = some (.int .u64 c8) ∧
 ∃ c9 : Int, w4.cell? ((p6.add (Int.toNat s3.1 * 3)).add 2) = some (.int .i64 c9) ∧
 AL (.cells #[.int .u64 0, .int .u64 0, .int .i64 0] E.t_arena_wide) w4 fun b10 w11 =>
 stCells (Addr.mk b10 0 none) 0 [.int .u64 c7, .int .u64 c8, .int .i64 c9] w11 fun w12 =>
 JOIN (Bool × Unit) (fun J13 =>
 ∃ x16 : Int, w12.cell? (Addr.mk b10 0 none) = some (.int .u64 x16) ∧
 CND (decide ((a1 : Int) ≥ x16)) (
 ∃ x17 : Int, w12.cell? ((Addr.mk b10 0 none).add 1) = some (.int .u64 x17) ∧
 J13 (decide ((a1 : Int) < x17), ()) w12
 ) (
 J13 (false, ()) w12
 )
 ) fun s14 _ w15 =>
 CND (s14.1) (
 ∃ x18 : Int, w15.cell? ((Addr.mk b10 0 none).add 2) = some (.int .i64 x18) ∧
 K x18 w15
 ) (
 next5 (i64 (s3.1 + 1), ()) w15
 )
 ) (
 K 0 w4
 )

def F.arena_Map_At (E : Env) (a0 : (Option Addr)) (a1 : Int) (K : Int → World → Prop) (w : World) : Prop :=
 8192 ≠ (0 : Int) ∧
 NC a0 fun p1 =>
 ∃ x2 : (Option Nat), w.cell? (p1.add 3) = some (.map x2) ∧
 512 ≠ (0 : Int) ∧
 LKP .u64 (u64 (Int.tdiv (u64 (Int.tdiv a1 8192)) 512)) x2 w (.pointer none) fun v3 ok4 es5 =>
 ∃ x6 : (Option Addr), v3 = .pointer x6 ∧
 CND (!x6.isNone) (
 512 ≠ (0 : Int) ∧
 NC x6 fun p7 =>
 ((0 : Int) ≤ (Int.tmod (u64 (Int.tdiv a1 8192)) 512) ∧ ((Int.tmod (u64 (Int.tdiv a1 8192)) 512) : Int) < (512 : Nat)) ∧
 ∃ x8 : Int, w.cell? (p7.add (Int.toNat (Int.tmod (u64 (Int.tdiv a1 8192)) 512) * 1)) = some (.int .i64 x8) ∧
 K x8 w
 ) (
 512 ≠ (0 : Int) ∧
 F.arena_Map_whole E a0 (u64 (Int.tdiv (u64 (Int.tdiv a1 8192)) 512)) (fun r9 w10 =>
 K r9 w10
 ) w
 )

def F.arena_Map_Has (E : Env) (a0 : (Option Addr)) (a1 : Int) (K : Bool → World → Prop) (w : World) : Prop :=
 NC a0 fun p1 =>
 4194304 ≠ (0 : Int) ∧
 F.stretch_Set_Has E (some p1) (u64 (Int.tdiv a1 4194304)) (fun r2 w3 =>
 K r2 w3
 ) w

def F.mallowlaw11_awake (E : Env)  (K : Bool → World → Prop) (w : World) : Prop :=
 F.arena_New E  (fun r1 w2 =>
 CND (r1.isNone) (
 K false w2
 ) (
 F.arena_Map_Add E r1 1 (fun r3 w4 =>
 CND ((r3 : Int) == 0) (
 F.arena_Map_Set E r1 512 3 7 (fun r5 w6 =>
 CND ((r5 : Int) == 0) (
 F.arena_Map_At E r1 4194309 (fun r7 w8 =>
 CND ((r7 : Int) == 7) (
 F.arena_Map_At E r1 4218880 (fun r9 w10 =>
 CND ((r9 : Int) == 0) (
 F.arena_Map_Has E r1 4194304 (fun r11 w12 =>
 CND (r11) (
 F.arena_Map_Has E r1 0 (fun r13 w14 =>
 K (!r13) w14
 ) w12
 ) (
 K false w12
 )
 ) w10
 ) (
 K false w10
 )
 ) w8
 ) (
 K false w8
 )
 ) w6
 ) (
 K false w6
 )
 ) w4
 ) (
 K false w4
 )
 ) w2
 )
 ) w

def F.mallowlaw11_ArenaRising (E : Env) (a0 : SlV) (a1 : Int) (K : Bool → World → Prop) (w : World) : Prop :=
 AL (.cells #[.int .i64 a1] E.t_int) w fun b1 w2 =>
 AL (.cells #[.bool false] E.t_bool) w2 fun b3 w4 =>
 CND (decide ((((a0.len : Nat) : Int) : Int) > 100)) (
 stCells (Addr.mk b3 0 none) 0 [.bool true] w4 fun w5 =>
 ∃ x6 : Bool, w5.cell? (Addr.mk b3 0 none) = some (.bool x6) ∧
 K x6 w5
 ) (
 F.arena_New E  (fun r7 w8 =>
 AL (.cells #[.pointer none] E.t__arena_Map) w8 fun b9 w10 =>
 stCells (Addr.mk b9 0 none) 0 [.pointer r7] w10 fun w11 =>
 ∃ x12 : (Option Addr), w11.cell? (Addr.mk b9 0 none) = some (.pointer x12) ∧
 CND (x12.isNone) (
 stCells (Addr.mk b3 0 none) 0 [.bool false] w11 fun w13 =>
 ∃ x14 : Bool, w13.cell? (Addr.mk b3 0 none) = some (.bool x14) ∧
 K x14 w13
 ) (
 AL (.map #[] 0) w11 fun b15 w16 =>
 AL (.cells #[.map none] E.t_map_uint64_bool) w16 fun b17 w18 =>
 stCells (Addr.mk b17 0 none) 0 [.map (some b15)] w18 fun w19 =>
 LOOP (Int × Unit) (0, ()) w19 fun s20 _ w21 next22 =>
 CND (decide ((s20.1 : Int) < ((a0.len : Nat) : Int))) (
 ∃ x23 : (Option Addr), w21.drew.cell? (Addr.mk b9 0 none) = some (.pointer x23) ∧
 NC a0.base fun p24 =>
 ((0 : Int) ≤ s20.1 ∧ (s20.1 : Int) < (a0.len : Nat)) ∧
 ∃ x25 : Int, w21.drew.cell? (p24.add (Int.toNat s20.1 * 1)) = some (.int .u64 x25) ∧
 F.arena_Map_Add E x23 x25 (fun r26 w27 =>
 JOIN (Int × Unit) (fun J28 =>
 NC a0.base fun p31 =>
 ((0 : Int) ≤ s20.1 ∧ (s20.1 : Int) < (a0.len : Nat)) ∧
 ∃ x32 : Int, w27.cell? (p31.add (Int.toNat s20.1 * 1)) = some (.int .u64 x32) ∧
 CND (decide ((x32 : Int) ≥ 67108864)) (
 J28 (1, ()) w27
 ) (
 ∃ x33 : (Option Nat), w27.drew.cell? (Addr.mk b17 0 none) = some (.map x33) ∧
 NC a0.base fun p34 =>
 ((0 : Int) ≤ s20.1 ∧ (s20.1 : Int) < (a0.len : Nat)) ∧
 ∃ x35 : Int, w27.drew.cell? (p34.add (Int.toNat s20.1 * 1)) = some (.int .u64 x35) ∧
 LKP .u64 x35 x33 w27.drew (.bool false) fun v36 ok37 es38 =>
 ∃ x39 : Bool, v36 = .bool x39 ∧
 CND (x39) (
 J28 (34, ()) w27.drew
 ) (
 J28 (0, ()) w27.drew
 )
 )
 ) fun s29 _ w30 =>
 CND ((r26 : Int) != s29.1) (
 stCells (Addr.mk b3 0 none) 0 [.bool false] w30 fun w40 =>
 ∃ x41 : Bool, w40.cell? (Addr.mk b3 0 none) = some (.bool x41) ∧
 K x41 w40
 ) (
 CND ((r26 : Int) == 0) (
 ∃ x42 : (Option Nat), w30.drew.cell? (Addr.mk b17 0 none) = some (.map x42) ∧
 NC a0.base fun p43 =>
 ((0 : Int) ≤ s20.1 ∧ (s20.1 : Int) < (a0.len : Nat)) ∧
 ∃ x44 : Int, w30.drew.cell? (p43.add (Int.toNat s20.1 * 1)) = some (.int .u64 x44) ∧
 MUPD .u64 x44 (.bool true) x42 w30.drew fun w45 =>
 next22 (i64 (s20.1 + 1), ()) w45
 ) (
 next22 (i64 (s20.1 + 1), ()) w30
 )
 )
 ) w21.drew
 ) (
 AL (.cells #[.int .i64 0] E.t_int) w21 fun b46 w47 =>
 AL (.cells #[.int .u64 0] E.t_uint64) w47 fun b48 w49 =>
 stCells (Addr.mk b46 0 none) 0 [.int .i64 0] w49 fun w50 =>
 stCells (Addr.mk b48 0 none) 0 [.int .u64 0] w50 fun w51 =>
 ∃ x52 : (Option Addr), w51.cell? (Addr.mk b9 0 none) = some (.pointer x52) ∧
 F.arena_Map_Chunks E x52 (fun r53 w54 =>
 RNGF E.seq (r53) w54 (fun x55 w56 next57 ret58 brk59 =>
 JOIN (Bool × Unit) (fun J60 =>
 ∃ x63 : (Option Nat), w56.cell? (Addr.mk b17 0 none) = some (.map x63) ∧
 LKP .u64 x55 x63 w56 (.bool false) fun v64 ok65 es66 =>
 ∃ x67 : Bool, v64 = .bool x67 ∧
 CND (!x67) (
 J60 (true, ()) w56
 ) (
 ∃ x68 : Int, w56.cell? (Addr.mk b46 0 none) = some (.int .i64 x68) ∧
 CND (decide ((x68 : Int) > 0)) (
 ∃ x69 : Int, w56.cell? (Addr.mk b48 0 none) = some (.int .u64 x69) ∧
 CND (decide ((x55 : Int) ≤ x69)) (
 J60 (true, ()) w56
 ) (
 ∃ x70 : (Option Addr), w56.cell? (Addr.mk b9 0 none) = some (.pointer x70) ∧
 F.arena_Map_Has E x70 (u64 (x55 * 4194304)) (fun r71 w72 =>
 CND (!r71) (
 J60 (true, ()) w72
 ) (
 ∃ x73 : (Option Addr), w72.cell? (Addr.mk b9 0 none) = some (.pointer x73) ∧
 F.arena_Map_Has E x73 (u64 ((u64 ((u64 (x55 * 4194304)) + 4194304)) - 1)) (fun r74 w75 =>
 J60 (!r74, ()) w75
 ) w72
 )
 ) w56
 )
 ) (
 ∃ x76 : (Option Addr), w56.cell? (Addr.mk b9 0 none) = some (.pointer x76) ∧
 F.arena_Map_Has E x76 (u64 (x55 * 4194304)) (fun r77 w78 =>
 CND (!r77) (
 J60 (true, ()) w78
 ) (
 ∃ x79 : (Option Addr), w78.cell? (Addr.mk b9 0 none) = some (.pointer x79) ∧
 F.arena_Map_Has E x79 (u64 ((u64 ((u64 (x55 * 4194304)) + 4194304)) - 1)) (fun r80 w81 =>
 J60 (!r80, ()) w81
 ) w78
 )
 ) w56
 )
 )
 ) fun s61 _ w62 =>
 CND (s61.1) (
 stCells (Addr.mk b3 0 none) 0 [.bool false] w62 fun w82 =>
 ret58 w82
 ) (
 stCells (Addr.mk b48 0 none) 0 [.int .u64 x55] w62 fun w83 =>
 ∃ x84 : Int, w83.cell? (Addr.mk b46 0 none) = some (.int .i64 x84) ∧
 stCells (Addr.mk b46 0 none) 0 [.int .i64 (i64 (x84 + 1))] w83 fun w85 =>
 ∃ x86 : Int, w85.cell? (Addr.mk b46 0 none) = some (.int .i64 x86) ∧
 ∃ x87 : Int, w85.cell? (Addr.mk b1 0 none) = some (.int .i64 x87) ∧
 CND ((x86 : Int) == x87) (
 brk59 2 w85
 ) (
 next57 w85
 )
 )
 ) (fun D88 w89 =>
 ∃ x90 : Int, w89.cell? (Addr.mk b46 0 none) = some (.int .i64 x90) ∧
 ∃ x91 : Int, w89.cell? (Addr.mk b1 0 none) = some (.int .i64 x91) ∧
 CND ((x90 : Int) == x91) (
 F.mallowlaw11_awake E  (fun r92 w93 =>
 stCells (Addr.mk b3 0 none) 0 [.bool r92] w93 fun w94 =>
 COL D88 w94 fun w95 =>
 ∃ x96 : Bool, w95.cell? (Addr.mk b3 0 none) = some (.bool x96) ∧
 K x96 w95
 ) w89
 ) (
 ∃ x97 : Int, w89.cell? (Addr.mk b46 0 none) = some (.int .i64 x97) ∧
 ∃ x98 : (Option Nat), w89.cell? (Addr.mk b17 0 none) = some (.map x98) ∧
 ∃ es99 : Array MapEntry, mapAt w89 x98 es99 ∧
 CND ((x97 : Int) == ((es99.size : Nat) : Int)) (
 F.mallowlaw11_awake E  (fun r100 w101 =>
 stCells (Addr.mk b3 0 none) 0 [.bool r100] w101 fun w102 =>
 COL D88 w102 fun w103 =>
 ∃ x104 : Bool, w103.cell? (Addr.mk b3 0 none) = some (.bool x104) ∧
 K x104 w103
 ) w89
 ) (
 stCells (Addr.mk b3 0 none) 0 [.bool false] w89 fun w105 =>
 COL D88 w105 fun w106 =>
 ∃ x107 : Bool, w106.cell? (Addr.mk b3 0 none) = some (.bool x107) ∧
 K x107 w106
 )
 )
 ) (fun D108 w109 =>
 COL D108 w109 fun w110 =>
 ∃ x111 : Bool, w110.cell? (Addr.mk b3 0 none) = some (.bool x111) ∧
 K x111 w110
 ) [(2, fun D112 w113 =>
 ∃ x114 : Int, w113.cell? (Addr.mk b46 0 none) = some (.int .i64 x114) ∧
 ∃ x115 : Int, w113.cell? (Addr.mk b1 0 none) = some (.int .i64 x115) ∧
 CND ((x114 : Int) == x115) (
 F.mallowlaw11_awake E  (fun r116 w117 =>
 stCells (Addr.mk b3 0 none) 0 [.bool r116] w117 fun w118 =>
 COL D112 w118 fun w119 =>
 ∃ x120 : Bool, w119.cell? (Addr.mk b3 0 none) = some (.bool x120) ∧
 K x120 w119
 ) w113
 ) (
 ∃ x121 : Int, w113.cell? (Addr.mk b46 0 none) = some (.int .i64 x121) ∧
 ∃ x122 : (Option Nat), w113.cell? (Addr.mk b17 0 none) = some (.map x122) ∧
 ∃ es123 : Array MapEntry, mapAt w113 x122 es123 ∧
 CND ((x121 : Int) == ((es123.size : Nat) : Int)) (
 F.mallowlaw11_awake E  (fun r124 w125 =>
 stCells (Addr.mk b3 0 none) 0 [.bool r124] w125 fun w126 =>
 COL D112 w126 fun w127 =>
 ∃ x128 : Bool, w127.cell? (Addr.mk b3 0 none) = some (.bool x128) ∧
 K x128 w127
 ) w113
 ) (
 stCells (Addr.mk b3 0 none) 0 [.bool false] w113 fun w129 =>
 COL D112 w129 fun w130 =>
 ∃ x131 : Bool, w130.cell? (Addr.mk b3 0 none) = some (.bool x131) ∧
 K x131 w130
 )
 )
 )]
 ) w51
 )
 )
 ) w4
 )

def F.arena_rising (E : Env) (a0 : SlV) (K : Value → World → Prop) (w : World) : Prop :=
 AL (.cells #[.slice a0.base a0.len a0.cap] E.t___stretch_One) w fun b1 w2 =>
 K (.func (.func E.f_arena_rising_1) #[] #[.pointer (some (Addr.mk b1 0 none))]) w2

def F.arena_Map_Chunks_1 (E : Env) (a0 : Value) (a1 : (Option Addr)) (K : World → Prop) (w : World) : Prop :=
 AL (.cells (Value.cells a0) E.t_func_uint64_bool) w fun b1 w2 =>
 NC a1 fun p3 =>
 ∃ x4 : SlV, w2.cell? p3 = some (.slice x4.base x4.len x4.cap) ∧
 F.arena_rising E x4 (fun r5 w6 =>
 RNGF E.seq (r5) w6 (fun x7 w8 next9 ret10 brk11 =>
 ∃ x12 : Value, w8.cell? (Addr.mk b1 0 none) = some (x12) ∧
 DYNY E.call E.yld x12 #[.int .u64 x7] w8 fun r13 w14 =>
 ∃ x15 : Bool, r13 = .bool x15 ∧
 CND (!x15) (
 ret10 w14
 ) (
 next9 w14
 )
 ) (fun D16 w17 =>
 COL D16 w17 fun w18 =>
 K  w18
 ) (fun D19 w20 =>
 COL D19 w20 fun w21 =>
 K  w21
 ) []
 ) w2

def F.arena_rising_1 (E : Env) (a0 : Value) (a1 : (Option Addr)) (K : World → Prop) (w : World) : Prop :=
 NC a1 fun p1 =>
 ∃ x2 : SlV, w.cell? p1 = some (.slice x2.base x2.len x2.cap) ∧
 LOOP (Int × Unit) (0, ()) w fun s3 _ w4 next5 =>
 CND (decide ((s3.1 : Int) < ((x2.len : Nat) : Int))) (
 NC x2.base fun p6 =>
 ((0 : Int) ≤ s3.1 ∧ (s3.1 : Int) < (x2.len : Nat)) ∧
 ∃ c7 : Int, w4.cell? ((p6.add (Int.toNat s3.1 * 2)).add 0) = some (.int .u64 c7) ∧
 ∃ c8 : Int, w4.cell? ((p6.add (Int.toNat s3.1 * 2)).add 1) = some (.int .u64 c8) ∧
 AL (.cells #[.int .u64 0, .int .u64 0] E.t_stretch_One) w4 fun b9 w10 =>
 stCells (Addr.mk b9 0 none) 0 [.int .u64 c7, .int .u64 c8] w10 fun w11 =>
 ∃ x12 : Int, w11.cell? (Addr.mk b9 0 none) = some (.int .u64 x12) ∧
 LOOP (Int × Unit) (x12, ()) w11 fun s13 _ w14 next15 =>
 ∃ x16 : Int, w14.cell? ((Addr.mk b9 0 none).add 1) = some (.int .u64 x16) ∧
 CND (decide ((s13.1 : Int) < x16)) (
 DYNY E.call E.yld a0 #[.int .u64 s13.1] w14 fun r17 w18 =>
 ∃ x19 : Bool, r17 = .bool x19 ∧
 CND (!x19) (
 K  w18
 ) (
 next15 (u64 (s13.1 + 1), ()) w18
 )
 ) (
 next5 (i64 (s3.1 + 1), ()) w14
 )
 ) (
 K  w4
 )

def F.arena_Map_leaf (E : Env) (a0 : (Option Addr)) (a1 : Int) (K : (Option Addr) → World → Prop) (w : World) : Prop :=
 NC a0 fun p1 =>
 ∃ x2 : (Option Nat), w.cell? (p1.add 3) = some (.map x2) ∧
 LKP .u64 a1 x2 w (.pointer none) fun v3 ok4 es5 =>
 ∃ x6 : (Option Addr), v3 = .pointer x6 ∧
 CND (x6.isNone) (
 F.arena_Map_whole E a0 a1 (fun r7 w8 =>
 F.arena_Map_cut E a0 a1 (u64 (a1 + 1)) (fun  w9 =>
 AL (.cells (Array.replicate 512 (.int .i64 0)) E.t__512_int) w9 fun b10 w11 =>
 LOOP (Int × Unit) (0, ()) w11 fun s12 _ w13 next14 =>
 CND (decide ((s12.1 : Int) < 512)) (
 ((0 : Int) ≤ s12.1 ∧ (s12.1 : Int) < (512 : Nat)) ∧
 stCells ((Addr.mk b10 0 none).add (Int.toNat s12.1 * 1)) 0 [.int .i64 r7] w13 fun w15 =>
 next14 (i64 (s12.1 + 1), ()) w15
 ) (
 NC a0 fun p16 =>
 ∃ x17 : (Option Nat), w13.cell? (p16.add 3) = some (.map x17) ∧
 MUPD .u64 a1 (.pointer (some (Addr.mk b10 0 none))) x17 w13 fun w18 =>
 K (some (Addr.mk b10 0 none)) w18
 )
 ) w8
 ) w
 ) (
 K x6 w
 )

def F.arena_Map_Set_1 (E : Env) (a0 : Int) (a1 : Int) (a2 : (Option Addr)) (a3 : (Option Addr)) (K : World → Prop) (w : World) : Prop :=
 LOOP (Int × Unit) (a0, ()) w fun s1 _ w2 next3 =>
 CND (decide ((s1.1 : Int) < a1)) (
 NC a3 fun p4 =>
 ∃ x5 : (Option Addr), w2.drew.cell? p4 = some (.pointer x5) ∧
 512 ≠ (0 : Int) ∧
 512 ≠ (0 : Int) ∧
 NC a2 fun p6 =>
 ∃ x7 : Int, w2.drew.cell? p6 = some (.int .i64 x7) ∧
 F.arena_Map_leaf E x5 (u64 (Int.tdiv s1.1 512)) (fun r8 w9 =>
 w9.cell? p6 = some (.int .i64 x7) ∧
 NC r8 fun p10 =>
 ((0 : Int) ≤ (Int.tmod s1.1 512) ∧ ((Int.tmod s1.1 512) : Int) < (512 : Nat)) ∧
 stCells (p10.add (Int.toNat (Int.tmod s1.1 512) * 1)) 0 [.int .i64 x7] w9 fun w11 =>
 next3 (u64 (s1.1 + 1), ()) w11
 ) w2.drew
 ) (
 K  w2
 )

def F.stretch_Set_at_1 (E : Env) (a0 : Int) (a1 : (Option Addr)) (a2 : (Option Addr)) (K : Bool → World → Prop) (w : World) : Prop :=
 NC a1 fun p1 =>
 ∃ x2 : (Option Addr), w.drew.cell? p1 = some (.pointer x2) ∧
 NC x2 fun p3 =>
 ∃ x4 : SlV, w.drew.cell? p3 = some (.slice x4.base x4.len x4.cap) ∧
 NC x4.base fun p5 =>
 ((0 : Int) ≤ a0 ∧ (a0 : Int) < (x4.len : Nat)) ∧
 ∃ x6 : Int, w.drew.cell? ((p5.add (Int.toNat a0 * 2)).add 1) = some (.int .u64 x6) ∧
 NC a2 fun p7 =>
 ∃ x8 : Int, w.drew.cell? p7 = some (.int .u64 x8) ∧
 K (decide ((x6 : Int) > x8)) w.drew

end Go.Sh

