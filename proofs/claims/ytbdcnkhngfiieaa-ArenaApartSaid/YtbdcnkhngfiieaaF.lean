/- The shallow forms of the functions, printed by a program. No further condition. -/
import Derived.Test.YtbdcnkhngfiieaaM
set_option linter.all false
set_option maxRecDepth 100000
namespace Go.Sh

structure Env where
 call : Calling
 yld : Yields
 seq : Seqs
 t_arena_Map : Nat
 t_stretch_One : Nat
 t___stretch_One : Nat
 t__stretch_Set : Nat
 t_uint64 : Nat
 t_arena_wide : Nat
 t__arena_Map : Nat
 t_int : Nat
 t__mallowlaw11_Model : Nat
 t_mallowlaw11_Act : Nat
 t_bool : Nat
 t_mallowlaw11_Model : Nat
 t_map_uint64_bool : Nat
 t_func_uint64_bool : Nat
 t__512_int : Nat
 f_arena_Map_Chunks_1 : Nat
 f_stretch_Set_at_1 : Nat
 f_arena_Map_Set_1 : Nat
 f_arena_rising_1 : Nat

def F.mallowlaw11_heavy (E : Env) (a0 : SlV) (K : Bool → World → Prop) (w : World) : Prop :=
 LOOP (Int × Int × Unit) (0, 0, ()) w fun s1 _ w2 next3 =>
 CND (decide ((s1.2.1 : Int) < ((a0.len : Nat) : Int))) (
 JOIN (Int × Unit) (fun J4 =>
 JOIN (Bool × Unit) (fun J7 =>
 NC a0.base fun p10 =>
 ((0 : Int) ≤ s1.2.1 ∧ (s1.2.1 : Int) < (a0.len : Nat)) ∧
 ∃ x11 : Int, w2.cell? (p10.add (Int.toNat s1.2.1 * 4)) = some (.int .i64 x11) ∧
 CND ((x11 : Int) == 2) (
 NC a0.base fun p12 =>
 ((0 : Int) ≤ s1.2.1 ∧ (s1.2.1 : Int) < (a0.len : Nat)) ∧
 ∃ x13 : Int, w2.cell? ((p12.add (Int.toNat s1.2.1 * 4)).add 2) = some (.int .u64 x13) ∧
 J7 (decide ((x13 : Int) < 1099511627776), ()) w2
 ) (
 J7 (false, ()) w2
 )
 ) fun s8 _ w9 =>
 CND (s8.1) (
 NC a0.base fun p14 =>
 ((0 : Int) ≤ s1.2.1 ∧ (s1.2.1 : Int) < (a0.len : Nat)) ∧
 ∃ x15 : Int, w9.cell? ((p14.add (Int.toNat s1.2.1 * 4)).add 2) = some (.int .u64 x15) ∧
 J4 (u64 (s1.1 + x15), ()) w9
 ) (
 J4 (s1.1, ()) w9
 )
 ) fun s5 _ w6 =>
 CND (decide ((s5.1 : Int) > 20000)) (
 K true w6
 ) (
 next3 (s5.1, i64 (s1.2.1 + 1), ()) w6
 )
 ) (
 K (decide ((((a0.len : Nat) : Int) : Int) > 200)) w2
 )

def F.arena_New (E : Env)  (K : (Option Addr) → World → Prop) (w : World) : Prop :=
 AL (.map #[] 0) w fun b1 w2 =>
 AL (.cells #[.slice none 0 0, .int .u64 0, .slice none 0 0, .map (some b1)] E.t_arena_Map) w2 fun b3 w4 =>
 K (some (Addr.mk b3 0 none)) w4

def F.stretch_Set_All (E : Env) (a0 : (Option Addr)) (K : SlV → World → Prop) (w : World) : Prop :=
 NC a0 fun p1 =>
 ∃ x2 : SlV, w.cell? p1 = some (.slice x2.base x2.len x2.cap) ∧
 K x2 w

def F.arena_Map_Chunks (E : Env) (a0 : (Option Addr)) (K : Value → World → Prop) (w : World) : Prop :=
 AL (.cells ⟨[]⟩ E.t_stretch_One) w fun b1 w2 =>
 NC a0 fun p3 =>
 F.stretch_Set_All E (some p3) (fun r4 w5 =>
 APP E.t_stretch_One 2 16 #[.int .u64 0, .int .u64 0] ⟨(some (Addr.mk b1 0 none)), 0, 0⟩ r4 w5 fun s6 w7 =>
 AL (.cells #[.slice none 0 0] E.t___stretch_One) w7 fun b8 w9 =>
 stCells (Addr.mk b8 0 none) 0 [.slice s6.base s6.len s6.cap] w9 fun w10 =>
 K (.func (.func E.f_arena_Map_Chunks_1) #[] #[.pointer (some (Addr.mk b8 0 none))]) w10
 ) w2

def F.sort_Search (E : Env) (a0 : Int) (a1 : Value) (K : Int → World → Prop) (w : World) : Prop :=
 LOOP (Int × Int × Unit) (0, a0, ()) w fun s1 _ w2 next3 =>
 CND (decide ((s1.1 : Int) < s1.2.1)) (
 (0 : Int) ≤ 1 ∧
 LET (i64 (Int.fdiv (u64 (i64 (s1.1 + s1.2.1))) (2 ^ (min (Int.toNat 1) (IntKind.bits .u64)))) : Int) fun h_4 =>
 DYN E.call a1 #[.int .i64 h_4] w2 fun r5 w6 =>
 ∃ x7 : Bool, r5 = .bool x7 ∧
 CND (!x7) (
 next3 (i64 (h_4 + 1), s1.2.1, ()) w6
 ) (
 next3 (s1.1, h_4, ()) w6
 )
 ) (
 K s1.1 w2
 )

def F.stretch_Set_at (E : Env) (a0 : (Option Addr)) (a1 : Int) (K : Int → World → Prop) (w : World) : Prop :=
 AL (.cells #[.pointer a0] E.t__stretch_Set) w fun b1 w2 =>
 AL (.cells #[.int .u64 a1] E.t_uint64) w2 fun b3 w4 =>
 ∃ x5 : (Option Addr), w4.cell? (Addr.mk b1 0 none) = some (.pointer x5) ∧
 NC x5 fun p6 =>
 ∃ x7 : SlV, w4.cell? p6 = some (.slice x7.base x7.len x7.cap) ∧
 F.sort_Search E ((x7.len : Nat) : Int) (.func (.func E.f_stretch_Set_at_1) #[] #[.pointer (some (Addr.mk b1 0 none)), .pointer (some (Addr.mk b3 0 none))]) (fun r8 w9 =>
 K r8 w9
 ) w4

def F.stretch_Set_Has (E : Env) (a0 : (Option Addr)) (a1 : Int) (K : Bool → World → Prop) (w : World) : Prop :=
 F.stretch_Set_at E a0 a1 (fun r1 w2 =>
 NC a0 fun p3 =>
 ∃ x4 : SlV, w2.cell? p3 = some (.slice x4.base x4.len x4.cap) ∧
 CND (decide ((r1 : Int) < ((x4.len : Nat) : Int))) (
 NC a0 fun p5 =>
 ∃ x6 : SlV, w2.cell? p5 = some (.slice x6.base x6.len x6.cap) ∧
 NC x6.base fun p7 =>
 ((0 : Int) ≤ r1 ∧ (r1 : Int) < (x6.len : Nat)) ∧
 ∃ x8 : Int, w2.cell? (p7.add (Int.toNat r1 * 2)) = some (.int .u64 x8) ∧
 K (decide ((x8 : Int) ≤ a1)) w2
 ) (
 K false w2
 )
 ) w

def F.stretch_Set_Count (E : Env) (a0 : (Option Addr)) (a1 : Int) (a2 : Int) (K : Int → World → Prop) (w : World) : Prop :=
 F.stretch_Set_at E a0 a1 (fun r1 w2 =>
 LOOP (Int × Int × Unit) (0, r1, ()) w2 fun s3 _ w4 next5 =>
 NC a0 fun p6 =>
 ∃ x7 : SlV, w4.cell? p6 = some (.slice x7.base x7.len x7.cap) ∧
 CND (decide ((s3.2.1 : Int) < ((x7.len : Nat) : Int))) (
 NC a0 fun p8 =>
 ∃ x9 : SlV, w4.cell? p8 = some (.slice x9.base x9.len x9.cap) ∧
 NC x9.base fun p10 =>
 ((0 : Int) ≤ s3.2.1 ∧ (s3.2.1 : Int) < (x9.len : Nat)) ∧
 ∃ x11 : Int, w4.cell? (p10.add (Int.toNat s3.2.1 * 2)) = some (.int .u64 x11) ∧
 CND (decide ((x11 : Int) < a2)) (
 NC a0 fun p12 =>
 ∃ x13 : SlV, w4.drew.cell? p12 = some (.slice x13.base x13.len x13.cap) ∧
 NC x13.base fun p14 =>
 ((0 : Int) ≤ s3.2.1 ∧ (s3.2.1 : Int) < (x13.len : Nat)) ∧
 ∃ x15 : Int, w4.drew.cell? ((p14.add (Int.toNat s3.2.1 * 2)).add 1) = some (.int .u64 x15) ∧
 NC a0 fun p16 =>
 ∃ x17 : SlV, w4.drew.cell? p16 = some (.slice x17.base x17.len x17.cap) ∧
 NC x17.base fun p18 =>
 ((0 : Int) ≤ s3.2.1 ∧ (s3.2.1 : Int) < (x17.len : Nat)) ∧
 ∃ x19 : Int, w4.drew.cell? (p18.add (Int.toNat s3.2.1 * 2)) = some (.int .u64 x19) ∧
 LET (u64 (s3.1 + (u64 ((minI x15 a2) - (maxI x19 a1)))) : Int) fun n_20 =>
 next5 (n_20, i64 (s3.2.1 + 1), ()) w4.drew
 ) (
 K s3.1 w4
 )
 ) (
 K s3.1 w4
 )
 ) w

def F.stretch_Set_Cut (E : Env) (a0 : (Option Addr)) (a1 : Int) (a2 : Int) (K : World → Prop) (w : World) : Prop :=
 CND (decide ((a1 : Int) ≥ a2)) (
 K  w
 ) (
 NC a0 fun p1 =>
 ∃ x2 : Int, w.drew.cell? (p1.add 1) = some (.int .u64 x2) ∧
 F.stretch_Set_Count E a0 a1 a2 (fun r3 w4 =>
 w4.cell? (p1.add 1) = some (.int .u64 x2) ∧
 NC a0 fun p5 =>
 stCells (p5.add 1) 0 [.int .u64 (u64 (x2 - r3))] w4 fun w6 =>
 F.stretch_Set_at E a0 a1 (fun r7 w8 =>
 JOIN (Int × SlV × Unit) (fun J9 =>
 LOOP (Int × SlV × Unit) (r7, ⟨none, 0, 0⟩, ()) w8 fun s12 _ w13 next14 =>
 NC a0 fun p15 =>
 ∃ x16 : SlV, w13.cell? p15 = some (.slice x16.base x16.len x16.cap) ∧
 CND (decide ((s12.1 : Int) < ((x16.len : Nat) : Int))) (
 NC a0 fun p17 =>
 ∃ x18 : SlV, w13.cell? p17 = some (.slice x18.base x18.len x18.cap) ∧
 NC x18.base fun p19 =>
 ((0 : Int) ≤ s12.1 ∧ (s12.1 : Int) < (x18.len : Nat)) ∧
 ∃ x20 : Int, w13.cell? (p19.add (Int.toNat s12.1 * 2)) = some (.int .u64 x20) ∧
 CND (decide ((x20 : Int) < a2)) (
 NC a0 fun p21 =>
 ∃ x22 : SlV, w13.cell? p21 = some (.slice x22.base x22.len x22.cap) ∧
 NC x22.base fun p23 =>
 ((0 : Int) ≤ s12.1 ∧ (s12.1 : Int) < (x22.len : Nat)) ∧
 ∃ c24 : Int, w13.cell? ((p23.add (Int.toNat s12.1 * 2)).add 0) = some (.int .u64 c24) ∧
 ∃ c25 : Int, w13.cell? ((p23.add (Int.toNat s12.1 * 2)).add 1) = some (.int .u64 c25) ∧
 AL (.cells #[.int .u64 0, .int .u64 0] E.t_stretch_One) w13 fun b26 w27 =>
 stCells (Addr.mk b26 0 none) 0 [.int .u64 c24, .int .u64 c25] w27 fun w28 =>
 JOIN (SlV × Unit) (fun J29 =>
 ∃ x32 : Int, w28.cell? (Addr.mk b26 0 none) = some (.int .u64 x32) ∧
 CND (decide ((x32 : Int) < a1)) (
 ∃ x33 : Int, w28.cell? (Addr.mk b26 0 none) = some (.int .u64 x33) ∧
 AL (.cells ⟨[.int .u64 x33, .int .u64 a1]⟩ E.t_stretch_One) w28 fun b34 w35 =>
 APP E.t_stretch_One 2 16 #[.int .u64 0, .int .u64 0] s12.2.1 ⟨(some (Addr.mk b34 0 none)), 1, 1⟩ w35 fun s36 w37 =>
 J29 (s36, ()) w37
 ) (
 J29 (s12.2.1, ()) w28
 )
 ) fun s30 _ w31 =>
 ∃ x38 : Int, w31.cell? ((Addr.mk b26 0 none).add 1) = some (.int .u64 x38) ∧
 CND (decide ((x38 : Int) > a2)) (
 ∃ x39 : Int, w31.cell? ((Addr.mk b26 0 none).add 1) = some (.int .u64 x39) ∧
 AL (.cells ⟨[.int .u64 a2, .int .u64 x39]⟩ E.t_stretch_One) w31 fun b40 w41 =>
 APP E.t_stretch_One 2 16 #[.int .u64 0, .int .u64 0] s30.1 ⟨(some (Addr.mk b40 0 none)), 1, 1⟩ w41 fun s42 w43 =>
 next14 (i64 (s12.1 + 1), s42, ()) w43
 ) (
 next14 (i64 (s12.1 + 1), s30.1, ()) w31
 )
 ) (
 J9 (s12.1, s12.2.1, ()) w13
 )
 ) (
 J9 (s12.1, s12.2.1, ()) w13
 )
 ) fun s10 _ w11 =>
 NC a0 fun p44 =>
 ∃ x45 : SlV, w11.drew.cell? p44 = some (.slice x45.base x45.len x45.cap) ∧
 ((0 : Int) ≤ r7 ∧ (r7 : Int) ≤ (x45.cap : Nat)) ∧
 NC a0 fun p46 =>
 ∃ x47 : SlV, w11.drew.cell? p46 = some (.slice x47.base x47.len x47.cap) ∧
 ((0 : Int) ≤ s10.1 ∧ (s10.1 : Int) ≤ (x47.len : Nat)) ∧
 AL (.cells ⟨[]⟩ E.t_stretch_One) w11.drew fun b48 w49 =>
 w49.cell? p46 = some (.slice x47.base x47.len x47.cap) ∧
 w49.cell? p44 = some (.slice x45.base x45.len x45.cap) ∧
 APP E.t_stretch_One 2 16 #[.int .u64 0, .int .u64 0] ⟨(some (Addr.mk b48 0 none)), 0, 0⟩ ⟨(slB x45.base x45.cap 0 2), (Int.toNat r7), x45.cap⟩ w49 fun s50 w51 =>
 w51.cell? p46 = some (.slice x47.base x47.len x47.cap) ∧
 w51.cell? p44 = some (.slice x45.base x45.len x45.cap) ∧
 APP E.t_stretch_One 2 16 #[.int .u64 0, .int .u64 0] s50 s10.2.1 w51 fun s52 w53 =>
 w53.cell? p46 = some (.slice x47.base x47.len x47.cap) ∧
 w53.cell? p44 = some (.slice x45.base x45.len x45.cap) ∧
 APP E.t_stretch_One 2 16 #[.int .u64 0, .int .u64 0] s52 ⟨(slB x47.base x47.cap (Int.toNat s10.1) 2), (x47.len - (Int.toNat s10.1)), (x47.cap - (Int.toNat s10.1))⟩ w53 fun s54 w55 =>
 w55.cell? p46 = some (.slice x47.base x47.len x47.cap) ∧
 w55.cell? p44 = some (.slice x45.base x45.len x45.cap) ∧
 NC a0 fun p56 =>
 stCells p56 0 [.slice s54.base s54.len s54.cap] w55 fun w57 =>
 K  w57
 ) w6
 ) w.drew
 )

def F.stretch_Set_Add (E : Env) (a0 : (Option Addr)) (a1 : Int) (a2 : Int) (K : World → Prop) (w : World) : Prop :=
 CND (decide ((a1 : Int) ≥ a2)) (
 K  w
 ) (
 F.stretch_Set_Cut E a0 a1 a2 (fun  w1 =>
 NC a0 fun p2 =>
 ∃ x3 : Int, w1.cell? (p2.add 1) = some (.int .u64 x3) ∧
 NC a0 fun p4 =>
 stCells (p4.add 1) 0 [.int .u64 (u64 (x3 + (u64 (a2 - a1))))] w1 fun w5 =>
 F.stretch_Set_at E a0 a1 (fun r6 w7 =>
 AL (.cells #[.int .u64 0, .int .u64 0] E.t_stretch_One) w7 fun b8 w9 =>
 stCells (Addr.mk b8 0 none) 0 [.int .u64 a1, .int .u64 a2] w9 fun w10 =>
 JOIN (Int × Unit) (fun J11 =>
 JOIN (Bool × Unit) (fun J14 =>
 NC a0 fun p17 =>
 ∃ x18 : SlV, w10.cell? p17 = some (.slice x18.base x18.len x18.cap) ∧
 CND (decide ((r6 : Int) < ((x18.len : Nat) : Int))) (
 NC a0 fun p19 =>
 ∃ x20 : SlV, w10.cell? p19 = some (.slice x20.base x20.len x20.cap) ∧
 NC x20.base fun p21 =>
 ((0 : Int) ≤ r6 ∧ (r6 : Int) < (x20.len : Nat)) ∧
 ∃ x22 : Int, w10.cell? (p21.add (Int.toNat r6 * 2)) = some (.int .u64 x22) ∧
 J14 ((x22 : Int) == a2, ()) w10
 ) (
 J14 (false, ()) w10
 )
 ) fun s15 _ w16 =>
 CND (s15.1) (
 NC a0 fun p23 =>
 ∃ x24 : SlV, w16.cell? p23 = some (.slice x24.base x24.len x24.cap) ∧
 NC x24.base fun p25 =>
 ((0 : Int) ≤ r6 ∧ (r6 : Int) < (x24.len : Nat)) ∧
 ∃ x26 : Int, w16.cell? ((p25.add (Int.toNat r6 * 2)).add 1) = some (.int .u64 x26) ∧
 stCells ((Addr.mk b8 0 none).add 1) 0 [.int .u64 x26] w16 fun w27 =>
 J11 (i64 (r6 + 1), ()) w27
 ) (
 J11 (r6, ()) w16
 )
 ) fun s12 _ w13 =>
 JOIN (Int × Unit) (fun J28 =>
 JOIN (Bool × Unit) (fun J31 =>
 CND (decide ((r6 : Int) > 0)) (
 NC a0 fun p34 =>
 ∃ x35 : SlV, w13.cell? p34 = some (.slice x35.base x35.len x35.cap) ∧
 NC x35.base fun p36 =>
 ((0 : Int) ≤ (i64 (r6 - 1)) ∧ ((i64 (r6 - 1)) : Int) < (x35.len : Nat)) ∧
 ∃ x37 : Int, w13.cell? ((p36.add (Int.toNat (i64 (r6 - 1)) * 2)).add 1) = some (.int .u64 x37) ∧
 J31 ((x37 : Int) == a1, ()) w13
 ) (
 J31 (false, ()) w13
 )
 ) fun s32 _ w33 =>
 CND (s32.1) (
 NC a0 fun p38 =>
 ∃ x39 : SlV, w33.cell? p38 = some (.slice x39.base x39.len x39.cap) ∧
 NC x39.base fun p40 =>
 ((0 : Int) ≤ (i64 (r6 - 1)) ∧ ((i64 (r6 - 1)) : Int) < (x39.len : Nat)) ∧
 ∃ x41 : Int, w33.cell? (p40.add (Int.toNat (i64 (r6 - 1)) * 2)) = some (.int .u64 x41) ∧
 stCells (Addr.mk b8 0 none) 0 [.int .u64 x41] w33 fun w42 =>
 J28 (i64 (r6 - 1), ()) w42
 ) (
 J28 (r6, ()) w33
 )
 ) fun s29 _ w30 =>
 NC a0 fun p43 =>
 ∃ x44 : SlV, w30.drew.cell? p43 = some (.slice x44.base x44.len x44.cap) ∧
 ((0 : Int) ≤ s29.1 ∧ (s29.1 : Int) ≤ (x44.cap : Nat)) ∧
 ∃ c45 : Int, w30.drew.cell? ((Addr.mk b8 0 none).add 0) = some (.int .u64 c45) ∧
 ∃ c46 : Int, w30.drew.cell? ((Addr.mk b8 0 none).add 1) = some (.int .u64 c46) ∧
 NC a0 fun p47 =>
 ∃ x48 : SlV, w30.drew.cell? p47 = some (.slice x48.base x48.len x48.cap) ∧
 ((0 : Int) ≤ s12.1 ∧ (s12.1 : Int) ≤ (x48.len : Nat)) ∧
 (
 AL (.cells ⟨[]⟩ E.t_stretch_One) w30.drew fun b49 w50 =>
 w50.cell? p47 = some (.slice x48.base x48.len x48.cap) ∧
 (w50.cell? ((Addr.mk b8 0 none).add 0) = some (.int .u64 c45) ∧ (w50.cell? ((Addr.mk b8 0 none).add 1) = some (.int .u64 c46) ∧ True)) ∧
 w50.cell? p43 = some (.slice x44.base x44.len x44.cap) ∧
 (
 APP E.t_stretch_One 2 16 #[.int .u64 0, .int .u64 0] ⟨(some (Addr.mk b49 0 none)), 0, 0⟩ ⟨(slB x44.base x44.cap 0 2), (Int.toNat s29.1), x44.cap⟩ w50 fun s51 w52 =>
 w52.cell? p47 = some (.slice x48.base x48.len x48.cap) ∧
 (w52.cell? ((Addr.mk b8 0 none).add 0) = some (.int .u64 c45) ∧ (w52.cell? ((Addr.mk b8 0 none).add 1) = some (.int .u64 c46) ∧ True)) ∧
 w52.cell? p43 = some (.slice x44.base x44.len x44.cap) ∧
 AL (.cells ⟨[.int .u64 c45, .int .u64 c46]⟩ E.t_stretch_One) w52 fun b53 w54 =>
 w54.cell? p47 = some (.slice x48.base x48.len x48.cap) ∧
 w54.cell? p43 = some (.slice x44.base x44.len x44.cap) ∧
 APP E.t_stretch_One 2 16 #[.int .u64 0, .int .u64 0] s51 ⟨(some (Addr.mk b53 0 none)), 1, 1⟩ w54 fun s55 w56 =>
 w56.cell? p47 = some (.slice x48.base x48.len x48.cap) ∧
 w56.cell? p43 = some (.slice x44.base x44.len x44.cap) ∧
 APP E.t_stretch_One 2 16 #[.int .u64 0, .int .u64 0] s55 ⟨(slB x48.base x48.cap (Int.toNat s12.1) 2), (x48.len - (Int.toNat s12.1)), (x48.cap - (Int.toNat s12.1))⟩ w56 fun s57 w58 =>
 w58.cell? p47 = some (.slice x48.base x48.len x48.cap) ∧
 w58.cell? p43 = some (.slice x44.base x44.len x44.cap) ∧
 NC a0 fun p59 =>
 stCells p59 0 [.slice s57.base s57.len s57.cap] w58 fun w60 =>
 K  w60

 ) ∧ (
 AL (.cells ⟨[.int .u64 c45, .int .u64 c46]⟩ E.t_stretch_One) w50 fun b61 w62 =>
 w62.cell? p47 = some (.slice x48.base x48.len x48.cap) ∧
 w62.cell? p43 = some (.slice x44.base x44.len x44.cap) ∧
 APP E.t_stretch_One 2 16 #[.int .u64 0, .int .u64 0] ⟨(some (Addr.mk b49 0 none)), 0, 0⟩ ⟨(slB x44.base x44.cap 0 2), (Int.toNat s29.1), x44.cap⟩ w62 fun s63 w64 =>
 w64.cell? p47 = some (.slice x48.base x48.len x48.cap) ∧
 w64.cell? p43 = some (.slice x44.base x44.len x44.cap) ∧
 APP E.t_stretch_One 2 16 #[.int .u64 0, .int .u64 0] s63 ⟨(some (Addr.mk b61 0 none)), 1, 1⟩ w64 fun s65 w66 =>
 w66.cell? p47 = some (.slice x48.base x48.len x48.cap) ∧
 w66.cell? p43 = some (.slice x44.base x44.len x44.cap) ∧
 APP E.t_stretch_One 2 16 #[.int .u64 0, .int .u64 0] s65 ⟨(slB x48.base x48.cap (Int.toNat s12.1) 2), (x48.len - (Int.toNat s12.1)), (x48.cap - (Int.toNat s12.1))⟩ w66 fun s67 w68 =>
 w68.cell? p47 = some (.slice x48.base x48.len x48.cap) ∧
 w68.cell? p43 = some (.slice x44.base x44.len x44.cap) ∧
 NC a0 fun p69 =>
 stCells p69 0 [.slice s67.base s67.len s67.cap] w68 fun w70 =>
 K  w70
 )

 ) ∧ (
 AL (.cells ⟨[.int .u64 c45, .int .u64 c46]⟩ E.t_stretch_One) w30.drew fun b71 w72 =>
 w72.cell? p47 = some (.slice x48.base x48.len x48.cap) ∧
 w72.cell? p43 = some (.slice x44.base x44.len x44.cap) ∧
 AL (.cells ⟨[]⟩ E.t_stretch_One) w72 fun b73 w74 =>
 w74.cell? p47 = some (.slice x48.base x48.len x48.cap) ∧
 w74.cell? p43 = some (.slice x44.base x44.len x44.cap) ∧
 APP E.t_stretch_One 2 16 #[.int .u64 0, .int .u64 0] ⟨(some (Addr.mk b73 0 none)), 0, 0⟩ ⟨(slB x44.base x44.cap 0 2), (Int.toNat s29.1), x44.cap⟩ w74 fun s75 w76 =>
 w76.cell? p47 = some (.slice x48.base x48.len x48.cap) ∧
 w76.cell? p43 = some (.slice x44.base x44.len x44.cap) ∧
 APP E.t_stretch_One 2 16 #[.int .u64 0, .int .u64 0] s75 ⟨(some (Addr.mk b71 0 none)), 1, 1⟩ w76 fun s77 w78 =>
 w78.cell? p47 = some (.slice x48.base x48.len x48.cap) ∧
 w78.cell? p43 = some (.slice x44.base x44.len x44.cap) ∧
 APP E.t_stretch_One 2 16 #[.int .u64 0, .int .u64 0] s77 ⟨(slB x48.base x48.cap (Int.toNat s12.1) 2), (x48.len - (Int.toNat s12.1)), (x48.cap - (Int.toNat s12.1))⟩ w78 fun s79 w80 =>
 w80.cell? p47 = some (.slice x48.base x48.len x48.cap) ∧
 w80.cell? p43 = some (.slice x44.base x44.len x44.cap) ∧
 NC a0 fun p81 =>
 stCells p81 0 [.slice s79.base s79.len s79.cap] w80 fun w82 =>
 K  w82
 )
 ) w5
 ) w
 )

def F.arena_Map_Add (E : Env) (a0 : (Option Addr)) (a1 : Int) (K : Int → World → Prop) (w : World) : Prop :=
 CND (decide ((a1 : Int) ≥ 67108864)) (
 K 1 w
 ) (
 NC a0 fun p1 =>
 F.stretch_Set_Has E (some p1) a1 (fun r2 w3 =>
 CND (r2) (
 K 34 w3
 ) (
 NC a0 fun p4 =>
 F.stretch_Set_Add E (some p4) a1 (u64 (a1 + 1)) (fun  w5 =>
 K 0 w5
 ) w3
 )
 ) w
 )

def F.mallowlaw11_Model_has (E : Env) (a0 : (Option Addr)) (a1 : Int) (K : Bool → World → Prop) (w : World) : Prop :=
 LOOP (Int × Unit) (0, ()) w fun s1 _ w2 next3 =>
 NC a0 fun p4 =>
 ∃ x5 : SlV, w2.cell? p4 = some (.slice x5.base x5.len x5.cap) ∧
 CND (decide ((s1.1 : Int) < ((x5.len : Nat) : Int))) (
 NC a0 fun p6 =>
 ∃ x7 : SlV, w2.cell? p6 = some (.slice x7.base x7.len x7.cap) ∧
 NC x7.base fun p8 =>
 ((0 : Int) ≤ s1.1 ∧ (s1.1 : Int) < (x7.len : Nat)) ∧
 ∃ x9 : Int, w2.cell? (p8.add (Int.toNat s1.1 * 1)) = some (.int .u64 x9) ∧
 CND ((x9 : Int) == a1) (
 K true w2
 ) (
 next3 (i64 (s1.1 + 1), ()) w2
 )
 ) (
 K false w2
 )

def F.mallowlaw11_Model_add (E : Env) (a0 : (Option Addr)) (a1 : Int) (K : Int → World → Prop) (w : World) : Prop :=
 CND (decide ((a1 : Int) ≥ 67108864)) (
 K 1 w
 ) (
 F.mallowlaw11_Model_has E a0 a1 (fun r1 w2 =>
 CND (r1) (
 K 34 w2
 ) (
 NC a0 fun p3 =>
 ∃ x4 : SlV, w2.cell? p3 = some (.slice x4.base x4.len x4.cap) ∧
 AL (.cells ⟨[.int .u64 a1]⟩ E.t_uint64) w2 fun b5 w6 =>
 APP E.t_uint64 1 8 #[.int .u64 0] x4 ⟨(some (Addr.mk b5 0 none)), 1, 1⟩ w6 fun s7 w8 =>
 NC a0 fun p9 =>
 stCells p9 0 [.slice s7.base s7.len s7.cap] w8 fun w10 =>
 K 0 w10
 )
 ) w
 )

def F.arena_Map_cut (E : Env) (a0 : (Option Addr)) (a1 : Int) (a2 : Int) (K : World → Prop) (w : World) : Prop :=
 NC a0 fun p1 =>
 ∃ x2 : SlV, w.cell? (p1.add 2) = some (.slice x2.base x2.len x2.cap) ∧
 LOOP (SlV × Int × Unit) (⟨none, 0, 0⟩, 0, ()) w fun s3 _ w4 next5 =>
 CND (decide ((s3.2.1 : Int) < ((x2.len : Nat) : Int))) (
 NC x2.base fun p6 =>
 ((0 : Int) ≤ s3.2.1 ∧ (s3.2.1 : Int) < (x2.len : Nat)) ∧
 ∃ c7 : Int, w4.cell? ((p6.add (Int.toNat s3.2.1 * 3)).add 0) = some (.int .u64 c7) ∧
 ∃ c8 : Int, w4.cell? ((p6.add (Int.toNat s3.2.1 * 3)).add 1) = some (.int .u64 c8) ∧
 ∃ c9 : Int, w4.cell? ((p6.add (Int.toNat s3.2.1 * 3)).add 2) = some (.int .i64 c9) ∧
 AL (.cells #[.int .u64 0, .int .u64 0, .int .i64 0] E.t_arena_wide) w4 fun b10 w11 =>
 stCells (Addr.mk b10 0 none) 0 [.int .u64 c7, .int .u64 c8, .int .i64 c9] w11 fun w12 =>
 JOIN (Bool × Unit) (fun J13 =>
 ∃ x16 : Int, w12.cell? ((Addr.mk b10 0 none).add 1) = some (.int .u64 x16) ∧
 CND (decide ((x16 : Int) ≤ a1)) (
 J13 (true, ()) w12
 ) (
 ∃ x17 : Int, w12.cell? (Addr.mk b10 0 none) = some (.int .u64 x17) ∧
 J13 (decide ((x17 : Int) ≥ a2), ()) w12
 )
 ) fun s14 _ w15 =>
 CND (s14.1) (
 ∃ c18 : Int, w15.cell? ((Addr.mk b10 0 none).add 0) = some (.int .u64 c18) ∧
 ∃ c19 : Int, w15.cell? ((Addr.mk b10 0 none).add 1) = some (.int .u64 c19) ∧
 ∃ c20 : Int, w15.cell? ((Addr.mk b10 0 none).add 2) = some (.int .i64 c20) ∧
 AL (.cells ⟨[.int .u64 c18, .int .u64 c19, .int .i64 c20]⟩ E.t_arena_wide) w15 fun b21 w22 =>
 APP E.t_arena_wide 3 24 #[.int .u64 0, .int .u64 0, .int .i64 0] s3.1 ⟨(some (Addr.mk b21 0 none)), 1, 1⟩ w22 fun s23 w24 =>
 next5 (s23, i64 (s3.2.1 + 1), ()) w24
 ) (
 JOIN (SlV × Unit) (fun J25 =>
 ∃ x28 : Int, w15.cell? (Addr.mk b10 0 none) = some (.int .u64 x28) ∧
 CND (decide ((x28 : Int) < a1)) (
 ∃ x29 : Int, w15.cell? (Addr.mk b10 0 none) = some (.int .u64 x29) ∧
 ∃ x30 : Int, w15.cell? ((Addr.mk b10 0 none).add 2) = some (.int .i64 x30) ∧
 AL (.cells ⟨[.int .u64 x29, .int .u64 a1, .int .i64 x30]⟩ E.t_arena_wide) w15 fun b31 w32 =>
 APP E.t_arena_wide 3 24 #[.int .u64 0, .int .u64 0, .int .i64 0] s3.1 ⟨(some (Addr.mk b31 0 none)), 1, 1⟩ w32 fun s33 w34 =>
 J25 (s33, ()) w34
 ) (
 J25 (s3.1, ()) w15
 )
 ) fun s26 _ w27 =>
 ∃ x35 : Int, w27.cell? ((Addr.mk b10 0 none).add 1) = some (.int .u64 x35) ∧
 CND (decide ((x35 : Int) > a2)) (
 ∃ x36 : Int, w27.cell? ((Addr.mk b10 0 none).add 1) = some (.int .u64 x36) ∧
 ∃ x37 : Int, w27.cell? ((Addr.mk b10 0 none).add 2) = some (.int .i64 x37) ∧
 AL (.cells ⟨[.int .u64 a2, .int .u64 x36, .int .i64 x37]⟩ E.t_arena_wide) w27 fun b38 w39 =>
 APP E.t_arena_wide 3 24 #[.int .u64 0, .int .u64 0, .int .i64 0] s26.1 ⟨(some (Addr.mk b38 0 none)), 1, 1⟩ w39 fun s40 w41 =>
 next5 (s40, i64 (s3.2.1 + 1), ()) w41
 ) (
 next5 (s26.1, i64 (s3.2.1 + 1), ()) w27
 )
 )
 ) (
 NC a0 fun p42 =>
 stCells (p42.add 2) 0 [.slice s3.1.base s3.1.len s3.1.cap] w4 fun w43 =>
 NC a0 fun p44 =>
 ∃ x45 : (Option Nat), w43.cell? (p44.add 3) = some (.map x45) ∧
 ∃ es46 : Array MapEntry, mapAt w43 x45 es46 ∧
 CND (decide (((u64 (((es46.size : Nat) : Int))) : Int) < (u64 (a2 - a1)))) (
 NC a0 fun p47 =>
 ∃ x48 : (Option Nat), w43.cell? (p47.add 3) = some (.map x48) ∧
 ∃ cl49, rngAt w43 x48 cl49 ∧
 AL (rngObj x48 cl49) w43 fun b50 w51 =>
 LOOP (Unit) (()) w51 fun s52 _ w53 next54 =>
 JOIN (Bool × Unit) (fun J55 =>
 NEXT b50 w53 (fun w58 =>
 J55 (false, ()) w58
 ) fun k60 v61 w59 =>
 J55 (true, ()) w59
 ) fun s56 _ w57 =>
 JOIN (Bool × Unit) (fun J62 =>
 CND (s56.1) (
 J62 (s56.1, ()) w57
 ) (
 K  w57
 )
 ) fun s63 _ w64 =>
 ENT b50 w64 fun k65 v66 S67 =>
 unInt .u64 k65 fun x68 =>
 JOIN (Bool × Unit) (fun J69 =>
 CND (decide ((x68 : Int) ≥ a1)) (
 J69 (decide ((x68 : Int) < a2), ()) w64
 ) (
 J69 (false, ()) w64
 )
 ) fun s70 _ w71 =>
 CND (s70.1) (
 NC a0 fun p72 =>
 ∃ x73 : (Option Nat), w71.cell? (p72.add 3) = some (.map x73) ∧
 MDEL .u64 x68 x73 w71 fun w74 =>
 next54 (()) w74
 ) (
 next54 (()) w71
 )
 ) (
 LOOP (Int × Unit) (a1, ()) w43 fun s75 _ w76 next77 =>
 CND (decide ((s75.1 : Int) < a2)) (
 NC a0 fun p78 =>
 ∃ x79 : (Option Nat), w76.cell? (p78.add 3) = some (.map x79) ∧
 MDEL .u64 s75.1 x79 w76 fun w80 =>
 next77 (u64 (s75.1 + 1), ()) w80
 ) (
 K  w76
 )
 )
 )

def F.arena_Map_Set (E : Env) (a0 : (Option Addr)) (a1 : Int) (a2 : Int) (a3 : Int) (K : Int → World → Prop) (w : World) : Prop :=
 AL (.cells #[.pointer a0] E.t__arena_Map) w fun b1 w2 =>
 AL (.cells #[.int .i64 a3] E.t_int) w2 fun b3 w4 =>
 JOIN (Bool × Unit) (fun J5 =>
 CND ((a2 : Int) == 0) (
 J5 (true, ()) w4
 ) (
 ∃ x8 : Int, w4.cell? (Addr.mk b3 0 none) = some (.int .i64 x8) ∧
 J5 (decide ((x8 : Int) < 0), ()) w4
 )
 ) fun s6 _ w7 =>
 CND (s6.1) (
 K 1 w7
 ) (
 JOIN (Bool × Unit) (fun J9 =>
 CND (decide ((a1 : Int) ≥ 34359738368)) (
 J9 (true, ()) w7
 ) (
 J9 (decide ((a2 : Int) > (u64 (34359738368 - a1))), ()) w7
 )
 ) fun s10 _ w11 =>
 CND (s10.1) (
 K 10 w11
 ) (
 512 ≠ (0 : Int) ∧
 512 ≠ (0 : Int) ∧
 LET (u64 (Int.tdiv (u64 ((u64 ((u64 (a1 + a2)) + 512)) - 1)) 512) : Int) fun last_12 =>
 ∃ x13 : (Option Addr), w11.cell? (Addr.mk b1 0 none) = some (.pointer x13) ∧
 NC x13 fun p14 =>
 F.stretch_Set_Count E (some p14) (u64 (Int.tdiv a1 512)) last_12 (fun r15 w16 =>
 CND ((r15 : Int) != (u64 (last_12 - (u64 (Int.tdiv a1 512))))) (
 K 10 w16
 ) (
 512 ≠ (0 : Int) ∧
 512 ≠ (0 : Int) ∧
 LET (u64 (Int.tdiv (u64 ((u64 (a1 + 512)) - 1)) 512) : Int) fun from_17 =>
 LET (u64 (Int.tdiv (u64 (a1 + a2)) 512) : Int) fun to_18 =>
 JOIN (Unit) (fun J19 =>
 CND (decide ((from_17 : Int) < to_18)) (
 ∃ x22 : (Option Addr), w16.cell? (Addr.mk b1 0 none) = some (.pointer x22) ∧
 F.arena_Map_cut E x22 from_17 to_18 (fun  w23 =>
 ∃ x24 : Int, w23.cell? (Addr.mk b3 0 none) = some (.int .i64 x24) ∧
 CND (decide ((x24 : Int) > 0)) (
 ∃ x25 : (Option Addr), w23.drew.cell? (Addr.mk b1 0 none) = some (.pointer x25) ∧
 ∃ x26 : (Option Addr), w23.drew.cell? (Addr.mk b1 0 none) = some (.pointer x26) ∧
 NC x26 fun p27 =>
 ∃ x28 : SlV, w23.drew.cell? (p27.add 2) = some (.slice x28.base x28.len x28.cap) ∧
 ∃ x29 : Int, w23.drew.cell? (Addr.mk b3 0 none) = some (.int .i64 x29) ∧
 AL (.cells ⟨[.int .u64 from_17, .int .u64 to_18, .int .i64 x29]⟩ E.t_arena_wide) w23.drew fun b30 w31 =>
 w31.cell? (Addr.mk b3 0 none) = some (.int .i64 x29) ∧
 w31.cell? (p27.add 2) = some (.slice x28.base x28.len x28.cap) ∧
 w31.cell? (Addr.mk b1 0 none) = some (.pointer x26) ∧
 w31.cell? (Addr.mk b1 0 none) = some (.pointer x25) ∧
 APP E.t_arena_wide 3 24 #[.int .u64 0, .int .u64 0, .int .i64 0] x28 ⟨(some (Addr.mk b30 0 none)), 1, 1⟩ w31 fun s32 w33 =>
 w33.cell? (Addr.mk b3 0 none) = some (.int .i64 x29) ∧
 w33.cell? (Addr.mk b1 0 none) = some (.pointer x26) ∧
 w33.cell? (Addr.mk b1 0 none) = some (.pointer x25) ∧
 NC x25 fun p34 =>
 stCells (p34.add 2) 0 [.slice s32.base s32.len s32.cap] w33 fun w35 =>
 J19 (()) w35
 ) (
 J19 (()) w23
 )
 ) w16
 ) (
 J19 (()) w16
 )
 ) fun s20 _ w21 =>
 CND (decide ((from_17 : Int) > to_18)) (
 CAL E.call E.f_arena_Map_Set_1 #[.int .u64 a1, .int .u64 (u64 (a1 + a2)), .pointer (some (Addr.mk b3 0 none)), .pointer (some (Addr.mk b1 0 none))] w21 fun r36 w37 =>
 r36 = .tuple ⟨[]⟩ ∧
 K 0 w37
 ) (
 CAL E.call E.f_arena_Map_Set_1 #[.int .u64 a1, .int .u64 (u64 (from_17 * 512)), .pointer (some (Addr.mk b3 0 none)), .pointer (some (Addr.mk b1 0 none))] w21 fun r38 w39 =>
 r38 = .tuple ⟨[]⟩ ∧
 CAL E.call E.f_arena_Map_Set_1 #[.int .u64 (u64 (to_18 * 512)), .int .u64 (u64 (a1 + a2)), .pointer (some (Addr.mk b3 0 none)), .pointer (some (Addr.mk b1 0 none))] w39 fun r40 w41 =>
 r40 = .tuple ⟨[]⟩ ∧
 K 0 w41
 )
 )
 ) w11
 )
 )

def F.mallowlaw11_Model_set (E : Env) (a0 : (Option Addr)) (a1 : Int) (a2 : Int) (a3 : Int) (K : Int → World → Prop) (w : World) : Prop :=
 JOIN (Bool × Unit) (fun J1 =>
 CND ((a2 : Int) == 0) (
 J1 (true, ()) w
 ) (
 J1 (decide ((a3 : Int) < 0), ()) w
 )
 ) fun s2 _ w3 =>
 CND (s2.1) (
 K 1 w3
 ) (
 JOIN (Bool × Unit) (fun J4 =>
 CND (decide ((a1 : Int) ≥ 34359738368)) (
 J4 (true, ()) w3
 ) (
 J4 (decide ((a2 : Int) > (u64 (34359738368 - a1))), ()) w3
 )
 ) fun s5 _ w6 =>
 CND (s5.1) (
 K 10 w6
 ) (
 512 ≠ (0 : Int) ∧
 LOOP (Int × Unit) (u64 (Int.tdiv a1 512), ()) w6 fun s7 _ w8 next9 =>
 512 ≠ (0 : Int) ∧
 CND (decide ((s7.1 : Int) ≤ (u64 (Int.tdiv (u64 ((u64 (a1 + a2)) - 1)) 512)))) (
 F.mallowlaw11_Model_has E a0 s7.1 (fun r10 w11 =>
 CND (!r10) (
 K 10 w11
 ) (
 next9 (u64 (s7.1 + 1), ()) w11
 )
 ) w8
 ) (
 LOOP (Int × Unit) (a1, ()) w8 fun s12 _ w13 next14 =>
 CND (decide ((s12.1 : Int) < (u64 (a1 + a2)))) (
 NC a0 fun p15 =>
 ∃ x16 : SlV, w13.cell? (p15.add 1) = some (.slice x16.base x16.len x16.cap) ∧
 AL (.cells ⟨[.int .u64 s12.1]⟩ E.t_uint64) w13 fun b17 w18 =>
 APP E.t_uint64 1 8 #[.int .u64 0] x16 ⟨(some (Addr.mk b17 0 none)), 1, 1⟩ w18 fun s19 w20 =>
 NC a0 fun p21 =>
 stCells (p21.add 1) 0 [.slice s19.base s19.len s19.cap] w20 fun w22 =>
 NC a0 fun p23 =>
 ∃ x24 : SlV, w22.cell? (p23.add 2) = some (.slice x24.base x24.len x24.cap) ∧
 AL (.cells ⟨[.int .i64 a3]⟩ E.t_int) w22 fun b25 w26 =>
 APP E.t_int 1 8 #[.int .i64 0] x24 ⟨(some (Addr.mk b25 0 none)), 1, 1⟩ w26 fun s27 w28 =>
 NC a0 fun p29 =>
 stCells (p29.add 2) 0 [.slice s27.base s27.len s27.cap] w28 fun w30 =>
 next14 (u64 (s12.1 + 1), ()) w30
 ) (
 K 0 w13
 )
 )
 )
 )

def F.arena_Map_whole (E : Env) (a0 : (Option Addr)) (a1 : Int) (K : Int → World → Prop) (w : World) : Prop :=
 NC a0 fun p1 =>
 ∃ x2 : SlV, w.cell? (p1.add 2) = some (.slice x2.base x2.len x2.cap) ∧
 LOOP (Int × Unit) (0, ()) w fun s3 _ w4 next5 =>
 CND (decide ((s3.1 : Int) < ((x2.len : Nat) : Int))) (
 NC x2.base fun p6 =>
 ((0 : Int) ≤ s3.1 ∧ (s3.1 : Int) < (x2.len : Nat)) ∧
 ∃ c7 : Int, w4.cell? ((p6.add (Int.toNat s3.1 * 3)).add 0) = some (.int .u64 c7) ∧
 ∃ c8 : Int, w4.cell? ((p6.add (Int.toNat s3.1 * 3)).add 1) = some (.int .u64 c8) ∧
 ∃ c9 : Int, w4.cell? ((p6.add (Int.toNat s3.1 * 3)).add 2) = some (.int .i64 c9) ∧
 AL (.cells #[.int .u64 0, .int .u64 0, .int .i64 0] E.t_arena_wide) w4 fun b10 w11 =>
 stCells (Addr.mk b10 0 none) 0 [.int .u64 c7, .int .u64 c8, .int .i64 c9] w11 fun w12 =>
 JOIN (Bool × Unit) (fun J13 =>
 ∃ x16 : Int, w12.cell? (Addr.mk b10 0 none) = some (.int .u64 x16) ∧
 CND (decide ((a1 : Int) ≥ x16)) (
 ∃ x17 : Int, w12.cell? ((Addr.mk b10 0 none).add 1) = some (.int .u64 x17) ∧
 J13 (decide ((a1 : Int) < x17), ()) w12
 ) (
 J13 (false, ()) w12
 )
 ) fun s14 _ w15 =>
 CND (s14.1) (
 ∃ x18 : Int, w15.cell? ((Addr.mk b10 0 none).add 2) = some (.int .i64 x18) ∧
 K x18 w15
 ) (
 next5 (i64 (s3.1 + 1), ()) w15
 )
 ) (
 K 0 w4
 )

def F.arena_Map_At (E : Env) (a0 : (Option Addr)) (a1 : Int) (K : Int → World → Prop) (w : World) : Prop :=
 8192 ≠ (0 : Int) ∧
 NC a0 fun p1 =>
 ∃ x2 : (Option Nat), w.cell? (p1.add 3) = some (.map x2) ∧
 512 ≠ (0 : Int) ∧
 LKP .u64 (u64 (Int.tdiv (u64 (Int.tdiv a1 8192)) 512)) x2 w (.pointer none) fun v3 ok4 es5 =>
 ∃ x6 : (Option Addr), v3 = .pointer x6 ∧
 CND (!x6.isNone) (
 512 ≠ (0 : Int) ∧
 NC x6 fun p7 =>
 ((0 : Int) ≤ (Int.tmod (u64 (Int.tdiv a1 8192)) 512) ∧ ((Int.tmod (u64 (Int.tdiv a1 8192)) 512) : Int) < (512 : Nat)) ∧
 ∃ x8 : Int, w.cell? (p7.add (Int.toNat (Int.tmod (u64 (Int.tdiv a1 8192)) 512) * 1)) = some (.int .i64 x8) ∧
 K x8 w
 ) (
 512 ≠ (0 : Int) ∧
 F.arena_Map_whole E a0 (u64 (Int.tdiv (u64 (Int.tdiv a1 8192)) 512)) (fun r9 w10 =>
 K r9 w10
 ) w
 )

def F.mallowlaw11_Model_at (E : Env) (a0 : (Option Addr)) (a1 : Int) (K : Int → World → Prop) (w : World) : Prop :=
 NC a0 fun p1 =>
 ∃ x2 : SlV, w.cell? (p1.add 1) = some (.slice x2.base x2.len x2.cap) ∧
 LET (i64 (((x2.len : Nat) : Int) - 1) : Int) fun i_3 =>
 LOOP (Int × Unit) (i_3, ()) w fun s4 _ w5 next6 =>
 CND (decide ((s4.1 : Int) ≥ 0)) (
 NC a0 fun p7 =>
 ∃ x8 : SlV, w5.cell? (p7.add 1) = some (.slice x8.base x8.len x8.cap) ∧
 NC x8.base fun p9 =>
 ((0 : Int) ≤ s4.1 ∧ (s4.1 : Int) < (x8.len : Nat)) ∧
 ∃ x10 : Int, w5.cell? (p9.add (Int.toNat s4.1 * 1)) = some (.int .u64 x10) ∧
 8192 ≠ (0 : Int) ∧
 CND ((x10 : Int) == (u64 (Int.tdiv a1 8192))) (
 NC a0 fun p11 =>
 ∃ x12 : SlV, w5.cell? (p11.add 2) = some (.slice x12.base x12.len x12.cap) ∧
 NC x12.base fun p13 =>
 ((0 : Int) ≤ s4.1 ∧ (s4.1 : Int) < (x12.len : Nat)) ∧
 ∃ x14 : Int, w5.cell? (p13.add (Int.toNat s4.1 * 1)) = some (.int .i64 x14) ∧
 K x14 w5
 ) (
 next6 (i64 (s4.1 - 1), ()) w5
 )
 ) (
 K 0 w5
 )

def F.arena_Map_Has (E : Env) (a0 : (Option Addr)) (a1 : Int) (K : Bool → World → Prop) (w : World) : Prop :=
 NC a0 fun p1 =>
 4194304 ≠ (0 : Int) ∧
 F.stretch_Set_Has E (some p1) (u64 (Int.tdiv a1 4194304)) (fun r2 w3 =>
 K r2 w3
 ) w

def F.mallowlaw11_act (E : Env) (a0 : (Option Addr)) (a1 : (Option Addr)) (a2_0 : Int) (a2_1 : Int) (a2_2 : Int) (a2_3 : Int) (K : Bool → World → Prop) (w : World) : Prop :=
 AL (.cells #[.pointer a1] E.t__mallowlaw11_Model) w fun b1 w2 =>
 AL (.cells #[.int .i64 a2_0, .int .u64 a2_1, .int .u64 a2_2, .int .i64 a2_3] E.t_mallowlaw11_Act) w2 fun b3 w4 =>
 AL (.cells #[.bool false] E.t_bool) w4 fun b5 w6 =>
 ∃ x7 : Int, w6.cell? (Addr.mk b3 0 none) = some (.int .i64 x7) ∧
 CND ((x7 : Int) == 1) (
 ∃ x8 : Int, w6.drew.cell? ((Addr.mk b3 0 none).add 1) = some (.int .u64 x8) ∧
 ∃ x9 : (Option Addr), w6.drew.cell? (Addr.mk b1 0 none) = some (.pointer x9) ∧
 ∃ x10 : Int, w6.drew.cell? ((Addr.mk b3 0 none).add 1) = some (.int .u64 x10) ∧
 F.arena_Map_Add E a0 x8 (fun r11 w12 =>
 w12.cell? ((Addr.mk b3 0 none).add 1) = some (.int .u64 x10) ∧
 w12.cell? (Addr.mk b1 0 none) = some (.pointer x9) ∧
 F.mallowlaw11_Model_add E x9 x10 (fun r13 w14 =>
 stCells (Addr.mk b5 0 none) 0 [.bool ((r11 : Int) == r13)] w14 fun w15 =>
 ∃ x16 : Bool, w15.cell? (Addr.mk b5 0 none) = some (.bool x16) ∧
 K x16 w15
 ) w12
 ) w6.drew
 ) (
 CND ((x7 : Int) == 2) (
 ∃ x17 : Int, w6.drew.cell? ((Addr.mk b3 0 none).add 1) = some (.int .u64 x17) ∧
 ∃ x18 : Int, w6.drew.cell? ((Addr.mk b3 0 none).add 2) = some (.int .u64 x18) ∧
 ∃ x19 : Int, w6.drew.cell? ((Addr.mk b3 0 none).add 3) = some (.int .i64 x19) ∧
 ∃ x20 : (Option Addr), w6.drew.cell? (Addr.mk b1 0 none) = some (.pointer x20) ∧
 ∃ x21 : Int, w6.drew.cell? ((Addr.mk b3 0 none).add 1) = some (.int .u64 x21) ∧
 ∃ x22 : Int, w6.drew.cell? ((Addr.mk b3 0 none).add 2) = some (.int .u64 x22) ∧
 ∃ x23 : Int, w6.drew.cell? ((Addr.mk b3 0 none).add 3) = some (.int .i64 x23) ∧
 F.arena_Map_Set E a0 x17 x18 x19 (fun r24 w25 =>
 w25.cell? ((Addr.mk b3 0 none).add 3) = some (.int .i64 x23) ∧
 w25.cell? ((Addr.mk b3 0 none).add 2) = some (.int .u64 x22) ∧
 w25.cell? ((Addr.mk b3 0 none).add 1) = some (.int .u64 x21) ∧
 w25.cell? (Addr.mk b1 0 none) = some (.pointer x20) ∧
 F.mallowlaw11_Model_set E x20 x21 x22 x23 (fun r26 w27 =>
 stCells (Addr.mk b5 0 none) 0 [.bool ((r24 : Int) == r26)] w27 fun w28 =>
 ∃ x29 : Bool, w28.cell? (Addr.mk b5 0 none) = some (.bool x29) ∧
 K x29 w28
 ) w25
 ) w6.drew
 ) (
 CND ((x7 : Int) == 3) (
 ∃ x30 : Int, w6.drew.cell? ((Addr.mk b3 0 none).add 1) = some (.int .u64 x30) ∧
 ∃ x31 : (Option Addr), w6.drew.cell? (Addr.mk b1 0 none) = some (.pointer x31) ∧
 ∃ x32 : Int, w6.drew.cell? ((Addr.mk b3 0 none).add 1) = some (.int .u64 x32) ∧
 F.arena_Map_At E a0 x30 (fun r33 w34 =>
 w34.cell? ((Addr.mk b3 0 none).add 1) = some (.int .u64 x32) ∧
 w34.cell? (Addr.mk b1 0 none) = some (.pointer x31) ∧
 F.mallowlaw11_Model_at E x31 x32 (fun r35 w36 =>
 CND ((r33 : Int) == r35) (
 ∃ x37 : Int, w36.cell? ((Addr.mk b3 0 none).add 1) = some (.int .u64 x37) ∧
 ∃ x38 : (Option Addr), w36.cell? (Addr.mk b1 0 none) = some (.pointer x38) ∧
 ∃ x39 : Int, w36.cell? ((Addr.mk b3 0 none).add 1) = some (.int .u64 x39) ∧
 4194304 ≠ (0 : Int) ∧
 F.arena_Map_Has E a0 x37 (fun r40 w41 =>
 w41.cell? ((Addr.mk b3 0 none).add 1) = some (.int .u64 x39) ∧
 w41.cell? (Addr.mk b1 0 none) = some (.pointer x38) ∧
 F.mallowlaw11_Model_has E x38 (u64 (Int.tdiv x39 4194304)) (fun r42 w43 =>
 w43.cell? ((Addr.mk b3 0 none).add 1) = some (.int .u64 x39) ∧
 stCells (Addr.mk b5 0 none) 0 [.bool (r40 == r42)] w43 fun w44 =>
 ∃ x45 : Bool, w44.cell? (Addr.mk b5 0 none) = some (.bool x45) ∧
 K x45 w44
 ) w41
 ) w36
 ) (
 stCells (Addr.mk b5 0 none) 0 [.bool false] w36 fun w46 =>
 ∃ x47 : Bool, w46.cell? (Addr.mk b5 0 none) = some (.bool x47) ∧
 K x47 w46
 )
 ) w34
 ) w6.drew
 ) (
 CND ((x7 : Int) == 4) (
 AL (.cells #[.int .i64 0] E.t_int) w6 fun b48 w49 =>
 AL (.cells #[.int .u64 0] E.t_uint64) w49 fun b50 w51 =>
 stCells (Addr.mk b48 0 none) 0 [.int .i64 0] w51 fun w52 =>
 stCells (Addr.mk b50 0 none) 0 [.int .u64 0] w52 fun w53 =>
 F.arena_Map_Chunks E a0 (fun r54 w55 =>
 RNGF E.seq (r54) w55 (fun x56 w57 next58 ret59 brk60 =>
 JOIN (Bool × Unit) (fun J61 =>
 ∃ x64 : Int, w57.cell? (Addr.mk b48 0 none) = some (.int .i64 x64) ∧
 CND (decide ((x64 : Int) > 0)) (
 ∃ x65 : Int, w57.cell? (Addr.mk b50 0 none) = some (.int .u64 x65) ∧
 CND (decide ((x56 : Int) ≤ x65)) (
 J61 (true, ()) w57
 ) (
 ∃ x66 : (Option Addr), w57.cell? (Addr.mk b1 0 none) = some (.pointer x66) ∧
 F.mallowlaw11_Model_has E x66 x56 (fun r67 w68 =>
 J61 (!r67, ()) w68
 ) w57
 )
 ) (
 ∃ x69 : (Option Addr), w57.cell? (Addr.mk b1 0 none) = some (.pointer x69) ∧
 F.mallowlaw11_Model_has E x69 x56 (fun r70 w71 =>
 J61 (!r70, ()) w71
 ) w57
 )
 ) fun s62 _ w63 =>
 CND (s62.1) (
 stCells (Addr.mk b5 0 none) 0 [.bool false] w63 fun w72 =>
 ret59 w72
 ) (
 stCells (Addr.mk b50 0 none) 0 [.int .u64 x56] w63 fun w73 =>
 ∃ x74 : Int, w73.cell? (Addr.mk b48 0 none) = some (.int .i64 x74) ∧
 stCells (Addr.mk b48 0 none) 0 [.int .i64 (i64 (x74 + 1))] w73 fun w75 =>
 ∃ x76 : Int, w75.cell? (Addr.mk b48 0 none) = some (.int .i64 x76) ∧
 ∃ x77 : Int, w75.cell? ((Addr.mk b3 0 none).add 3) = some (.int .i64 x77) ∧
 CND ((x76 : Int) == x77) (
 stCells (Addr.mk b5 0 none) 0 [.bool true] w75 fun w78 =>
 ret59 w78
 ) (
 next58 w75
 )
 )
 ) (fun D79 w80 =>
 ∃ x81 : Int, w80.drew.cell? (Addr.mk b48 0 none) = some (.int .i64 x81) ∧
 ∃ x82 : (Option Addr), w80.drew.cell? (Addr.mk b1 0 none) = some (.pointer x82) ∧
 NC x82 fun p83 =>
 ∃ x84 : SlV, w80.drew.cell? p83 = some (.slice x84.base x84.len x84.cap) ∧
 stCells (Addr.mk b5 0 none) 0 [.bool ((x81 : Int) == ((x84.len : Nat) : Int))] w80.drew fun w85 =>
 COL D79 w85 fun w86 =>
 ∃ x87 : Bool, w86.cell? (Addr.mk b5 0 none) = some (.bool x87) ∧
 K x87 w86
 ) (fun D88 w89 =>
 COL D88 w89 fun w90 =>
 ∃ x91 : Bool, w90.cell? (Addr.mk b5 0 none) = some (.bool x91) ∧
 K x91 w90
 ) []
 ) w53
 ) (
 stCells (Addr.mk b5 0 none) 0 [.bool true] w6 fun w92 =>
 ∃ x93 : Bool, w92.cell? (Addr.mk b5 0 none) = some (.bool x93) ∧
 K x93 w92
 )
 )
 )
 )

def F.mallowlaw11_awake (E : Env)  (K : Bool → World → Prop) (w : World) : Prop :=
 F.arena_New E  (fun r1 w2 =>
 CND (r1.isNone) (
 K false w2
 ) (
 F.arena_Map_Add E r1 1 (fun r3 w4 =>
 CND ((r3 : Int) == 0) (
 F.arena_Map_Set E r1 512 3 7 (fun r5 w6 =>
 CND ((r5 : Int) == 0) (
 F.arena_Map_At E r1 4194309 (fun r7 w8 =>
 CND ((r7 : Int) == 7) (
 F.arena_Map_At E r1 4218880 (fun r9 w10 =>
 CND ((r9 : Int) == 0) (
 F.arena_Map_Has E r1 4194304 (fun r11 w12 =>
 CND (r11) (
 F.arena_Map_Has E r1 0 (fun r13 w14 =>
 K (!r13) w14
 ) w12
 ) (
 K false w12
 )
 ) w10
 ) (
 K false w10
 )
 ) w8
 ) (
 K false w8
 )
 ) w6
 ) (
 K false w6
 )
 ) w4
 ) (
 K false w4
 )
 ) w2
 )
 ) w

def F.mallowlaw11_ArenaApart (E : Env) (a0 : SlV) (a1 : SlV) (K : Bool → World → Prop) (w : World) : Prop :=
 F.mallowlaw11_heavy E a0 (fun r1 w2 =>
 CND (r1) (
 K true w2
 ) (
 F.arena_New E  (fun r3 w4 =>
 F.arena_New E  (fun r5 w6 =>
 AL (.cells #[.slice none 0 0, .slice none 0 0, .slice none 0 0] E.t_mallowlaw11_Model) w6 fun b7 w8 =>
 AL (.cells #[.slice none 0 0, .slice none 0 0, .slice none 0 0] E.t_mallowlaw11_Model) w8 fun b9 w10 =>
 JOIN (Bool × Unit) (fun J11 =>
 CND (r3.isNone) (
 J11 (true, ()) w10
 ) (
 CND (r5.isNone) (
 J11 (true, ()) w10
 ) (
 F.arena_Map_Chunks E r3 (fun r14 w15 =>
 isFn (r14) = true ∧
 CND (isNilF r14) (
 J11 (true, ()) w15
 ) (
 F.arena_Map_Chunks E r5 (fun r16 w17 =>
 isFn (r16) = true ∧
 J11 (isNilF r16, ()) w17
 ) w15
 )
 ) w10
 )
 )
 ) fun s12 _ w13 =>
 CND (s12.1) (
 K false w13
 ) (
 LOOP (Int × Unit) (0, ()) w13 fun s18 _ w19 next20 =>
 CND (decide ((s18.1 : Int) < ((a0.len : Nat) : Int))) (
 JOIN (Bool × Unit) (fun J21 =>
 CND (decide ((s18.1 : Int) < ((a1.len : Nat) : Int))) (
 NC a1.base fun p24 =>
 ((0 : Int) ≤ s18.1 ∧ (s18.1 : Int) < (a1.len : Nat)) ∧
 ∃ x25 : Bool, w19.cell? (p24.add (Int.toNat s18.1 * 1)) = some (.bool x25) ∧
 J21 (x25, ()) w19
 ) (
 J21 (false, ()) w19
 )
 ) fun s22 _ w23 =>
 CND (s22.1) (
 NC a0.base fun p26 =>
 ((0 : Int) ≤ s18.1 ∧ (s18.1 : Int) < (a0.len : Nat)) ∧
 ∃ c27 : Int, w23.cell? ((p26.add (Int.toNat s18.1 * 4)).add 0) = some (.int .i64 c27) ∧
 ∃ c28 : Int, w23.cell? ((p26.add (Int.toNat s18.1 * 4)).add 1) = some (.int .u64 c28) ∧
 ∃ c29 : Int, w23.cell? ((p26.add (Int.toNat s18.1 * 4)).add 2) = some (.int .u64 c29) ∧
 ∃ c30 : Int, w23.cell? ((p26.add (Int.toNat s18.1 * 4)).add 3) = some (.int .i64 c30) ∧
 F.mallowlaw11_act E r5 (some (Addr.mk b9 0 none)) c27 c28 c29 c30 (fun r31 w32 =>
 CND (!r31) (
 K false w32
 ) (
 next20 (i64 (s18.1 + 1), ()) w32
 )
 ) w23
 ) (
 NC a0.base fun p33 =>
 ((0 : Int) ≤ s18.1 ∧ (s18.1 : Int) < (a0.len : Nat)) ∧
 ∃ c34 : Int, w23.cell? ((p33.add (Int.toNat s18.1 * 4)).add 0) = some (.int .i64 c34) ∧
 ∃ c35 : Int, w23.cell? ((p33.add (Int.toNat s18.1 * 4)).add 1) = some (.int .u64 c35) ∧
 ∃ c36 : Int, w23.cell? ((p33.add (Int.toNat s18.1 * 4)).add 2) = some (.int .u64 c36) ∧
 ∃ c37 : Int, w23.cell? ((p33.add (Int.toNat s18.1 * 4)).add 3) = some (.int .i64 c37) ∧
 F.mallowlaw11_act E r3 (some (Addr.mk b7 0 none)) c34 c35 c36 c37 (fun r38 w39 =>
 CND (!r38) (
 K false w39
 ) (
 next20 (i64 (s18.1 + 1), ()) w39
 )
 ) w23
 )
 ) (
 F.mallowlaw11_act E r3 (some (Addr.mk b7 0 none)) 4 0 0 0 (fun r40 w41 =>
 CND (r40) (
 F.mallowlaw11_act E r5 (some (Addr.mk b9 0 none)) 4 0 0 0 (fun r42 w43 =>
 CND (r42) (
 F.mallowlaw11_awake E  (fun r44 w45 =>
 K r44 w45
 ) w43
 ) (
 K false w43
 )
 ) w41
 ) (
 K false w41
 )
 ) w19
 )
 )
 ) w4
 ) w2
 )
 ) w

def F.arena_rising (E : Env) (a0 : SlV) (K : Value → World → Prop) (w : World) : Prop :=
 AL (.cells #[.slice a0.base a0.len a0.cap] E.t___stretch_One) w fun b1 w2 =>
 K (.func (.func E.f_arena_rising_1) #[] #[.pointer (some (Addr.mk b1 0 none))]) w2

def F.arena_Map_Chunks_1 (E : Env) (a0 : Value) (a1 : (Option Addr)) (K : World → Prop) (w : World) : Prop :=
 AL (.cells (Value.cells a0) E.t_func_uint64_bool) w fun b1 w2 =>
 NC a1 fun p3 =>
 ∃ x4 : SlV, w2.cell? p3 = some (.slice x4.base x4.len x4.cap) ∧
 F.arena_rising E x4 (fun r5 w6 =>
 RNGF E.seq (r5) w6 (fun x7 w8 next9 ret10 brk11 =>
 ∃ x12 : Value, w8.cell? (Addr.mk b1 0 none) = some (x12) ∧
 DYNY E.call E.yld x12 #[.int .u64 x7] w8 fun r13 w14 =>
 ∃ x15 : Bool, r13 = .bool x15 ∧
 CND (!x15) (
 ret10 w14
 ) (
 next9 w14
 )
 ) (fun D16 w17 =>
 COL D16 w17 fun w18 =>
 K  w18
 ) (fun D19 w20 =>
 COL D19 w20 fun w21 =>
 K  w21
 ) []
 ) w2

def F.arena_rising_1 (E : Env) (a0 : Value) (a1 : (Option Addr)) (K : World → Prop) (w : World) : Prop :=
 NC a1 fun p1 =>
 ∃ x2 : SlV, w.cell? p1 = some (.slice x2.base x2.len x2.cap) ∧
 LOOP (Int × Unit) (0, ()) w fun s3 _ w4 next5 =>
 CND (decide ((s3.1 : Int) < ((x2.len : Nat) : Int))) (
 NC x2.base fun p6 =>
 ((0 : Int) ≤ s3.1 ∧ (s3.1 : Int) < (x2.len : Nat)) ∧
 ∃ c7 : Int, w4.cell? ((p6.add (Int.toNat s3.1 * 2)).add 0) = some (.int .u64 c7) ∧
 ∃ c8 : Int, w4.cell? ((p6.add (Int.toNat s3.1 * 2)).add 1) = some (.int .u64 c8) ∧
 AL (.cells #[.int .u64 0, .int .u64 0] E.t_stretch_One) w4 fun b9 w10 =>
 stCells (Addr.mk b9 0 none) 0 [.int .u64 c7, .int .u64 c8] w10 fun w11 =>
 ∃ x12 : Int, w11.cell? (Addr.mk b9 0 none) = some (.int .u64 x12) ∧
 LOOP (Int × Unit) (x12, ()) w11 fun s13 _ w14 next15 =>
 ∃ x16 : Int, w14.cell? ((Addr.mk b9 0 none).add 1) = some (.int .u64 x16) ∧
 CND (decide ((s13.1 : Int) < x16)) (
 DYNY E.call E.yld a0 #[.int .u64 s13.1] w14 fun r17 w18 =>
 ∃ x19 : Bool, r17 = .bool x19 ∧
 CND (!x19) (
 K  w18
 ) (
 next15 (u64 (s13.1 + 1), ()) w18
 )
 ) (
 next5 (i64 (s3.1 + 1), ()) w14
 )
 ) (
 K  w4
 )

def F.arena_Map_leaf (E : Env) (a0 : (Option Addr)) (a1 : Int) (K : (Option Addr) → World → Prop) (w : World) : Prop :=
 NC a0 fun p1 =>
 ∃ x2 : (Option Nat), w.cell? (p1.add 3) = some (.map x2) ∧
 LKP .u64 a1 x2 w (.pointer none) fun v3 ok4 es5 =>
 ∃ x6 : (Option Addr), v3 = .pointer x6 ∧
 CND (x6.isNone) (
 F.arena_Map_whole E a0 a1 (fun r7 w8 =>
 F.arena_Map_cut E a0 a1 (u64 (a1 + 1)) (fun  w9 =>
 AL (.cells (Array.replicate 512 (.int .i64 0)) E.t__512_int) w9 fun b10 w11 =>
 LOOP (Int × Unit) (0, ()) w11 fun s12 _ w13 next14 =>
 CND (decide ((s12.1 : Int) < 512)) (
 ((0 : Int) ≤ s12.1 ∧ (s12.1 : Int) < (512 : Nat)) ∧
 stCells ((Addr.mk b10 0 none).add (Int.toNat s12.1 * 1)) 0 [.int .i64 r7] w13 fun w15 =>
 next14 (i64 (s12.1 + 1), ()) w15
 ) (
 NC a0 fun p16 =>
 ∃ x17 : (Option Nat), w13.cell? (p16.add 3) = some (.map x17) ∧
 MUPD .u64 a1 (.pointer (some (Addr.mk b10 0 none))) x17 w13 fun w18 =>
 K (some (Addr.mk b10 0 none)) w18
 )
 ) w8
 ) w
 ) (
 K x6 w
 )

def F.arena_Map_Set_1 (E : Env) (a0 : Int) (a1 : Int) (a2 : (Option Addr)) (a3 : (Option Addr)) (K : World → Prop) (w : World) : Prop :=
 LOOP (Int × Unit) (a0, ()) w fun s1 _ w2 next3 =>
 CND (decide ((s1.1 : Int) < a1)) (
 NC a3 fun p4 =>
 ∃ x5 : (Option Addr), w2.drew.cell? p4 = some (.pointer x5) ∧
 512 ≠ (0 : Int) ∧
 512 ≠ (0 : Int) ∧
 NC a2 fun p6 =>
 ∃ x7 : Int, w2.drew.cell? p6 = some (.int .i64 x7) ∧
 F.arena_Map_leaf E x5 (u64 (Int.tdiv s1.1 512)) (fun r8 w9 =>
 w9.cell? p6 = some (.int .i64 x7) ∧
 NC r8 fun p10 =>
 ((0 : Int) ≤ (Int.tmod s1.1 512) ∧ ((Int.tmod s1.1 512) : Int) < (512 : Nat)) ∧
 stCells (p10.add (Int.toNat (Int.tmod s1.1 512) * 1)) 0 [.int .i64 x7] w9 fun w11 =>
 next3 (u64 (s1.1 + 1), ()) w11
 ) w2.drew
 ) (
 K  w2
 )

def F.stretch_Set_at_1 (E : Env) (a0 : Int) (a1 : (Option Addr)) (a2 : (Option Addr)) (K : Bool → World → Prop) (w : World) : Prop :=
 NC a1 fun p1 =>
 ∃ x2 : (Option Addr), w.drew.cell? p1 = some (.pointer x2) ∧
 NC x2 fun p3 =>
 ∃ x4 : SlV, w.drew.cell? p3 = some (.slice x4.base x4.len x4.cap) ∧
 NC x4.base fun p5 =>
 ((0 : Int) ≤ a0 ∧ (a0 : Int) < (x4.len : Nat)) ∧
 ∃ x6 : Int, w.drew.cell? ((p5.add (Int.toNat a0 * 2)).add 1) = some (.int .u64 x6) ∧
 NC a2 fun p7 =>
 ∃ x8 : Int, w.drew.cell? p7 = some (.int .u64 x8) ∧
 K (decide ((x6 : Int) > x8)) w.drew

end Go.Sh

