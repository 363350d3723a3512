/- The shallow forms of the functions, printed by a program. No further condition. -/
import Derived.Test.YtnmbkhckcjkopaaDoorSh
set_option linter.all false
set_option maxRecDepth 100000
namespace Go.Sh

structure Env where
  call : Calling
  t_map_uint64_api_Sum : Nat
  t_radix_Tree : Nat
  t_pcache_Cache : Nat
  t__stretch_Set : Nat
  t_uint64 : Nat
  t_stretch_One : Nat
  t_bool : Nat
  t__pcache_Cache : Nat
  t_mallowref8_Chunk : Nat
  t_mallowref9_Part : Nat
  t_mallowref6_Row : Nat
  t_mallowlaw10_Act : Nat
  t_mallowref9_Tree : Nat
  t_mallowref10_Cache : Nat
  f_stretch_Set_at_1 : Nat
  g_math_bits_deBruijn64tab : Nat

def F.radix_Tree_changed (E : Env) (a0 : (Option Addr)) (K : World → Prop) (w : World) : Prop :=
  NC a0 fun p1 =>
  stCells (p1.add 8) 0 [.slice none 0 0] w fun w2 =>
  LOOP (Int × Unit) (0, ()) w2 fun s3 _ w4 next5 =>
    CND (decide ((s3.1 : Int) < 4)) (
      NC a0 fun p6 =>
      ∃ x7 : SlV, w4.cell? (p6.add 8) = some (.slice x7.base x7.len x7.cap) ∧
      AL (.map #[] 0) w4 fun b8 w9 =>
      AL (.cells ⟨[.map (some b8)]⟩ E.t_map_uint64_api_Sum) w9 fun b10 w11 =>
      APP E.t_map_uint64_api_Sum 1 8 #[.map none] x7 ⟨(some (Addr.mk b10 0 none)), 1, 1⟩ w11 fun s12 w13 =>
      NC a0 fun p14 =>
      stCells (p14.add 8) 0 [.slice s12.base s12.len s12.cap] w13 fun w15 =>
      next5 (i64 (s3.1 + 1), ()) w15
    ) (
      K  w4
    )

def F.radix_New (E : Env)  (K : (Option Addr) → World → Prop) (w : World) : Prop :=
  AL (.cells #[.slice none 0 0, .int .u64 0, .slice none 0 0, .int .u64 0, .slice none 0 0, .int .u64 0, .slice none 0 0, .int .u64 0, .slice none 0 0] E.t_radix_Tree) w fun b1 w2 =>
  F.radix_Tree_changed E (some (Addr.mk b1 0 none)) (fun  w3 =>
  K (some (Addr.mk b1 0 none)) w3
  ) w2

def F.pcache_New (E : Env)  (K : (Option Addr) → World → Prop) (w : World) : Prop :=
  AL (.cells #[.int .u64 0, .int .u64 0, .int .u64 0] E.t_pcache_Cache) w fun b1 w2 =>
  K (some (Addr.mk b1 0 none)) w2

def F.sort_Search (E : Env) (a0 : Int) (a1 : Value) (K : Int → World → Prop) (w : World) : Prop :=
  LOOP (Int × Int × Unit) (0, a0, ()) w fun s1 _ w2 next3 =>
    CND (decide ((s1.1 : Int) < s1.2.1)) (
      (0 : Int) ≤ 1 ∧
      LET (i64 (Int.fdiv (u64 (i64 (s1.1 + s1.2.1))) (2 ^ (min (Int.toNat 1) (IntKind.bits .u64)))) : Int) fun h_4 =>
      DYN E.call a1 #[.int .i64 h_4] w2 fun r5 w6 =>
      ∃ x7 : Bool, r5 = .bool x7 ∧
      CND (!x7) (
        next3 (i64 (h_4 + 1), s1.2.1, ()) w6
      ) (
        next3 (s1.1, h_4, ()) w6
      )
    ) (
      K s1.1 w2
    )

def F.stretch_Set_at (E : Env) (a0 : (Option Addr)) (a1 : Int) (K : Int → World → Prop) (w : World) : Prop :=
  AL (.cells #[.pointer a0] E.t__stretch_Set) w fun b1 w2 =>
  AL (.cells #[.int .u64 a1] E.t_uint64) w2 fun b3 w4 =>
  ∃ x5 : (Option Addr), w4.cell? (Addr.mk b1 0 none) = some (.pointer x5) ∧
  NC x5 fun p6 =>
  ∃ x7 : SlV, w4.cell? p6 = some (.slice x7.base x7.len x7.cap) ∧
  F.sort_Search E ((x7.len : Nat) : Int) (.func (.func E.f_stretch_Set_at_1) #[] #[.pointer (some (Addr.mk b1 0 none)), .pointer (some (Addr.mk b3 0 none))]) (fun r8 w9 =>
  K r8 w9
  ) w4

def F.stretch_Set_Count (E : Env) (a0 : (Option Addr)) (a1 : Int) (a2 : Int) (K : Int → World → Prop) (w : World) : Prop :=
  F.stretch_Set_at E a0 a1 (fun r1 w2 =>
  LOOP (Int × Int × Unit) (0, r1, ()) w2 fun s3 _ w4 next5 =>
    NC a0 fun p6 =>
    ∃ x7 : SlV, w4.cell? p6 = some (.slice x7.base x7.len x7.cap) ∧
    CND (decide ((s3.2.1 : Int) < ((x7.len : Nat) : Int))) (
      NC a0 fun p8 =>
      ∃ x9 : SlV, w4.cell? p8 = some (.slice x9.base x9.len x9.cap) ∧
      NC x9.base fun p10 =>
      ((0 : Int) ≤ s3.2.1 ∧ (s3.2.1 : Int) < (x9.len : Nat)) ∧
      ∃ x11 : Int, w4.cell? (p10.add (Int.toNat s3.2.1 * 2)) = some (.int .u64 x11) ∧
      CND (decide ((x11 : Int) < a2)) (
        NC a0 fun p12 =>
        ∃ x13 : SlV, w4.drew.cell? p12 = some (.slice x13.base x13.len x13.cap) ∧
        NC x13.base fun p14 =>
        ((0 : Int) ≤ s3.2.1 ∧ (s3.2.1 : Int) < (x13.len : Nat)) ∧
        ∃ x15 : Int, w4.drew.cell? ((p14.add (Int.toNat s3.2.1 * 2)).add 1) = some (.int .u64 x15) ∧
        NC a0 fun p16 =>
        ∃ x17 : SlV, w4.drew.cell? p16 = some (.slice x17.base x17.len x17.cap) ∧
        NC x17.base fun p18 =>
        ((0 : Int) ≤ s3.2.1 ∧ (s3.2.1 : Int) < (x17.len : Nat)) ∧
        ∃ x19 : Int, w4.drew.cell? (p18.add (Int.toNat s3.2.1 * 2)) = some (.int .u64 x19) ∧
        LET (u64 (s3.1 + (u64 ((minI x15 a2) - (maxI x19 a1)))) : Int) fun n_20 =>
        next5 (n_20, i64 (s3.2.1 + 1), ()) w4.drew
      ) (
        K s3.1 w4
      )
    ) (
      K s3.1 w4
    )
  ) w

def F.stretch_Set_Cut (E : Env) (a0 : (Option Addr)) (a1 : Int) (a2 : Int) (K : World → Prop) (w : World) : Prop :=
  CND (decide ((a1 : Int) ≥ a2)) (
    K  w
  ) (
    NC a0 fun p1 =>
    ∃ x2 : Int, w.drew.cell? (p1.add 1) = some (.int .u64 x2) ∧
    F.stretch_Set_Count E a0 a1 a2 (fun r3 w4 =>
    w4.cell? (p1.add 1) = some (.int .u64 x2) ∧
    NC a0 fun p5 =>
    stCells (p5.add 1) 0 [.int .u64 (u64 (x2 - r3))] w4 fun w6 =>
    F.stretch_Set_at E a0 a1 (fun r7 w8 =>
    JOIN (Int × SlV × Unit) (fun J9 =>
      LOOP (Int × SlV × Unit) (r7, ⟨none, 0, 0⟩, ()) w8 fun s12 _ w13 next14 =>
        NC a0 fun p15 =>
        ∃ x16 : SlV, w13.cell? p15 = some (.slice x16.base x16.len x16.cap) ∧
        CND (decide ((s12.1 : Int) < ((x16.len : Nat) : Int))) (
          NC a0 fun p17 =>
          ∃ x18 : SlV, w13.cell? p17 = some (.slice x18.base x18.len x18.cap) ∧
          NC x18.base fun p19 =>
          ((0 : Int) ≤ s12.1 ∧ (s12.1 : Int) < (x18.len : Nat)) ∧
          ∃ x20 : Int, w13.cell? (p19.add (Int.toNat s12.1 * 2)) = some (.int .u64 x20) ∧
          CND (decide ((x20 : Int) < a2)) (
            NC a0 fun p21 =>
            ∃ x22 : SlV, w13.cell? p21 = some (.slice x22.base x22.len x22.cap) ∧
            NC x22.base fun p23 =>
            ((0 : Int) ≤ s12.1 ∧ (s12.1 : Int) < (x22.len : Nat)) ∧
            ∃ c24 : Int, w13.cell? ((p23.add (Int.toNat s12.1 * 2)).add 0) = some (.int .u64 c24) ∧
            ∃ c25 : Int, w13.cell? ((p23.add (Int.toNat s12.1 * 2)).add 1) = some (.int .u64 c25) ∧
            AL (.cells #[.int .u64 0, .int .u64 0] E.t_stretch_One) w13 fun b26 w27 =>
            stCells (Addr.mk b26 0 none) 0 [.int .u64 c24, .int .u64 c25] w27 fun w28 =>
            JOIN (SlV × Unit) (fun J29 =>
              ∃ x32 : Int, w28.cell? (Addr.mk b26 0 none) = some (.int .u64 x32) ∧
              CND (decide ((x32 : Int) < a1)) (
                ∃ x33 : Int, w28.cell? (Addr.mk b26 0 none) = some (.int .u64 x33) ∧
                AL (.cells ⟨[.int .u64 x33, .int .u64 a1]⟩ E.t_stretch_One) w28 fun b34 w35 =>
                APP E.t_stretch_One 2 16 #[.int .u64 0, .int .u64 0] s12.2.1 ⟨(some (Addr.mk b34 0 none)), 1, 1⟩ w35 fun s36 w37 =>
                J29 (s36, ()) w37
              ) (
                J29 (s12.2.1, ()) w28
              )
            ) fun s30 _ w31 =>
              ∃ x38 : Int, w31.cell? ((Addr.mk b26 0 none).add 1) = some (.int .u64 x38) ∧
              CND (decide ((x38 : Int) > a2)) (
                ∃ x39 : Int, w31.cell? ((Addr.mk b26 0 none).add 1) = some (.int .u64 x39) ∧
                AL (.cells ⟨[.int .u64 a2, .int .u64 x39]⟩ E.t_stretch_One) w31 fun b40 w41 =>
                APP E.t_stretch_One 2 16 #[.int .u64 0, .int .u64 0] s30.1 ⟨(some (Addr.mk b40 0 none)), 1, 1⟩ w41 fun s42 w43 =>
                next14 (i64 (s12.1 + 1), s42, ()) w43
              ) (
                next14 (i64 (s12.1 + 1), s30.1, ()) w31
              )
          ) (
            J9 (s12.1, s12.2.1, ()) w13
          )
        ) (
          J9 (s12.1, s12.2.1, ()) w13
        )
    ) fun s10 _ w11 =>
      NC a0 fun p44 =>
      ∃ x45 : SlV, w11.drew.cell? p44 = some (.slice x45.base x45.len x45.cap) ∧
      ((0 : Int) ≤ r7 ∧ (r7 : Int) ≤ (x45.cap : Nat)) ∧
      NC a0 fun p46 =>
      ∃ x47 : SlV, w11.drew.cell? p46 = some (.slice x47.base x47.len x47.cap) ∧
      ((0 : Int) ≤ s10.1 ∧ (s10.1 : Int) ≤ (x47.len : Nat)) ∧
      AL (.cells ⟨[]⟩ E.t_stretch_One) w11.drew fun b48 w49 =>
      w49.cell? p46 = some (.slice x47.base x47.len x47.cap) ∧
      w49.cell? p44 = some (.slice x45.base x45.len x45.cap) ∧
      APP E.t_stretch_One 2 16 #[.int .u64 0, .int .u64 0] ⟨(some (Addr.mk b48 0 none)), 0, 0⟩ ⟨(slB x45.base x45.cap 0 2), (Int.toNat r7), x45.cap⟩ w49 fun s50 w51 =>
      w51.cell? p46 = some (.slice x47.base x47.len x47.cap) ∧
      w51.cell? p44 = some (.slice x45.base x45.len x45.cap) ∧
      APP E.t_stretch_One 2 16 #[.int .u64 0, .int .u64 0] s50 s10.2.1 w51 fun s52 w53 =>
      w53.cell? p46 = some (.slice x47.base x47.len x47.cap) ∧
      w53.cell? p44 = some (.slice x45.base x45.len x45.cap) ∧
      APP E.t_stretch_One 2 16 #[.int .u64 0, .int .u64 0] s52 ⟨(slB x47.base x47.cap (Int.toNat s10.1) 2), (x47.len - (Int.toNat s10.1)), (x47.cap - (Int.toNat s10.1))⟩ w53 fun s54 w55 =>
      w55.cell? p46 = some (.slice x47.base x47.len x47.cap) ∧
      w55.cell? p44 = some (.slice x45.base x45.len x45.cap) ∧
      NC a0 fun p56 =>
      stCells p56 0 [.slice s54.base s54.len s54.cap] w55 fun w57 =>
      K  w57
    ) w6
    ) w.drew
  )

def F.stretch_Set_Add (E : Env) (a0 : (Option Addr)) (a1 : Int) (a2 : Int) (K : World → Prop) (w : World) : Prop :=
  CND (decide ((a1 : Int) ≥ a2)) (
    K  w
  ) (
    F.stretch_Set_Cut E a0 a1 a2 (fun  w1 =>
    NC a0 fun p2 =>
    ∃ x3 : Int, w1.cell? (p2.add 1) = some (.int .u64 x3) ∧
    NC a0 fun p4 =>
    stCells (p4.add 1) 0 [.int .u64 (u64 (x3 + (u64 (a2 - a1))))] w1 fun w5 =>
    F.stretch_Set_at E a0 a1 (fun r6 w7 =>
    AL (.cells #[.int .u64 0, .int .u64 0] E.t_stretch_One) w7 fun b8 w9 =>
    stCells (Addr.mk b8 0 none) 0 [.int .u64 a1, .int .u64 a2] w9 fun w10 =>
    JOIN (Int × Unit) (fun J11 =>
      JOIN (Bool × Unit) (fun J14 =>
        NC a0 fun p17 =>
        ∃ x18 : SlV, w10.cell? p17 = some (.slice x18.base x18.len x18.cap) ∧
        CND (decide ((r6 : Int) < ((x18.len : Nat) : Int))) (
          NC a0 fun p19 =>
          ∃ x20 : SlV, w10.cell? p19 = some (.slice x20.base x20.len x20.cap) ∧
          NC x20.base fun p21 =>
          ((0 : Int) ≤ r6 ∧ (r6 : Int) < (x20.len : Nat)) ∧
          ∃ x22 : Int, w10.cell? (p21.add (Int.toNat r6 * 2)) = some (.int .u64 x22) ∧
          J14 ((x22 : Int) == a2, ()) w10
        ) (
          J14 (false, ()) w10
        )
      ) fun s15 _ w16 =>
        CND (s15.1) (
          NC a0 fun p23 =>
          ∃ x24 : SlV, w16.cell? p23 = some (.slice x24.base x24.len x24.cap) ∧
          NC x24.base fun p25 =>
          ((0 : Int) ≤ r6 ∧ (r6 : Int) < (x24.len : Nat)) ∧
          ∃ x26 : Int, w16.cell? ((p25.add (Int.toNat r6 * 2)).add 1) = some (.int .u64 x26) ∧
          stCells ((Addr.mk b8 0 none).add 1) 0 [.int .u64 x26] w16 fun w27 =>
          J11 (i64 (r6 + 1), ()) w27
        ) (
          J11 (r6, ()) w16
        )
    ) fun s12 _ w13 =>
      JOIN (Int × Unit) (fun J28 =>
        JOIN (Bool × Unit) (fun J31 =>
          CND (decide ((r6 : Int) > 0)) (
            NC a0 fun p34 =>
            ∃ x35 : SlV, w13.cell? p34 = some (.slice x35.base x35.len x35.cap) ∧
            NC x35.base fun p36 =>
            ((0 : Int) ≤ (i64 (r6 - 1)) ∧ ((i64 (r6 - 1)) : Int) < (x35.len : Nat)) ∧
            ∃ x37 : Int, w13.cell? ((p36.add (Int.toNat (i64 (r6 - 1)) * 2)).add 1) = some (.int .u64 x37) ∧
            J31 ((x37 : Int) == a1, ()) w13
          ) (
            J31 (false, ()) w13
          )
        ) fun s32 _ w33 =>
          CND (s32.1) (
            NC a0 fun p38 =>
            ∃ x39 : SlV, w33.cell? p38 = some (.slice x39.base x39.len x39.cap) ∧
            NC x39.base fun p40 =>
            ((0 : Int) ≤ (i64 (r6 - 1)) ∧ ((i64 (r6 - 1)) : Int) < (x39.len : Nat)) ∧
            ∃ x41 : Int, w33.cell? (p40.add (Int.toNat (i64 (r6 - 1)) * 2)) = some (.int .u64 x41) ∧
            stCells (Addr.mk b8 0 none) 0 [.int .u64 x41] w33 fun w42 =>
            J28 (i64 (r6 - 1), ()) w42
          ) (
            J28 (r6, ()) w33
          )
      ) fun s29 _ w30 =>
        NC a0 fun p43 =>
        ∃ x44 : SlV, w30.drew.cell? p43 = some (.slice x44.base x44.len x44.cap) ∧
        ((0 : Int) ≤ s29.1 ∧ (s29.1 : Int) ≤ (x44.cap : Nat)) ∧
        ∃ c45 : Int, w30.drew.cell? ((Addr.mk b8 0 none).add 0) = some (.int .u64 c45) ∧
        ∃ c46 : Int, w30.drew.cell? ((Addr.mk b8 0 none).add 1) = some (.int .u64 c46) ∧
        NC a0 fun p47 =>
        ∃ x48 : SlV, w30.drew.cell? p47 = some (.slice x48.base x48.len x48.cap) ∧
        ((0 : Int) ≤ s12.1 ∧ (s12.1 : Int) ≤ (x48.len : Nat)) ∧
        (
          AL (.cells ⟨[]⟩ E.t_stretch_One) w30.drew fun b49 w50 =>
          w50.cell? p47 = some (.slice x48.base x48.len x48.cap) ∧
          (w50.cell? ((Addr.mk b8 0 none).add 0) = some (.int .u64 c45) ∧ (w50.cell? ((Addr.mk b8 0 none).add 1) = some (.int .u64 c46) ∧ True)) ∧
          w50.cell? p43 = some (.slice x44.base x44.len x44.cap) ∧
          (
            APP E.t_stretch_One 2 16 #[.int .u64 0, .int .u64 0] ⟨(some (Addr.mk b49 0 none)), 0, 0⟩ ⟨(slB x44.base x44.cap 0 2), (Int.toNat s29.1), x44.cap⟩ w50 fun s51 w52 =>
            w52.cell? p47 = some (.slice x48.base x48.len x48.cap) ∧
            (w52.cell? ((Addr.mk b8 0 none).add 0) = some (.int .u64 c45) ∧ (w52.cell? ((Addr.mk b8 0 none).add 1) = some (.int .u64 c46) ∧ True)) ∧
            w52.cell? p43 = some (.slice x44.base x44.len x44.cap) ∧
            AL (.cells ⟨[.int .u64 c45, .int .u64 c46]⟩ E.t_stretch_One) w52 fun b53 w54 =>
            w54.cell? p47 = some (.slice x48.base x48.len x48.cap) ∧
            w54.cell? p43 = some (.slice x44.base x44.len x44.cap) ∧
            APP E.t_stretch_One 2 16 #[.int .u64 0, .int .u64 0] s51 ⟨(some (Addr.mk b53 0 none)), 1, 1⟩ w54 fun s55 w56 =>
            w56.cell? p47 = some (.slice x48.base x48.len x48.cap) ∧
            w56.cell? p43 = some (.slice x44.base x44.len x44.cap) ∧
            APP E.t_stretch_One 2 16 #[.int .u64 0, .int .u64 0] s55 ⟨(slB x48.base x48.cap (Int.toNat s12.1) 2), (x48.len - (Int.toNat s12.1)), (x48.cap - (Int.toNat s12.1))⟩ w56 fun s57 w58 =>
            w58.cell? p47 = some (.slice x48.base x48.len x48.cap) ∧
            w58.cell? p43 = some (.slice x44.base x44.len x44.cap) ∧
            NC a0 fun p59 =>
            stCells p59 0 [.slice s57.base s57.len s57.cap] w58 fun w60 =>
            K  w60

          ) ∧ (
            AL (.cells ⟨[.int .u64 c45, .int .u64 c46]⟩ E.t_stretch_One) w50 fun b61 w62 =>
            w62.cell? p47 = some (.slice x48.base x48.len x48.cap) ∧
            w62.cell? p43 = some (.slice x44.base x44.len x44.cap) ∧
            APP E.t_stretch_One 2 16 #[.int .u64 0, .int .u64 0] ⟨(some (Addr.mk b49 0 none)), 0, 0⟩ ⟨(slB x44.base x44.cap 0 2), (Int.toNat s29.1), x44.cap⟩ w62 fun s63 w64 =>
            w64.cell? p47 = some (.slice x48.base x48.len x48.cap) ∧
            w64.cell? p43 = some (.slice x44.base x44.len x44.cap) ∧
            APP E.t_stretch_One 2 16 #[.int .u64 0, .int .u64 0] s63 ⟨(some (Addr.mk b61 0 none)), 1, 1⟩ w64 fun s65 w66 =>
            w66.cell? p47 = some (.slice x48.base x48.len x48.cap) ∧
            w66.cell? p43 = some (.slice x44.base x44.len x44.cap) ∧
            APP E.t_stretch_One 2 16 #[.int .u64 0, .int .u64 0] s65 ⟨(slB x48.base x48.cap (Int.toNat s12.1) 2), (x48.len - (Int.toNat s12.1)), (x48.cap - (Int.toNat s12.1))⟩ w66 fun s67 w68 =>
            w68.cell? p47 = some (.slice x48.base x48.len x48.cap) ∧
            w68.cell? p43 = some (.slice x44.base x44.len x44.cap) ∧
            NC a0 fun p69 =>
            stCells p69 0 [.slice s67.base s67.len s67.cap] w68 fun w70 =>
            K  w70
          )

        ) ∧ (
          AL (.cells ⟨[.int .u64 c45, .int .u64 c46]⟩ E.t_stretch_One) w30.drew fun b71 w72 =>
          w72.cell? p47 = some (.slice x48.base x48.len x48.cap) ∧
          w72.cell? p43 = some (.slice x44.base x44.len x44.cap) ∧
          AL (.cells ⟨[]⟩ E.t_stretch_One) w72 fun b73 w74 =>
          w74.cell? p47 = some (.slice x48.base x48.len x48.cap) ∧
          w74.cell? p43 = some (.slice x44.base x44.len x44.cap) ∧
          APP E.t_stretch_One 2 16 #[.int .u64 0, .int .u64 0] ⟨(some (Addr.mk b73 0 none)), 0, 0⟩ ⟨(slB x44.base x44.cap 0 2), (Int.toNat s29.1), x44.cap⟩ w74 fun s75 w76 =>
          w76.cell? p47 = some (.slice x48.base x48.len x48.cap) ∧
          w76.cell? p43 = some (.slice x44.base x44.len x44.cap) ∧
          APP E.t_stretch_One 2 16 #[.int .u64 0, .int .u64 0] s75 ⟨(some (Addr.mk b71 0 none)), 1, 1⟩ w76 fun s77 w78 =>
          w78.cell? p47 = some (.slice x48.base x48.len x48.cap) ∧
          w78.cell? p43 = some (.slice x44.base x44.len x44.cap) ∧
          APP E.t_stretch_One 2 16 #[.int .u64 0, .int .u64 0] s77 ⟨(slB x48.base x48.cap (Int.toNat s12.1) 2), (x48.len - (Int.toNat s12.1)), (x48.cap - (Int.toNat s12.1))⟩ w78 fun s79 w80 =>
          w80.cell? p47 = some (.slice x48.base x48.len x48.cap) ∧
          w80.cell? p43 = some (.slice x44.base x44.len x44.cap) ∧
          NC a0 fun p81 =>
          stCells p81 0 [.slice s79.base s79.len s79.cap] w80 fun w82 =>
          K  w82
        )
    ) w5
    ) w
  )

def F.radix_Tree_Grow (E : Env) (a0 : (Option Addr)) (a1 : Int) (a2 : Int) (K : Int → World → Prop) (w : World) : Prop :=
  JOIN (Bool × Unit) (fun J1 =>
    CND ((a2 : Int) == 0) (
      J1 (true, ()) w
    ) (
      CND (decide ((a2 : Int) > 262144)) (
        J1 (true, ()) w
      ) (
        CND (decide ((a1 : Int) > 67108864)) (
          J1 (true, ()) w
        ) (
          J1 (decide ((a2 : Int) > (u64 (67108864 - a1))), ()) w
        )
      )
    )
  ) fun s2 _ w3 =>
    CND (s2.1) (
      K 1 w3
    ) (
      LET (u64 ((u64 (a1 + a2)) * 512) : Int) fun to_4 =>
      NC a0 fun p5 =>
      F.stretch_Set_Count E (some p5) (u64 (a1 * 512)) to_4 (fun r6 w7 =>
      CND (decide ((r6 : Int) > 0)) (
        K 34 w7
      ) (
        NC a0 fun p8 =>
        F.stretch_Set_Add E (some p8) (u64 (a1 * 512)) to_4 (fun  w9 =>
        NC a0 fun p10 =>
        F.stretch_Set_Add E (some (p10.add 2)) (u64 (a1 * 512)) to_4 (fun  w11 =>
        NC a0 fun p12 =>
        F.stretch_Set_Add E (some (p12.add 4)) (u64 (a1 * 512)) to_4 (fun  w13 =>
        F.radix_Tree_changed E a0 (fun  w14 =>
        K 0 w14
        ) w13
        ) w11
        ) w9
        ) w7
      )
      ) w3
    )

def F.stretch_Set_All (E : Env) (a0 : (Option Addr)) (K : SlV → World → Prop) (w : World) : Prop :=
  NC a0 fun p1 =>
  ∃ x2 : SlV, w.cell? p1 = some (.slice x2.base x2.len x2.cap) ∧
  K x2 w

def F.radix_Tree_Find (E : Env) (a0 : (Option Addr)) (a1 : Int) (K : Int → Bool → World → Prop) (w : World) : Prop :=
  CND ((a1 : Int) == 0) (
    K 0 false w
  ) (
    NC a0 fun p1 =>
    F.stretch_Set_All E (some (p1.add 2)) (fun r2 w3 =>
    LOOP (Int × Unit) (0, ()) w3 fun s4 _ w5 next6 =>
      CND (decide ((s4.1 : Int) < ((r2.len : Nat) : Int))) (
        NC r2.base fun p7 =>
        ((0 : Int) ≤ s4.1 ∧ (s4.1 : Int) < (r2.len : Nat)) ∧
        ∃ c8 : Int, w5.cell? ((p7.add (Int.toNat s4.1 * 2)).add 0) = some (.int .u64 c8) ∧
        ∃ c9 : Int, w5.cell? ((p7.add (Int.toNat s4.1 * 2)).add 1) = some (.int .u64 c9) ∧
        AL (.cells #[.int .u64 0, .int .u64 0] E.t_stretch_One) w5 fun b10 w11 =>
        stCells (Addr.mk b10 0 none) 0 [.int .u64 c8, .int .u64 c9] w11 fun w12 =>
        ∃ x13 : Int, w12.cell? ((Addr.mk b10 0 none).add 1) = some (.int .u64 x13) ∧
        ∃ x14 : Int, w12.cell? (Addr.mk b10 0 none) = some (.int .u64 x14) ∧
        CND (decide (((u64 (x13 - x14)) : Int) ≥ a1)) (
          ∃ x15 : Int, w12.cell? (Addr.mk b10 0 none) = some (.int .u64 x15) ∧
          K x15 true w12
        ) (
          next6 (i64 (s4.1 + 1), ()) w12
        )
      ) (
        K 0 false w5
      )
    ) w
  )

def F.pcache_Cache_Empty (E : Env) (a0 : (Option Addr)) (K : Bool → World → Prop) (w : World) : Prop :=
  NC a0 fun p1 =>
  ∃ x2 : Int, w.cell? (p1.add 1) = some (.int .u64 x2) ∧
  K ((x2 : Int) == 0) w

def F.radix_Tree_looked (E : Env) (a0 : (Option Addr)) (a1 : Int) (a2 : Int) (a3 : Bool) (a4 : Int) (K : Int → World → Prop) (w : World) : Prop :=
  JOIN (Int × Unit) (fun J1 =>
    CND (a3) (
      J1 (a2, ()) w
    ) (
      J1 (0, ()) w
    )
  ) fun s2 _ w3 =>
    JOIN (Bool × Unit) (fun J4 =>
      CND ((a2 : Int) == 0) (
        J4 (true, ()) w3
      ) (
        CND (decide ((a1 : Int) ≥ 34359738368)) (
          J4 (true, ()) w3
        ) (
          CND (decide ((a2 : Int) > (u64 (34359738368 - a1)))) (
            J4 (true, ()) w3
          ) (
            NC a0 fun p7 =>
            F.stretch_Set_Count E (some p7) a1 (u64 (a1 + a2)) (fun r8 w9 =>
            J4 ((r8 : Int) != a2, ()) w9
            ) w3
          )
        )
      )
    ) fun s5 _ w6 =>
      CND (s5.1) (
        K 10 w6
      ) (
        NC a0 fun p10 =>
        F.stretch_Set_Count E (some (p10.add 2)) a1 (u64 (a1 + a2)) (fun r11 w12 =>
        CND ((r11 : Int) != s2.1) (
          K a4 w12
        ) (
          K 0 w12
        )
        ) w6
      )

def F.radix_Tree_Take (E : Env) (a0 : (Option Addr)) (a1 : Int) (a2 : Int) (K : Int → Int → World → Prop) (w : World) : Prop :=
  F.radix_Tree_looked E a0 a1 a2 true 32 (fun r1 w2 =>
  CND ((r1 : Int) != 0) (
    K 0 r1 w2
  ) (
    NC a0 fun p3 =>
    F.stretch_Set_Count E (some (p3.add 4)) a1 (u64 (a1 + a2)) (fun r4 w5 =>
    NC a0 fun p6 =>
    F.stretch_Set_Cut E (some (p6.add 2)) a1 (u64 (a1 + a2)) (fun  w7 =>
    NC a0 fun p8 =>
    F.stretch_Set_Cut E (some (p8.add 4)) a1 (u64 (a1 + a2)) (fun  w9 =>
    NC a0 fun p10 =>
    F.stretch_Set_Cut E (some (p10.add 6)) a1 (u64 (a1 + a2)) (fun  w11 =>
    F.radix_Tree_changed E a0 (fun  w12 =>
    K r4 0 w12
    ) w11
    ) w9
    ) w7
    ) w5
    ) w2
  )
  ) w

def F.pcache_Cache_Fill (E : Env) (a0 : (Option Addr)) (a1 : (Option Addr)) (K : Int → World → Prop) (w : World) : Prop :=
  F.radix_Tree_Find E a1 1 (fun r1 r2 w3 =>
  F.pcache_Cache_Empty E a0 (fun r4 w5 =>
  CND (!r4) (
    K 33 w5
  ) (
    CND (!r2) (
      K 30 w5
    ) (
      64 ≠ (0 : Int) ∧
      NC a0 fun p6 =>
      stCells p6 0 [.int .u64 (u64 ((u64 (Int.tdiv r1 64)) * 64))] w5 fun w7 =>
      LOOP (Int × Unit) (0, ()) w7 fun s8 _ w9 next10 =>
        CND (decide ((s8.1 : Int) < 64)) (
          NC a0 fun p11 =>
          ∃ x12 : Int, w9.cell? p11 = some (.int .u64 x12) ∧
          F.radix_Tree_Take E a1 (u64 (x12 + s8.1)) 1 (fun r13 r14 w15 =>
          CND ((r14 : Int) == 0) (
            NC a0 fun p16 =>
            ∃ x17 : Int, w15.cell? (p16.add 1) = some (.int .u64 x17) ∧
            (0 : Int) ≤ s8.1 ∧
            NC a0 fun p18 =>
            stCells (p18.add 1) 0 [.int .u64 (bitK .u64 1 x17 (u64 (1 * 2 ^ (min (Int.toNat s8.1) (IntKind.bits .u64)))))] w15 fun w19 =>
            NC a0 fun p20 =>
            ∃ x21 : Int, w19.cell? (p20.add 2) = some (.int .u64 x21) ∧
            (0 : Int) ≤ s8.1 ∧
            NC a0 fun p22 =>
            stCells (p22.add 2) 0 [.int .u64 (bitK .u64 1 x21 (u64 (r13 * 2 ^ (min (Int.toNat s8.1) (IntKind.bits .u64)))))] w19 fun w23 =>
            next10 (u64 (s8.1 + 1), ()) w23
          ) (
            next10 (u64 (s8.1 + 1), ()) w15
          )
          ) w9
        ) (
          K 0 w9
        )
    )
  )
  ) w3
  ) w

def F.pcache_Cache_Tell (E : Env) (a0 : (Option Addr)) (K : Int → Int → Int → World → Prop) (w : World) : Prop :=
  F.pcache_Cache_Empty E a0 (fun r1 w2 =>
  CND (r1) (
    K 0 0 0 w2
  ) (
    NC a0 fun p3 =>
    ∃ x4 : Int, w2.drew.cell? p3 = some (.int .u64 x4) ∧
    NC a0 fun p5 =>
    ∃ x6 : Int, w2.drew.cell? (p5.add 1) = some (.int .u64 x6) ∧
    NC a0 fun p7 =>
    ∃ x8 : Int, w2.drew.cell? (p7.add 2) = some (.int .u64 x8) ∧
    K x4 x6 x8 w2.drew
  )
  ) w

def F.math_bits_TrailingZeros64 (E : Env) (a0 : Int) (K : Int → World → Prop) (w : World) : Prop :=
  CND ((a0 : Int) == 0) (
    K 64 w
  ) (
    (0 : Int) ≤ 58 ∧
    ((0 : Int) ≤ (Int.fdiv (u64 ((bitK .u64 0 a0 (u64 (0 - a0))) * 285870213051353865)) (2 ^ (min (Int.toNat 58) (IntKind.bits .u64)))) ∧ ((Int.fdiv (u64 ((bitK .u64 0 a0 (u64 (0 - a0))) * 285870213051353865)) (2 ^ (min (Int.toNat 58) (IntKind.bits .u64)))) : Int) < (64 : Nat)) ∧
    ∃ x1 : Int, w.cell? ((Addr.mk E.g_math_bits_deBruijn64tab 0 none).add (Int.toNat (Int.fdiv (u64 ((bitK .u64 0 a0 (u64 (0 - a0))) * 285870213051353865)) (2 ^ (min (Int.toNat 58) (IntKind.bits .u64)))) * 1)) = some (.int .u8 x1) ∧
    K (i64 (x1)) w
  )

def F.pcache_find (E : Env) (a0 : Int) (a1 : Int) (K : Int → Bool → World → Prop) (w : World) : Prop :=
  LOOP (Int × Int × Int × Unit) (a0, a1, i64 (a1 - 1), ()) w fun s1 _ w2 next3 =>
    CND (decide ((s1.2.2.1 : Int) > 0)) (
      2 ≠ (0 : Int) ∧
      LET (minI s1.2.2.1 (maxI 1 (i64 (Int.tdiv s1.2.1 2))) : Int) fun by_4 =>
      (0 : Int) ≤ by_4 ∧
      LET (bitK .u64 0 s1.1 (Int.fdiv s1.1 (2 ^ (min (Int.toNat by_4) (IntKind.bits .u64)))) : Int) fun w_5 =>
      next3 (w_5, i64 (s1.2.1 - by_4), i64 (s1.2.2.1 - by_4), ()) w2
    ) (
      F.math_bits_TrailingZeros64 E s1.1 (fun r6 w7 =>
      K r6 ((s1.1 : Int) != 0) w7
      ) w2
    )

def F.math_bits_OnesCount64 (E : Env) (a0 : Int) (K : Int → World → Prop) (w : World) : Prop :=
  (0 : Int) ≤ 1 ∧
  LET (u64 ((bitK .u64 0 (Int.fdiv a0 (2 ^ (min (Int.toNat 1) (IntKind.bits .u64)))) 6148914691236517205) + (bitK .u64 0 a0 6148914691236517205)) : Int) fun x_1 =>
  (0 : Int) ≤ 2 ∧
  LET (u64 ((bitK .u64 0 (Int.fdiv x_1 (2 ^ (min (Int.toNat 2) (IntKind.bits .u64)))) 3689348814741910323) + (bitK .u64 0 x_1 3689348814741910323)) : Int) fun x_2 =>
  (0 : Int) ≤ 4 ∧
  LET (bitK .u64 0 (u64 ((Int.fdiv x_2 (2 ^ (min (Int.toNat 4) (IntKind.bits .u64)))) + x_2)) 1085102592571150095 : Int) fun x_3 =>
  (0 : Int) ≤ 8 ∧
  LET (u64 (x_3 + (Int.fdiv x_3 (2 ^ (min (Int.toNat 8) (IntKind.bits .u64))))) : Int) fun x_4 =>
  (0 : Int) ≤ 16 ∧
  LET (u64 (x_4 + (Int.fdiv x_4 (2 ^ (min (Int.toNat 16) (IntKind.bits .u64))))) : Int) fun x_5 =>
  (0 : Int) ≤ 32 ∧
  LET (u64 (x_5 + (Int.fdiv x_5 (2 ^ (min (Int.toNat 32) (IntKind.bits .u64))))) : Int) fun x_6 =>
  LET (bitK .i64 0 (i64 (x_6)) 127 : Int) fun t7 =>
  K t7 w

def F.pcache_Cache_Alloc (E : Env) (a0 : (Option Addr)) (a1 : Int) (K : Int → Int → Int → World → Prop) (w : World) : Prop :=
  JOIN (Bool × Unit) (fun J1 =>
    CND (decide ((a1 : Int) < 1)) (
      J1 (true, ()) w
    ) (
      J1 (decide ((a1 : Int) > 64), ()) w
    )
  ) fun s2 _ w3 =>
    CND (s2.1) (
      K 0 0 1 w3
    ) (
      NC a0 fun p4 =>
      ∃ x5 : Int, w3.cell? (p4.add 1) = some (.int .u64 x5) ∧
      F.pcache_find E x5 a1 (fun r6 r7 w8 =>
      CND (!r7) (
        K 0 0 30 w8
      ) (
        (0 : Int) ≤ (i64 (64 - a1)) ∧
        (0 : Int) ≤ r6 ∧
        LET (u64 ((Int.fdiv 18446744073709551615 (2 ^ (min (Int.toNat (i64 (64 - a1))) (IntKind.bits .u64)))) * 2 ^ (min (Int.toNat r6) (IntKind.bits .u64))) : Int) fun mask_9 =>
        NC a0 fun p10 =>
        ∃ x11 : Int, w8.cell? (p10.add 2) = some (.int .u64 x11) ∧
        F.math_bits_OnesCount64 E (bitK .u64 0 x11 mask_9) (fun r12 w13 =>
        NC a0 fun p14 =>
        ∃ x15 : Int, w13.cell? (p14.add 1) = some (.int .u64 x15) ∧
        NC a0 fun p16 =>
        stCells (p16.add 1) 0 [.int .u64 (bitK .u64 3 x15 mask_9)] w13 fun w17 =>
        NC a0 fun p18 =>
        ∃ x19 : Int, w17.cell? (p18.add 2) = some (.int .u64 x19) ∧
        NC a0 fun p20 =>
        stCells (p20.add 2) 0 [.int .u64 (bitK .u64 3 x19 mask_9)] w17 fun w21 =>
        NC a0 fun p22 =>
        ∃ x23 : Int, w21.cell? p22 = some (.int .u64 x23) ∧
        K (u64 (x23 + (u64 (r6)))) r12 0 w21
        ) w8
      )
      ) w3
    )

def F.stretch_Set_Has (E : Env) (a0 : (Option Addr)) (a1 : Int) (K : Bool → World → Prop) (w : World) : Prop :=
  F.stretch_Set_at E a0 a1 (fun r1 w2 =>
  NC a0 fun p3 =>
  ∃ x4 : SlV, w2.cell? p3 = some (.slice x4.base x4.len x4.cap) ∧
  CND (decide ((r1 : Int) < ((x4.len : Nat) : Int))) (
    NC a0 fun p5 =>
    ∃ x6 : SlV, w2.cell? p5 = some (.slice x6.base x6.len x6.cap) ∧
    NC x6.base fun p7 =>
    ((0 : Int) ≤ r1 ∧ (r1 : Int) < (x6.len : Nat)) ∧
    ∃ x8 : Int, w2.cell? (p7.add (Int.toNat r1 * 2)) = some (.int .u64 x8) ∧
    K (decide ((x8 : Int) ≤ a1)) w2
  ) (
    K false w2
  )
  ) w

def F.radix_Tree_State (E : Env) (a0 : (Option Addr)) (a1 : Int) (K : Bool → Bool → Bool → World → Prop) (w : World) : Prop :=
  NC a0 fun p1 =>
  NC a0 fun p2 =>
  NC a0 fun p3 =>
  F.stretch_Set_Has E (some p1) a1 (fun r4 w5 =>
  F.stretch_Set_Has E (some (p2.add 2)) a1 (fun r6 w7 =>
  F.stretch_Set_Has E (some (p3.add 4)) a1 (fun r8 w9 =>
  K r4 r6 r8 w9
  ) w7
  ) w5
  ) w.drew

def F.stretch_Set_Sum (E : Env) (a0 : (Option Addr)) (K : Int → World → Prop) (w : World) : Prop :=
  NC a0 fun p1 =>
  ∃ x2 : Int, w.cell? (p1.add 1) = some (.int .u64 x2) ∧
  K x2 w

def F.radix_Tree_Free (E : Env) (a0 : (Option Addr)) (K : Int → World → Prop) (w : World) : Prop :=
  NC a0 fun p1 =>
  F.stretch_Set_Sum E (some (p1.add 2)) (fun r2 w3 =>
  K r2 w3
  ) w

def F.mallowlaw10_awake (E : Env)  (K : Bool → World → Prop) (w : World) : Prop :=
  F.radix_New E  (fun r1 w2 =>
  F.pcache_New E  (fun r3 w4 =>
  JOIN (Bool × Unit) (fun J5 =>
    CND (r1.isNone) (
      J5 (true, ()) w4
    ) (
      CND (r3.isNone) (
        J5 (true, ()) w4
      ) (
        F.radix_Tree_Grow E r1 1 1 (fun r8 w9 =>
        J5 ((r8 : Int) != 0, ()) w9
        ) w4
      )
    )
  ) fun s6 _ w7 =>
    CND (s6.1) (
      K false w7
    ) (
      F.pcache_Cache_Fill E r3 r1 (fun r10 w11 =>
      F.pcache_Cache_Tell E r3 (fun r12 r13 r14 w15 =>
      F.pcache_Cache_Alloc E r3 3 (fun r16 r17 r18 w19 =>
      CND ((r10 : Int) == 0) (
        CND ((r12 : Int) == 512) (
          CND ((r13 : Int) == 18446744073709551615) (
            CND ((r14 : Int) == r13) (
              CND ((r16 : Int) == 512) (
                CND ((r17 : Int) == 3) (
                  CND ((r18 : Int) == 0) (
                    F.radix_Tree_Free E r1 (fun r20 w21 =>
                    CND ((r20 : Int) == 448) (
                      F.pcache_Cache_Empty E r3 (fun r22 w23 =>
                      K (!r22) w23
                      ) w21
                    ) (
                      K false w21
                    )
                    ) w19
                  ) (
                    K false w19
                  )
                ) (
                  K false w19
                )
              ) (
                K false w19
              )
            ) (
              K false w19
            )
          ) (
            K false w19
          )
        ) (
          K false w19
        )
      ) (
        K false w19
      )
      ) w15
      ) w11
      ) w7
    )
  ) w2
  ) w

def F.mallowlaw10_CacheGives (E : Env) (a0 : SlV) (K : Bool → World → Prop) (w : World) : Prop :=
  CND (decide ((((a0.len : Nat) : Int) : Int) > 80)) (
    K true w
  ) (
    F.radix_New E  (fun r1 w2 =>
    F.pcache_New E  (fun r3 w4 =>
    JOIN (Bool × Unit) (fun J5 =>
      CND (r1.isNone) (
        J5 (true, ()) w4
      ) (
        CND (r3.isNone) (
          J5 (true, ()) w4
        ) (
          F.radix_Tree_Grow E r1 5 1 (fun r8 w9 =>
          CND ((r8 : Int) != 0) (
            J5 (true, ()) w9
          ) (
            F.pcache_Cache_Fill E r3 r1 (fun r10 w11 =>
            J5 ((r10 : Int) != 0, ()) w11
            ) w9
          )
          ) w4
        )
      )
    ) fun s6 _ w7 =>
      CND (s6.1) (
        K false w7
      ) (
        ((0 : Int) ≤ 64 ∧ (64 : Int) ≤ 64 ∧ (64 : Int) < 9223372036854775808 ∧ ((1 : Nat) : Int) * 64 ≤ 140737488355328) ∧
        AL (.cells (mkZero #[.bool false] (Int.toNat 64 * 1)) E.t_bool) w7 fun b12 w13 =>
        LOOP (Int × Unit) (0, ()) w13 fun s14 _ w15 next16 =>
          CND (decide ((s14.1 : Int) < ((a0.len : Nat) : Int))) (
            NC a0.base fun p17 =>
            ((0 : Int) ≤ s14.1 ∧ (s14.1 : Int) < (a0.len : Nat)) ∧
            ∃ x18 : Int, w15.cell? (p17.add (Int.toNat s14.1 * 1)) = some (.int .i64 x18) ∧
            F.pcache_Cache_Tell E r3 (fun r19 r20 r21 w22 =>
            F.pcache_Cache_Alloc E r3 x18 (fun r23 r24 r25 w26 =>
            JOIN (Bool × Unit) (fun J27 =>
              CND (decide ((x18 : Int) < 1)) (
                J27 (true, ()) w26
              ) (
                J27 (decide ((x18 : Int) > 64), ()) w26
              )
            ) fun s28 _ w29 =>
              CND (s28.1) (
                JOIN (Bool × Unit) (fun J30 =>
                  CND ((r25 : Int) != 1) (
                    J30 (true, ()) w29
                  ) (
                    CND ((r23 : Int) != 0) (
                      J30 (true, ()) w29
                    ) (
                      J30 ((r24 : Int) != 0, ()) w29
                    )
                  )
                ) fun s31 _ w32 =>
                  CND (s31.1) (
                    K false w32
                  ) (
                    next16 (i64 (s14.1 + 1), ()) w32
                  )
              ) (
                JOIN (Int × Unit) (fun J33 =>
                  LOOP (Int × Int × Unit) ((-1), 0, ()) w29 fun s36 _ w37 next38 =>
                    CND (decide (((i64 (s36.2.1 + x18)) : Int) ≤ 64)) (
                      CND (decide ((s36.1 : Int) < 0)) (
                        LOOP (Bool × Int × Unit) (true, s36.2.1, ()) w37 fun s39 _ w40 next41 =>
                          CND (decide ((s39.2.1 : Int) < (i64 (s36.2.1 + x18)))) (
                            CND (s39.1) (
                              ((0 : Int) ≤ s39.2.1 ∧ (s39.2.1 : Int) < ((Int.toNat 64) : Nat)) ∧
                              ∃ x42 : Bool, w40.cell? ((Addr.mk b12 0 none).add (Int.toNat s39.2.1 * 1)) = some (.bool x42) ∧
                              next41 (!x42, i64 (s39.2.1 + 1), ()) w40
                            ) (
                              next41 (false, i64 (s39.2.1 + 1), ()) w40
                            )
                          ) (
                            CND (s39.1) (
                              next38 (s36.2.1, i64 (s36.2.1 + 1), ()) w40
                            ) (
                              next38 (s36.1, i64 (s36.2.1 + 1), ()) w40
                            )
                          )
                      ) (
                        J33 (s36.1, ()) w37
                      )
                    ) (
                      J33 (s36.1, ()) w37
                    )
                ) fun s34 _ w35 =>
                  CND (decide ((s34.1 : Int) < 0)) (
                    CND ((r25 : Int) != 30) (
                      K false w35
                    ) (
                      next16 (i64 (s14.1 + 1), ()) w35
                    )
                  ) (
                    JOIN (Bool × Unit) (fun J43 =>
                      CND ((r25 : Int) != 0) (
                        J43 (true, ()) w35
                      ) (
                        CND ((r23 : Int) != (u64 (2560 + (u64 (s34.1))))) (
                          J43 (true, ()) w35
                        ) (
                          J43 ((r24 : Int) != x18, ()) w35
                        )
                      )
                    ) fun s44 _ w45 =>
                      CND (s44.1) (
                        K false w45
                      ) (
                        LOOP (Int × Unit) (s34.1, ()) w45 fun s46 _ w47 next48 =>
                          CND (decide ((s46.1 : Int) < (i64 (s34.1 + x18)))) (
                            (0 : Int) ≤ s46.1 ∧
                            CND (((bitK .u64 0 (Int.fdiv r20 (2 ^ (min (Int.toNat s46.1) (IntKind.bits .u64)))) 1) : Int) == 0) (
                              K false w47
                            ) (
                              ((0 : Int) ≤ s46.1 ∧ (s46.1 : Int) < ((Int.toNat 64) : Nat)) ∧
                              stCells ((Addr.mk b12 0 none).add (Int.toNat s46.1 * 1)) 0 [.bool true] w47 fun w49 =>
                              F.radix_Tree_State E r1 (u64 (2560 + (u64 (s46.1)))) (fun r50 r51 r52 w53 =>
                              JOIN (Bool × Unit) (fun J54 =>
                                CND (!r50) (
                                  J54 (true, ()) w53
                                ) (
                                  J54 (r51, ()) w53
                                )
                              ) fun s55 _ w56 =>
                                CND (s55.1) (
                                  K false w56
                                ) (
                                  next48 (i64 (s46.1 + 1), ()) w56
                                )
                              ) w49
                            )
                          ) (
                            next16 (i64 (s14.1 + 1), ()) w47
                          )
                      )
                  )
              )
            ) w22
            ) w15
          ) (
            F.mallowlaw10_awake E  (fun r57 w58 =>
            K r57 w58
            ) w15
          )
      )
    ) w2
    ) w
  )

def F.radix_Tree_freed (E : Env) (a0 : (Option Addr)) (a1 : Int) (a2 : Int) (a3 : (Option Addr)) (K : Int → World → Prop) (w : World) : Prop :=
  F.radix_Tree_looked E a0 a1 a2 false 31 (fun r1 w2 =>
  CND ((r1 : Int) != 0) (
    K r1 w2
  ) (
    NC a0 fun p3 =>
    F.stretch_Set_Add E (some (p3.add 2)) a1 (u64 (a1 + a2)) (fun  w4 =>
    F.stretch_Set_Add E a3 a1 (u64 (a1 + a2)) (fun  w5 =>
    F.radix_Tree_changed E a0 (fun  w6 =>
    K 0 w6
    ) w5
    ) w4
    ) w2
  )
  ) w

def F.radix_Tree_Back (E : Env) (a0 : (Option Addr)) (a1 : Int) (a2 : Int) (K : Int → World → Prop) (w : World) : Prop :=
  NC a0 fun p1 =>
  F.radix_Tree_freed E a0 a1 a2 (some (p1.add 4)) (fun r2 w3 =>
  K r2 w3
  ) w

def F.radix_Tree_Give (E : Env) (a0 : (Option Addr)) (a1 : Int) (a2 : Int) (K : Int → World → Prop) (w : World) : Prop :=
  NC a0 fun p1 =>
  F.radix_Tree_freed E a0 a1 a2 (some (p1.add 6)) (fun r2 w3 =>
  K r2 w3
  ) w

def F.pcache_Cache_Flush (E : Env) (a0 : (Option Addr)) (a1 : (Option Addr)) (K : World → Prop) (w : World) : Prop :=
  LOOP (Int × Unit) (0, ()) w fun s1 _ w2 next3 =>
    CND (decide ((s1.1 : Int) < 64)) (
      NC a0 fun p4 =>
      ∃ x5 : Int, w2.cell? (p4.add 1) = some (.int .u64 x5) ∧
      (0 : Int) ≤ s1.1 ∧
      CND (((bitK .u64 0 (Int.fdiv x5 (2 ^ (min (Int.toNat s1.1) (IntKind.bits .u64)))) 1) : Int) == 0) (
        next3 (u64 (s1.1 + 1), ()) w2
      ) (
        NC a0 fun p6 =>
        ∃ x7 : Int, w2.cell? (p6.add 2) = some (.int .u64 x7) ∧
        (0 : Int) ≤ s1.1 ∧
        CND (((bitK .u64 0 (Int.fdiv x7 (2 ^ (min (Int.toNat s1.1) (IntKind.bits .u64)))) 1) : Int) == 1) (
          NC a0 fun p8 =>
          ∃ x9 : Int, w2.cell? p8 = some (.int .u64 x9) ∧
          F.radix_Tree_Back E a1 (u64 (x9 + s1.1)) 1 (fun r10 w11 =>
          next3 (u64 (s1.1 + 1), ()) w11
          ) w2
        ) (
          NC a0 fun p12 =>
          ∃ x13 : Int, w2.cell? p12 = some (.int .u64 x13) ∧
          F.radix_Tree_Give E a1 (u64 (x13 + s1.1)) 1 (fun r14 w15 =>
          next3 (u64 (s1.1 + 1), ()) w15
          ) w2
        )
      )
    ) (
      NC a0 fun p16 =>
      stCells p16 0 [.int .u64 0, .int .u64 0, .int .u64 0] w2 fun w17 =>
      K  w17
    )

def F.mallowlaw10_CacheTwo (E : Env) (a0 : SlV) (K : Bool → World → Prop) (w : World) : Prop :=
  CND (decide ((((a0.len : Nat) : Int) : Int) > 60)) (
    K true w
  ) (
    F.radix_New E  (fun r1 w2 =>
    F.pcache_New E  (fun r3 w4 =>
    F.pcache_New E  (fun r5 w6 =>
    AL (.cells ⟨[.pointer r3, .pointer r5]⟩ E.t__pcache_Cache) w6 fun b7 w8 =>
    JOIN (Bool × Unit) (fun J9 =>
      CND (r1.isNone) (
        J9 (true, ()) w8
      ) (
        ((0 : Int) ≤ 0 ∧ (0 : Int) < (2 : Nat)) ∧
        ∃ x12 : (Option Addr), w8.cell? ((Addr.mk b7 0 none).add (Int.toNat 0 * 1)) = some (.pointer x12) ∧
        CND (x12.isNone) (
          J9 (true, ()) w8
        ) (
          ((0 : Int) ≤ 1 ∧ (1 : Int) < (2 : Nat)) ∧
          ∃ x13 : (Option Addr), w8.cell? ((Addr.mk b7 0 none).add (Int.toNat 1 * 1)) = some (.pointer x13) ∧
          CND (x13.isNone) (
            J9 (true, ()) w8
          ) (
            F.radix_Tree_Grow E r1 6 1 (fun r14 w15 =>
            J9 ((r14 : Int) != 0, ()) w15
            ) w8
          )
        )
      )
    ) fun s10 _ w11 =>
      CND (s10.1) (
        K false w11
      ) (
        AL (.map #[] 0) w11 fun b16 w17 =>
        LOOP (Int × Unit) (0, ()) w17 fun s18 _ w19 next20 =>
          CND (decide ((s18.1 : Int) < ((a0.len : Nat) : Int))) (
            ((0 : Int) ≤ (bitK .i64 0 s18.1 1) ∧ ((bitK .i64 0 s18.1 1) : Int) < (2 : Nat)) ∧
            ∃ x21 : (Option Addr), w19.cell? ((Addr.mk b7 0 none).add (Int.toNat (bitK .i64 0 s18.1 1) * 1)) = some (.pointer x21) ∧
            JOIN (Unit) (fun J22 =>
              F.pcache_Cache_Empty E x21 (fun r25 w26 =>
              CND (r25) (
                F.pcache_Cache_Fill E x21 r1 (fun r27 w28 =>
                J22 (()) w28
                ) w26
              ) (
                J22 (()) w26
              )
              ) w19
            ) fun s23 _ w24 =>
              NC a0.base fun p29 =>
              ((0 : Int) ≤ s18.1 ∧ (s18.1 : Int) < (a0.len : Nat)) ∧
              ∃ x30 : Int, w24.cell? (p29.add (Int.toNat s18.1 * 1)) = some (.int .i64 x30) ∧
              F.pcache_Cache_Alloc E x21 x30 (fun r31 r32 r33 w34 =>
              CND ((r33 : Int) != 0) (
                5 ≠ (0 : Int) ∧
                CND (((Int.tmod s18.1 5) : Int) == 4) (
                  F.pcache_Cache_Flush E x21 r1 (fun  w35 =>
                  next20 (i64 (s18.1 + 1), ()) w35
                  ) w34
                ) (
                  next20 (i64 (s18.1 + 1), ()) w34
                )
              ) (
                LOOP (Int × Unit) (r31, ()) w34 fun s36 _ w37 next38 =>
                  CND (decide ((s36.1 : Int) < (u64 (r31 + (u64 (x30)))))) (
                    LKP .u64 s36.1 (some b16) w37 (.bool false) fun v39 ok40 es41 =>
                    ∃ x42 : Bool, v39 = .bool x42 ∧
                    CND (x42) (
                      K false w37
                    ) (
                      MUPD .u64 s36.1 (.bool true) (some b16) w37 fun w43 =>
                      next38 (u64 (s36.1 + 1), ()) w43
                    )
                  ) (
                    ((0 : Int) ≤ 0 ∧ (0 : Int) < (2 : Nat)) ∧
                    ∃ x44 : (Option Addr), w37.cell? ((Addr.mk b7 0 none).add (Int.toNat 0 * 1)) = some (.pointer x44) ∧
                    F.pcache_Cache_Tell E x44 (fun r45 r46 r47 w48 =>
                    ((0 : Int) ≤ 1 ∧ (1 : Int) < (2 : Nat)) ∧
                    ∃ x49 : (Option Addr), w48.cell? ((Addr.mk b7 0 none).add (Int.toNat 1 * 1)) = some (.pointer x49) ∧
                    F.pcache_Cache_Tell E x49 (fun r50 r51 r52 w53 =>
                    JOIN (Bool × Unit) (fun J54 =>
                      CND ((r45 : Int) == r50) (
                        J54 (((bitK .u64 0 r46 r51) : Int) != 0, ()) w53
                      ) (
                        J54 (false, ()) w53
                      )
                    ) fun s55 _ w56 =>
                      CND (s55.1) (
                        K false w56
                      ) (
                        LOOP (Int × Unit) (0, ()) w56 fun s57 _ w58 next59 =>
                          CND (decide ((s57.1 : Int) < 64)) (
                            (0 : Int) ≤ s57.1 ∧
                            CND (((bitK .u64 0 (Int.fdiv r46 (2 ^ (min (Int.toNat s57.1) (IntKind.bits .u64)))) 1) : Int) == 1) (
                              F.radix_Tree_State E r1 (u64 (r45 + s57.1)) (fun r60 r61 r62 w63 =>
                              JOIN (Bool × Unit) (fun J64 =>
                                CND (r61) (
                                  J64 (true, ()) w63
                                ) (
                                  LKP .u64 (u64 (r45 + s57.1)) (some b16) w63 (.bool false) fun v67 ok68 es69 =>
                                  ∃ x70 : Bool, v67 = .bool x70 ∧
                                  J64 (x70, ()) w63
                                )
                              ) fun s65 _ w66 =>
                                CND (s65.1) (
                                  K false w66
                                ) (
                                  next59 (u64 (s57.1 + 1), ()) w66
                                )
                              ) w58
                            ) (
                              next59 (u64 (s57.1 + 1), ()) w58
                            )
                          ) (
                            next20 (i64 (s18.1 + 1), ()) w58
                          )
                      )
                    ) w48
                    ) w37
                  )
              )
              ) w24
          ) (
            F.radix_Tree_Free E r1 (fun r71 w72 =>
            ∃ es73 : Array MapEntry, mapAt w72 (some b16) es73 ∧
            CND (decide ((r71 : Int) ≤ (u64 (512 - (u64 (((es73.size : Nat) : Int))))))) (
              F.mallowlaw10_awake E  (fun r74 w75 =>
              K r74 w75
              ) w72
            ) (
              K false w72
            )
            ) w19
          )
      )
    ) w4
    ) w2
    ) w
  )

def F.radix_Tree_Alloc (E : Env) (a0 : (Option Addr)) (a1 : Int) (K : Int → Int → Int → World → Prop) (w : World) : Prop :=
  CND ((a1 : Int) == 0) (
    K 0 0 1 w
  ) (
    F.radix_Tree_Find E a0 a1 (fun r1 r2 w3 =>
    CND (!r2) (
      K 0 0 30 w3
    ) (
      F.radix_Tree_Take E a0 r1 a1 (fun r4 r5 w6 =>
      K r1 r4 r5 w6
      ) w3
    )
    ) w
  )

def F.radix_Tree_Scavenge (E : Env) (a0 : (Option Addr)) (a1 : Int) (K : Int → Int → World → Prop) (w : World) : Prop :=
  NC a0 fun p1 =>
  F.stretch_Set_All E (some (p1.add 6)) (fun r2 w3 =>
  JOIN (Bool × Unit) (fun J4 =>
    CND ((((r2.len : Nat) : Int) : Int) == 0) (
      J4 (true, ()) w3
    ) (
      J4 ((a1 : Int) == 0, ()) w3
    )
  ) fun s5 _ w6 =>
    CND (s5.1) (
      K 0 0 w6
    ) (
      NC r2.base fun p7 =>
      ((0 : Int) ≤ (i64 (((r2.len : Nat) : Int) - 1)) ∧ ((i64 (((r2.len : Nat) : Int) - 1)) : Int) < (r2.len : Nat)) ∧
      ∃ c8 : Int, w6.cell? ((p7.add (Int.toNat (i64 (((r2.len : Nat) : Int) - 1)) * 2)).add 0) = some (.int .u64 c8) ∧
      ∃ c9 : Int, w6.cell? ((p7.add (Int.toNat (i64 (((r2.len : Nat) : Int) - 1)) * 2)).add 1) = some (.int .u64 c9) ∧
      AL (.cells #[.int .u64 0, .int .u64 0] E.t_stretch_One) w6 fun b10 w11 =>
      stCells (Addr.mk b10 0 none) 0 [.int .u64 c8, .int .u64 c9] w11 fun w12 =>
      ∃ x13 : Int, w12.cell? (Addr.mk b10 0 none) = some (.int .u64 x13) ∧
      ∃ x14 : Int, w12.cell? ((Addr.mk b10 0 none).add 1) = some (.int .u64 x14) ∧
      512 ≠ (0 : Int) ∧
      LET (maxI x13 (u64 ((u64 (Int.tdiv (u64 (x14 - 1)) 512)) * 512)) : Int) fun from_15 =>
      ∃ x16 : Int, w12.cell? ((Addr.mk b10 0 none).add 1) = some (.int .u64 x16) ∧
      LET (minI (u64 (x16 - from_15)) a1 : Int) fun n_17 =>
      ∃ x18 : Int, w12.cell? ((Addr.mk b10 0 none).add 1) = some (.int .u64 x18) ∧
      NC a0 fun p19 =>
      F.stretch_Set_Cut E (some (p19.add 6)) (u64 (x18 - n_17)) (u64 ((u64 (x18 - n_17)) + n_17)) (fun  w20 =>
      NC a0 fun p21 =>
      F.stretch_Set_Add E (some (p21.add 4)) (u64 (x18 - n_17)) (u64 ((u64 (x18 - n_17)) + n_17)) (fun  w22 =>
      K (u64 (x18 - n_17)) n_17 w22
      ) w20
      ) w12
    )
  ) w

def F.mallowlaw10_CacheUndo (E : Env) (a0 : SlV) (a1 : Int) (K : Bool → World → Prop) (w : World) : Prop :=
  CND (decide ((((a0.len : Nat) : Int) : Int) > 40)) (
    K true w
  ) (
    F.radix_New E  (fun r1 w2 =>
    F.pcache_New E  (fun r3 w4 =>
    JOIN (Bool × Unit) (fun J5 =>
      CND (r1.isNone) (
        J5 (true, ()) w4
      ) (
        CND (r3.isNone) (
          J5 (true, ()) w4
        ) (
          F.radix_Tree_Grow E r1 1 1 (fun r8 w9 =>
          J5 ((r8 : Int) != 0, ()) w9
          ) w4
        )
      )
    ) fun s6 _ w7 =>
      CND (s6.1) (
        K false w7
      ) (
        LOOP (Int × Unit) (0, ()) w7 fun s10 _ w11 next12 =>
          CND (decide ((s10.1 : Int) < ((a0.len : Nat) : Int))) (
            JOIN (Bool × Unit) (fun J13 =>
              NC a0.base fun p16 =>
              ((0 : Int) ≤ s10.1 ∧ (s10.1 : Int) < (a0.len : Nat)) ∧
              ∃ x17 : Int, w11.cell? (p16.add (Int.toNat s10.1 * 1)) = some (.int .u64 x17) ∧
              CND (decide ((x17 : Int) < 1)) (
                J13 (true, ()) w11
              ) (
                NC a0.base fun p18 =>
                ((0 : Int) ≤ s10.1 ∧ (s10.1 : Int) < (a0.len : Nat)) ∧
                ∃ x19 : Int, w11.cell? (p18.add (Int.toNat s10.1 * 1)) = some (.int .u64 x19) ∧
                J13 (decide ((x19 : Int) > 100), ()) w11
              )
            ) fun s14 _ w15 =>
              CND (s14.1) (
                K true w15
              ) (
                NC a0.base fun p20 =>
                ((0 : Int) ≤ s10.1 ∧ (s10.1 : Int) < (a0.len : Nat)) ∧
                ∃ x21 : Int, w15.cell? (p20.add (Int.toNat s10.1 * 1)) = some (.int .u64 x21) ∧
                F.radix_Tree_Alloc E r1 x21 (fun r22 r23 r24 w25 =>
                JOIN (Bool × Unit) (fun J26 =>
                  CND ((r24 : Int) == 0) (
                    3 ≠ (0 : Int) ∧
                    CND (((Int.tmod s10.1 3) : Int) == 1) (
                      NC a0.base fun p29 =>
                      ((0 : Int) ≤ s10.1 ∧ (s10.1 : Int) < (a0.len : Nat)) ∧
                      ∃ x30 : Int, w25.cell? (p29.add (Int.toNat s10.1 * 1)) = some (.int .u64 x30) ∧
                      F.radix_Tree_Give E r1 r22 x30 (fun r31 w32 =>
                      J26 ((r31 : Int) != 0, ()) w32
                      ) w25
                    ) (
                      J26 (false, ()) w25
                    )
                  ) (
                    J26 (false, ()) w25
                  )
                ) fun s27 _ w28 =>
                  CND (s27.1) (
                    K false w28
                  ) (
                    next12 (i64 (s10.1 + 1), ()) w28
                  )
                ) w15
              )
          ) (
            F.radix_Tree_Scavenge E r1 a1 (fun r33 r34 w35 =>
            LOOP (SlV × Int × Unit) (⟨none, 0, 0⟩, 512, ()) w35 fun s36 _ w37 next38 =>
              CND (decide ((s36.2.1 : Int) < 1024)) (
                F.radix_Tree_State E r1 s36.2.1 (fun r39 r40 r41 w42 =>
                AL (.cells ⟨[.bool r40, .bool r41]⟩ E.t_bool) w42 fun b43 w44 =>
                APP E.t_bool 1 1 #[.bool false] s36.1 ⟨(some (Addr.mk b43 0 none)), 2, 2⟩ w44 fun s45 w46 =>
                next38 (s45, u64 (s36.2.1 + 1), ()) w46
                ) w37
              ) (
                F.pcache_Cache_Fill E r3 r1 (fun r47 w48 =>
                F.pcache_Cache_Empty E r3 (fun r49 w50 =>
                CND (((r47 : Int) == 0) == r49) (
                  K false w50
                ) (
                  F.pcache_Cache_Tell E r3 (fun r51 r52 r53 w54 =>
                  LOOP (Int × Int × Unit) (0, r52, ()) w54 fun s55 _ w56 next57 =>
                    CND (decide ((s55.2.1 : Int) > 0)) (
                      LET (u64 (s55.1 + (bitK .u64 0 s55.2.1 1)) : Int) fun n_58 =>
                      (0 : Int) ≤ 1 ∧
                      LET (Int.fdiv s55.2.1 (2 ^ (min (Int.toNat 1) (IntKind.bits .u64))) : Int) fun x_59 =>
                      next57 (n_58, x_59, ()) w56
                    ) (
                      F.radix_Tree_Free E r1 (fun r60 w61 =>
                      F.pcache_Cache_Flush E r3 r1 (fun  w62 =>
                      JOIN (Bool × Unit) (fun J63 =>
                        F.pcache_Cache_Empty E r3 (fun r66 w67 =>
                        CND (!r66) (
                          J63 (true, ()) w67
                        ) (
                          F.radix_Tree_Free E r1 (fun r68 w69 =>
                          J63 ((r68 : Int) != (u64 (r60 + s55.1)), ()) w69
                          ) w67
                        )
                        ) w62
                      ) fun s64 _ w65 =>
                        CND (s64.1) (
                          K false w65
                        ) (
                          LOOP (Int × Unit) (512, ()) w65 fun s70 _ w71 next72 =>
                            CND (decide ((s70.1 : Int) < 1024)) (
                              F.radix_Tree_State E r1 s70.1 (fun r73 r74 r75 w76 =>
                              JOIN (Bool × Unit) (fun J77 =>
                                NC s36.1.base fun p80 =>
                                ((0 : Int) ≤ (u64 (2 * (u64 (s70.1 - 512)))) ∧ ((u64 (2 * (u64 (s70.1 - 512)))) : Int) < (s36.1.len : Nat)) ∧
                                ∃ x81 : Bool, w76.cell? (p80.add (Int.toNat (u64 (2 * (u64 (s70.1 - 512)))) * 1)) = some (.bool x81) ∧
                                CND (!(r74 == x81)) (
                                  J77 (true, ()) w76
                                ) (
                                  NC s36.1.base fun p82 =>
                                  ((0 : Int) ≤ (u64 ((u64 (2 * (u64 (s70.1 - 512)))) + 1)) ∧ ((u64 ((u64 (2 * (u64 (s70.1 - 512)))) + 1)) : Int) < (s36.1.len : Nat)) ∧
                                  ∃ x83 : Bool, w76.cell? (p82.add (Int.toNat (u64 ((u64 (2 * (u64 (s70.1 - 512)))) + 1)) * 1)) = some (.bool x83) ∧
                                  J77 (!(r75 == x83), ()) w76
                                )
                              ) fun s78 _ w79 =>
                                CND (s78.1) (
                                  K false w79
                                ) (
                                  next72 (u64 (s70.1 + 1), ()) w79
                                )
                              ) w71
                            ) (
                              F.mallowlaw10_awake E  (fun r84 w85 =>
                              K r84 w85
                              ) w71
                            )
                        )
                      ) w61
                      ) w56
                    )
                  ) w50
                )
                ) w48
                ) w37
              )
            ) w11
          )
      )
    ) w2
    ) w
  )

def F.mallowref9_Tree_find (E : Env) (a0 : (Option Addr)) (a1 : Int) (K : Int → Bool → World → Prop) (w : World) : Prop :=
  JOIN (Int × Unit) (fun J1 =>
    LOOP (Int × Unit) (0, ()) w fun s4 _ w5 next6 =>
      NC a0 fun p7 =>
      ∃ x8 : SlV, w5.cell? p7 = some (.slice x8.base x8.len x8.cap) ∧
      CND (decide ((s4.1 : Int) < ((x8.len : Nat) : Int))) (
        NC a0 fun p9 =>
        ∃ x10 : SlV, w5.cell? p9 = some (.slice x10.base x10.len x10.cap) ∧
        NC x10.base fun p11 =>
        ((0 : Int) ≤ s4.1 ∧ (s4.1 : Int) < (x10.len : Nat)) ∧
        ∃ x12 : Int, w5.cell? (p11.add (Int.toNat s4.1 * 2)) = some (.int .u64 x12) ∧
        CND (decide ((x12 : Int) < a1)) (
          next6 (i64 (s4.1 + 1), ()) w5
        ) (
          J1 (s4.1, ()) w5
        )
      ) (
        J1 (s4.1, ()) w5
      )
  ) fun s2 _ w3 =>
    NC a0 fun p13 =>
    ∃ x14 : SlV, w3.drew.cell? p13 = some (.slice x14.base x14.len x14.cap) ∧
    CND (decide ((s2.1 : Int) < ((x14.len : Nat) : Int))) (
      NC a0 fun p15 =>
      ∃ x16 : SlV, w3.drew.cell? p15 = some (.slice x16.base x16.len x16.cap) ∧
      NC x16.base fun p17 =>
      ((0 : Int) ≤ s2.1 ∧ (s2.1 : Int) < (x16.len : Nat)) ∧
      ∃ x18 : Int, w3.drew.cell? (p17.add (Int.toNat s2.1 * 2)) = some (.int .u64 x18) ∧
      K s2.1 ((x18 : Int) == a1) w3.drew
    ) (
      K s2.1 false w3.drew
    )

def F.mallowref6_Right (E : Env) (a0 : Int) (a1 : Int) (K : Bool → World → Prop) (w : World) : Prop :=
  CND (decide ((a0 : Int) ≥ 0)) (
    CND (decide ((a1 : Int) ≥ 0)) (
      CND (decide ((a0 : Int) ≤ 512)) (
        K (decide ((a1 : Int) ≤ (i64 (512 - a0)))) w
      ) (
        K false w
      )
    ) (
      K false w
    )
  ) (
    K false w
  )

def F.mallowref6_Row_Put (E : Env) (a0 : (Option Addr)) (a1 : Int) (a2 : Int) (a3 : Bool) (K : Int → World → Prop) (w : World) : Prop :=
  F.mallowref6_Right E a1 a2 (fun r1 w2 =>
  CND (!r1) (
    K 1 w2
  ) (
    LOOP (Int × Unit) (a1, ()) w2 fun s3 _ w4 next5 =>
      CND (decide ((s3.1 : Int) < (i64 (a1 + a2)))) (
        NC a0 fun p6 =>
        ((0 : Int) ≤ s3.1 ∧ (s3.1 : Int) < (512 : Nat)) ∧
        stCells (p6.add (Int.toNat s3.1 * 1)) 0 [.bool a3] w4 fun w7 =>
        next5 (i64 (s3.1 + 1), ()) w7
      ) (
        K 0 w4
      )
  )
  ) w

def F.mallowref8_New (E : Env)  (K : (Option Addr) → World → Prop) (w : World) : Prop :=
  AL (.cells (Array.replicate 1024 (.bool false)) E.t_mallowref8_Chunk) w fun b1 w2 =>
  F.mallowref6_Row_Put E (some ((Addr.mk b1 0 none).add 512)) 0 512 true (fun r3 w4 =>
  K (some (Addr.mk b1 0 none)) w4
  ) w2

def F.mallowref9_Tree_Grow (E : Env) (a0 : (Option Addr)) (a1 : Int) (a2 : Int) (K : Int → World → Prop) (w : World) : Prop :=
  JOIN (Bool × Unit) (fun J1 =>
    CND ((a2 : Int) == 0) (
      J1 (true, ()) w
    ) (
      CND (decide ((a2 : Int) > 262144)) (
        J1 (true, ()) w
      ) (
        CND (decide ((a1 : Int) > 67108864)) (
          J1 (true, ()) w
        ) (
          J1 (decide ((a2 : Int) > (u64 (67108864 - a1))), ()) w
        )
      )
    )
  ) fun s2 _ w3 =>
    CND (s2.1) (
      K 1 w3
    ) (
      F.mallowref9_Tree_find E a0 a1 (fun r4 r5 w6 =>
      JOIN (Bool × Unit) (fun J7 =>
        NC a0 fun p10 =>
        ∃ x11 : SlV, w6.cell? p10 = some (.slice x11.base x11.len x11.cap) ∧
        CND (decide ((r4 : Int) < ((x11.len : Nat) : Int))) (
          NC a0 fun p12 =>
          ∃ x13 : SlV, w6.cell? p12 = some (.slice x13.base x13.len x13.cap) ∧
          NC x13.base fun p14 =>
          ((0 : Int) ≤ r4 ∧ (r4 : Int) < (x13.len : Nat)) ∧
          ∃ x15 : Int, w6.cell? (p14.add (Int.toNat r4 * 2)) = some (.int .u64 x15) ∧
          J7 (decide ((x15 : Int) < (u64 (a1 + a2))), ()) w6
        ) (
          J7 (false, ()) w6
        )
      ) fun s8 _ w9 =>
        CND (s8.1) (
          K 34 w9
        ) (
          AL (.cells ⟨[]⟩ E.t_mallowref9_Part) w9 fun b16 w17 =>
          NC a0 fun p18 =>
          ∃ x19 : SlV, w17.cell? p18 = some (.slice x19.base x19.len x19.cap) ∧
          ((0 : Int) ≤ r4 ∧ (r4 : Int) ≤ (x19.cap : Nat)) ∧
          APP E.t_mallowref9_Part 2 16 #[.int .u64 0, .pointer none] ⟨(some (Addr.mk b16 0 none)), 0, 0⟩ ⟨(slB x19.base x19.cap 0 2), (Int.toNat r4), x19.cap⟩ w17 fun s20 w21 =>
          LOOP (SlV × Int × Unit) (s20, 0, ()) w21 fun s22 _ w23 next24 =>
            CND (decide ((s22.2.1 : Int) < a2)) (
              F.mallowref8_New E  (fun r25 w26 =>
              AL (.cells ⟨[.int .u64 (u64 (a1 + s22.2.1)), .pointer r25]⟩ E.t_mallowref9_Part) w26 fun b27 w28 =>
              APP E.t_mallowref9_Part 2 16 #[.int .u64 0, .pointer none] s22.1 ⟨(some (Addr.mk b27 0 none)), 1, 1⟩ w28 fun s29 w30 =>
              next24 (s29, u64 (s22.2.1 + 1), ()) w30
              ) w23
            ) (
              NC a0 fun p31 =>
              ∃ x32 : SlV, w23.cell? p31 = some (.slice x32.base x32.len x32.cap) ∧
              ((0 : Int) ≤ r4 ∧ (r4 : Int) ≤ (x32.len : Nat)) ∧
              APP E.t_mallowref9_Part 2 16 #[.int .u64 0, .pointer none] s22.1 ⟨(slB x32.base x32.cap (Int.toNat r4) 2), (x32.len - (Int.toNat r4)), (x32.cap - (Int.toNat r4))⟩ w23 fun s33 w34 =>
              NC a0 fun p35 =>
              stCells p35 0 [.slice s33.base s33.len s33.cap] w34 fun w36 =>
              K 0 w36
            )
        )
      ) w3
    )

def F.mallowref10_Cache_Owns (E : Env) (a0 : (Option Addr)) (a1 : Int) (K : Bool → World → Prop) (w : World) : Prop :=
  NC a0 fun p1 =>
  ∃ x2 : Int, w.drew.cell? p1 = some (.int .u64 x2) ∧
  CND (decide ((a1 : Int) ≥ x2)) (
    NC a0 fun p3 =>
    ∃ x4 : Int, w.drew.cell? p3 = some (.int .u64 x4) ∧
    CND (decide (((u64 (a1 - x4)) : Int) < 64)) (
      NC a0 fun p5 =>
      ∃ x6 : Int, w.drew.cell? p5 = some (.int .u64 x6) ∧
      NC a0 fun p7 =>
      ((0 : Int) ≤ (u64 (a1 - x6)) ∧ ((u64 (a1 - x6)) : Int) < (64 : Nat)) ∧
      ∃ x8 : Bool, w.drew.cell? ((p7.add 1).add (Int.toNat (u64 (a1 - x6)) * 1)) = some (.bool x8) ∧
      K x8 w.drew
    ) (
      K false w.drew
    )
  ) (
    K false w.drew
  )

def F.mallowref10_Cache_Empty (E : Env) (a0 : (Option Addr)) (K : Bool → World → Prop) (w : World) : Prop :=
  LOOP (Int × Unit) (0, ()) w fun s1 _ w2 next3 =>
    CND (decide ((s1.1 : Int) < 64)) (
      NC a0 fun p4 =>
      ((0 : Int) ≤ s1.1 ∧ (s1.1 : Int) < (64 : Nat)) ∧
      ∃ x5 : Bool, w2.cell? ((p4.add 1).add (Int.toNat s1.1 * 1)) = some (.bool x5) ∧
      CND (x5) (
        K false w2
      ) (
        next3 (i64 (s1.1 + 1), ()) w2
      )
    ) (
      K true w2
    )

def F.mallowref9_Tree_Find (E : Env) (a0 : (Option Addr)) (a1 : Int) (K : Int → Bool → World → Prop) (w : World) : Prop :=
  LOOP (Int × Int × Int × Unit) (0, 0, 0, ()) w fun s1 _ w2 next3 =>
    NC a0 fun p4 =>
    ∃ x5 : SlV, w2.cell? p4 = some (.slice x5.base x5.len x5.cap) ∧
    CND (decide ((s1.2.2.1 : Int) < ((x5.len : Nat) : Int))) (
      CND (decide ((a1 : Int) > 0)) (
        JOIN (Int × Unit) (fun J6 =>
          JOIN (Bool × Unit) (fun J9 =>
            CND (decide ((s1.2.2.1 : Int) > 0)) (
              NC a0 fun p12 =>
              ∃ x13 : SlV, w2.cell? p12 = some (.slice x13.base x13.len x13.cap) ∧
              NC x13.base fun p14 =>
              ((0 : Int) ≤ s1.2.2.1 ∧ (s1.2.2.1 : Int) < (x13.len : Nat)) ∧
              ∃ x15 : Int, w2.cell? (p14.add (Int.toNat s1.2.2.1 * 2)) = some (.int .u64 x15) ∧
              J9 ((x15 : Int) != (u64 (s1.2.1 + 1)), ()) w2
            ) (
              J9 (false, ()) w2
            )
          ) fun s10 _ w11 =>
            CND (s10.1) (
              J6 (0, ()) w11
            ) (
              J6 (s1.1, ()) w11
            )
        ) fun s7 _ w8 =>
          NC a0 fun p16 =>
          ∃ x17 : SlV, w8.cell? p16 = some (.slice x17.base x17.len x17.cap) ∧
          NC x17.base fun p18 =>
          ((0 : Int) ≤ s1.2.2.1 ∧ (s1.2.2.1 : Int) < (x17.len : Nat)) ∧
          ∃ x19 : Int, w8.cell? (p18.add (Int.toNat s1.2.2.1 * 2)) = some (.int .u64 x19) ∧
          LOOP (Int × Int × Unit) (s7.1, 0, ()) w8 fun s20 _ w21 next22 =>
            CND (decide ((s20.2.1 : Int) < 512)) (
              JOIN (Int × Unit) (fun J23 =>
                NC a0 fun p26 =>
                ∃ x27 : SlV, w21.cell? p26 = some (.slice x27.base x27.len x27.cap) ∧
                NC x27.base fun p28 =>
                ((0 : Int) ≤ s1.2.2.1 ∧ (s1.2.2.1 : Int) < (x27.len : Nat)) ∧
                ∃ x29 : (Option Addr), w21.cell? ((p28.add (Int.toNat s1.2.2.1 * 2)).add 1) = some (.pointer x29) ∧
                NC x29 fun p30 =>
                ((0 : Int) ≤ s20.2.1 ∧ (s20.2.1 : Int) < (512 : Nat)) ∧
                ∃ x31 : Bool, w21.cell? (p30.add (Int.toNat s20.2.1 * 1)) = some (.bool x31) ∧
                CND (x31) (
                  J23 (0, ()) w21
                ) (
                  J23 (u64 (s20.1 + 1), ()) w21
                )
              ) fun s24 _ w25 =>
                CND ((s24.1 : Int) == a1) (
                  NC a0 fun p32 =>
                  ∃ x33 : SlV, w25.cell? p32 = some (.slice x33.base x33.len x33.cap) ∧
                  NC x33.base fun p34 =>
                  ((0 : Int) ≤ s1.2.2.1 ∧ (s1.2.2.1 : Int) < (x33.len : Nat)) ∧
                  ∃ x35 : Int, w25.cell? (p34.add (Int.toNat s1.2.2.1 * 2)) = some (.int .u64 x35) ∧
                  LET (u64 ((u64 ((u64 ((u64 (x35 * 512)) + s20.2.1)) + 1)) - a1) : Int) fun t36 =>
                  K t36 true w25
                ) (
                  next22 (s24.1, u64 (s20.2.1 + 1), ()) w25
                )
            ) (
              next3 (s20.1, x19, i64 (s1.2.2.1 + 1), ()) w21
            )
      ) (
        K 0 false w2
      )
    ) (
      K 0 false w2
    )

def F.mallowref9_Tree_First (E : Env) (a0 : (Option Addr)) (K : Int → Bool → World → Prop) (w : World) : Prop :=
  F.mallowref9_Tree_Find E a0 1 (fun r1 r2 w3 =>
  K r1 r2 w3
  ) w

def F.mallowref9_Tree_State (E : Env) (a0 : (Option Addr)) (a1 : Int) (K : Bool → Bool → Bool → World → Prop) (w : World) : Prop :=
  512 ≠ (0 : Int) ∧
  F.mallowref9_Tree_find E a0 (u64 (Int.tdiv a1 512)) (fun r1 r2 w3 =>
  CND (!r2) (
    K false false false w3
  ) (
    NC a0 fun p4 =>
    ∃ x5 : SlV, w3.cell? p4 = some (.slice x5.base x5.len x5.cap) ∧
    NC x5.base fun p6 =>
    ((0 : Int) ≤ r1 ∧ (r1 : Int) < (x5.len : Nat)) ∧
    ∃ x7 : (Option Addr), w3.cell? ((p6.add (Int.toNat r1 * 2)).add 1) = some (.pointer x7) ∧
    512 ≠ (0 : Int) ∧
    NC x7 fun p8 =>
    ((0 : Int) ≤ (Int.tmod a1 512) ∧ ((Int.tmod a1 512) : Int) < (512 : Nat)) ∧
    ∃ x9 : Bool, w3.drew.cell? (p8.add (Int.toNat (Int.tmod a1 512) * 1)) = some (.bool x9) ∧
    512 ≠ (0 : Int) ∧
    NC x7 fun p10 =>
    ((0 : Int) ≤ (Int.tmod a1 512) ∧ ((Int.tmod a1 512) : Int) < (512 : Nat)) ∧
    ∃ x11 : Bool, w3.drew.cell? ((p10.add 512).add (Int.toNat (Int.tmod a1 512) * 1)) = some (.bool x11) ∧
    K true (!x9) x11 w3.drew
  )
  ) w

def F.mallowref9_Tree_lies (E : Env) (a0 : (Option Addr)) (a1 : Int) (a2 : Int) (K : Bool → World → Prop) (w : World) : Prop :=
  JOIN (Bool × Unit) (fun J1 =>
    CND ((a2 : Int) == 0) (
      J1 (true, ()) w
    ) (
      CND (decide ((a1 : Int) ≥ 34359738368)) (
        J1 (true, ()) w
      ) (
        J1 (decide ((a2 : Int) > (u64 (34359738368 - a1))), ()) w
      )
    )
  ) fun s2 _ w3 =>
    CND (s2.1) (
      K false w3
    ) (
      512 ≠ (0 : Int) ∧
      F.mallowref9_Tree_find E a0 (u64 (Int.tdiv a1 512)) (fun r4 r5 w6 =>
      512 ≠ (0 : Int) ∧
      LOOP (Int × Int × Unit) (r4, u64 (Int.tdiv a1 512), ()) w6 fun s7 _ w8 next9 =>
        512 ≠ (0 : Int) ∧
        CND (decide ((s7.2.1 : Int) ≤ (u64 (Int.tdiv (u64 ((u64 (a1 + a2)) - 1)) 512)))) (
          JOIN (Bool × Unit) (fun J10 =>
            NC a0 fun p13 =>
            ∃ x14 : SlV, w8.cell? p13 = some (.slice x14.base x14.len x14.cap) ∧
            CND (decide ((s7.1 : Int) ≥ ((x14.len : Nat) : Int))) (
              J10 (true, ()) w8
            ) (
              NC a0 fun p15 =>
              ∃ x16 : SlV, w8.cell? p15 = some (.slice x16.base x16.len x16.cap) ∧
              NC x16.base fun p17 =>
              ((0 : Int) ≤ s7.1 ∧ (s7.1 : Int) < (x16.len : Nat)) ∧
              ∃ x18 : Int, w8.cell? (p17.add (Int.toNat s7.1 * 2)) = some (.int .u64 x18) ∧
              J10 ((x18 : Int) != s7.2.1, ()) w8
            )
          ) fun s11 _ w12 =>
            CND (s11.1) (
              K false w12
            ) (
              next9 (i64 (s7.1 + 1), u64 (s7.2.1 + 1), ()) w12
            )
        ) (
          K true w8
        )
      ) w3
    )

def F.mallowref9_Tree_count (E : Env) (a0 : (Option Addr)) (a1 : Int) (a2 : Int) (K : Int → Int → World → Prop) (w : World) : Prop :=
  LOOP (Int × Int × Int × Unit) (0, 0, a1, ()) w fun s1 _ w2 next3 =>
    CND (decide ((s1.2.2.1 : Int) < (u64 (a1 + a2)))) (
      F.mallowref9_Tree_State E a0 s1.2.2.1 (fun r4 r5 r6 w7 =>
      JOIN (Int × Unit) (fun J8 =>
        CND (!r5) (
          J8 (u64 (s1.1 + 1), ()) w7
        ) (
          J8 (s1.1, ()) w7
        )
      ) fun s9 _ w10 =>
        CND (r6) (
          next3 (s9.1, u64 (s1.2.1 + 1), u64 (s1.2.2.1 + 1), ()) w10
        ) (
          next3 (s9.1, s1.2.1, u64 (s1.2.2.1 + 1), ()) w10
        )
      ) w2
    ) (
      K s1.1 s1.2.1 w2
    )

def F.mallowref9_Tree_put (E : Env) (a0 : (Option Addr)) (a1 : Int) (a2 : Int) (a3 : Bool) (a4 : Bool) (K : World → Prop) (w : World) : Prop :=
  LOOP (Int × Unit) (a1, ()) w fun s1 _ w2 next3 =>
    CND (decide ((s1.1 : Int) < (u64 (a1 + a2)))) (
      512 ≠ (0 : Int) ∧
      F.mallowref9_Tree_find E a0 (u64 (Int.tdiv s1.1 512)) (fun r4 r5 w6 =>
      NC a0 fun p7 =>
      ∃ x8 : SlV, w6.cell? p7 = some (.slice x8.base x8.len x8.cap) ∧
      NC x8.base fun p9 =>
      ((0 : Int) ≤ r4 ∧ (r4 : Int) < (x8.len : Nat)) ∧
      ∃ x10 : (Option Addr), w6.cell? ((p9.add (Int.toNat r4 * 2)).add 1) = some (.pointer x10) ∧
      512 ≠ (0 : Int) ∧
      NC x10 fun p11 =>
      ((0 : Int) ≤ (Int.tmod s1.1 512) ∧ ((Int.tmod s1.1 512) : Int) < (512 : Nat)) ∧
      stCells (p11.add (Int.toNat (Int.tmod s1.1 512) * 1)) 0 [.bool a3] w6 fun w12 =>
      NC a0 fun p13 =>
      ∃ x14 : SlV, w12.cell? p13 = some (.slice x14.base x14.len x14.cap) ∧
      NC x14.base fun p15 =>
      ((0 : Int) ≤ r4 ∧ (r4 : Int) < (x14.len : Nat)) ∧
      ∃ x16 : (Option Addr), w12.cell? ((p15.add (Int.toNat r4 * 2)).add 1) = some (.pointer x16) ∧
      512 ≠ (0 : Int) ∧
      NC x16 fun p17 =>
      ((0 : Int) ≤ (Int.tmod s1.1 512) ∧ ((Int.tmod s1.1 512) : Int) < (512 : Nat)) ∧
      stCells ((p17.add 512).add (Int.toNat (Int.tmod s1.1 512) * 1)) 0 [.bool a4] w12 fun w18 =>
      next3 (u64 (s1.1 + 1), ()) w18
      ) w2
    ) (
      K  w2
    )

def F.mallowref9_Tree_Take (E : Env) (a0 : (Option Addr)) (a1 : Int) (a2 : Int) (K : Int → Int → World → Prop) (w : World) : Prop :=
  F.mallowref9_Tree_lies E a0 a1 a2 (fun r1 w2 =>
  CND (!r1) (
    K 0 10 w2
  ) (
    F.mallowref9_Tree_count E a0 a1 a2 (fun r3 r4 w5 =>
    CND (decide ((r3 : Int) > 0)) (
      K 0 32 w5
    ) (
      F.mallowref9_Tree_put E a0 a1 a2 true false (fun  w6 =>
      K r4 0 w6
      ) w5
    )
    ) w2
  )
  ) w

def F.mallowref10_Cache_Fill (E : Env) (a0 : (Option Addr)) (a1 : (Option Addr)) (K : Int → World → Prop) (w : World) : Prop :=
  F.mallowref10_Cache_Empty E a0 (fun r1 w2 =>
  CND (!r1) (
    K 33 w2
  ) (
    F.mallowref9_Tree_First E a1 (fun r3 r4 w5 =>
    CND (!r4) (
      K 30 w5
    ) (
      64 ≠ (0 : Int) ∧
      NC a0 fun p6 =>
      stCells p6 0 [.int .u64 (u64 (r3 - (Int.tmod r3 64)))] w5 fun w7 =>
      LOOP (Int × Unit) (0, ()) w7 fun s8 _ w9 next10 =>
        CND (decide ((s8.1 : Int) < 64)) (
          NC a0 fun p11 =>
          ∃ x12 : Int, w9.cell? p11 = some (.int .u64 x12) ∧
          F.mallowref9_Tree_State E a1 (u64 (x12 + (u64 (s8.1)))) (fun r13 r14 r15 w16 =>
          NC a0 fun p17 =>
          ((0 : Int) ≤ s8.1 ∧ (s8.1 : Int) < (64 : Nat)) ∧
          stCells ((p17.add 1).add (Int.toNat s8.1 * 1)) 0 [.bool r14] w16 fun w18 =>
          NC a0 fun p19 =>
          ((0 : Int) ≤ s8.1 ∧ (s8.1 : Int) < (64 : Nat)) ∧
          stCells ((p19.add 65).add (Int.toNat s8.1 * 1)) 0 [.bool r15] w18 fun w20 =>
          CND (r14) (
            NC a0 fun p21 =>
            ∃ x22 : Int, w20.cell? p21 = some (.int .u64 x22) ∧
            F.mallowref9_Tree_Take E a1 (u64 (x22 + (u64 (s8.1)))) 1 (fun r23 r24 w25 =>
            next10 (i64 (s8.1 + 1), ()) w25
            ) w20
          ) (
            next10 (i64 (s8.1 + 1), ()) w20
          )
          ) w9
        ) (
          K 0 w9
        )
    )
    ) w2
  )
  ) w

def F.mallowref10_Cache_Alloc (E : Env) (a0 : (Option Addr)) (a1 : Int) (K : Int → Int → Int → World → Prop) (w : World) : Prop :=
  JOIN (Bool × Unit) (fun J1 =>
    CND (decide ((a1 : Int) < 1)) (
      J1 (true, ()) w
    ) (
      J1 (decide ((a1 : Int) > 64), ()) w
    )
  ) fun s2 _ w3 =>
    CND (s2.1) (
      K 0 0 1 w3
    ) (
      LOOP (Int × Int × Unit) (0, 0, ()) w3 fun s4 _ w5 next6 =>
        CND (decide ((s4.2.1 : Int) < 64)) (
          JOIN (Int × Unit) (fun J7 =>
            NC a0 fun p10 =>
            ((0 : Int) ≤ s4.2.1 ∧ (s4.2.1 : Int) < (64 : Nat)) ∧
            ∃ x11 : Bool, w5.cell? ((p10.add 1).add (Int.toNat s4.2.1 * 1)) = some (.bool x11) ∧
            CND (!x11) (
              J7 (0, ()) w5
            ) (
              J7 (i64 (s4.1 + 1), ()) w5
            )
          ) fun s8 _ w9 =>
            CND (decide ((s8.1 : Int) < a1)) (
              next6 (s8.1, i64 (s4.2.1 + 1), ()) w9
            ) (
              LET (i64 ((i64 (s4.2.1 - a1)) + 1) : Int) fun k_12 =>
              LOOP (Int × Int × Unit) (0, k_12, ()) w9 fun s13 _ w14 next15 =>
                CND (decide ((s13.2.1 : Int) ≤ s4.2.1)) (
                  JOIN (Int × Unit) (fun J16 =>
                    NC a0 fun p19 =>
                    ((0 : Int) ≤ s13.2.1 ∧ (s13.2.1 : Int) < (64 : Nat)) ∧
                    ∃ x20 : Bool, w14.cell? ((p19.add 65).add (Int.toNat s13.2.1 * 1)) = some (.bool x20) ∧
                    CND (x20) (
                      J16 (i64 (s13.1 + 1), ()) w14
                    ) (
                      J16 (s13.1, ()) w14
                    )
                  ) fun s17 _ w18 =>
                    NC a0 fun p21 =>
                    ((0 : Int) ≤ s13.2.1 ∧ (s13.2.1 : Int) < (64 : Nat)) ∧
                    stCells ((p21.add 1).add (Int.toNat s13.2.1 * 1)) 0 [.bool false] w18 fun w22 =>
                    next15 (s17.1, i64 (s13.2.1 + 1), ()) w22
                ) (
                  NC a0 fun p23 =>
                  ∃ x24 : Int, w14.cell? p23 = some (.int .u64 x24) ∧
                  LET (u64 (x24 + (u64 (i64 ((i64 (s4.2.1 - a1)) + 1)))) : Int) fun t25 =>
                  K t25 s13.1 0 w14
                )
            )
        ) (
          K 0 0 30 w5
        )
    )

def F.mallowref9_Tree_Give (E : Env) (a0 : (Option Addr)) (a1 : Int) (a2 : Int) (a3 : Bool) (K : Int → World → Prop) (w : World) : Prop :=
  F.mallowref9_Tree_lies E a0 a1 a2 (fun r1 w2 =>
  CND (!r1) (
    K 10 w2
  ) (
    F.mallowref9_Tree_count E a0 a1 a2 (fun r3 r4 w5 =>
    CND (decide ((r3 : Int) < a2)) (
      K 31 w5
    ) (
      F.mallowref9_Tree_put E a0 a1 a2 false a3 (fun  w6 =>
      K 0 w6
      ) w5
    )
    ) w2
  )
  ) w

def F.mallowref10_Cache_Flush (E : Env) (a0 : (Option Addr)) (a1 : (Option Addr)) (K : World → Prop) (w : World) : Prop :=
  LOOP (Int × Unit) (0, ()) w fun s1 _ w2 next3 =>
    CND (decide ((s1.1 : Int) < 64)) (
      NC a0 fun p4 =>
      ((0 : Int) ≤ s1.1 ∧ (s1.1 : Int) < (64 : Nat)) ∧
      ∃ x5 : Bool, w2.cell? ((p4.add 1).add (Int.toNat s1.1 * 1)) = some (.bool x5) ∧
      CND (x5) (
        NC a0 fun p6 =>
        ∃ x7 : Int, w2.drew.cell? p6 = some (.int .u64 x7) ∧
        NC a0 fun p8 =>
        ((0 : Int) ≤ s1.1 ∧ (s1.1 : Int) < (64 : Nat)) ∧
        ∃ x9 : Bool, w2.drew.cell? ((p8.add 65).add (Int.toNat s1.1 * 1)) = some (.bool x9) ∧
        F.mallowref9_Tree_Give E a1 (u64 (x7 + (u64 (s1.1)))) 1 x9 (fun r10 w11 =>
        w11.cell? p6 = some (.int .u64 x7) ∧
        NC a0 fun p12 =>
        ((0 : Int) ≤ s1.1 ∧ (s1.1 : Int) < (64 : Nat)) ∧
        stCells ((p12.add 1).add (Int.toNat s1.1 * 1)) 0 [.bool false] w11 fun w13 =>
        next3 (i64 (s1.1 + 1), ()) w13
        ) w2.drew
      ) (
        next3 (i64 (s1.1 + 1), ()) w2
      )
    ) (
      K  w2
    )

def F.mallowref9_Tree_Alloc (E : Env) (a0 : (Option Addr)) (a1 : Int) (K : Int → Int → Int → World → Prop) (w : World) : Prop :=
  CND ((a1 : Int) == 0) (
    K 0 0 1 w
  ) (
    F.mallowref9_Tree_Find E a0 a1 (fun r1 r2 w3 =>
    CND (!r2) (
      K 0 0 30 w3
    ) (
      F.mallowref9_Tree_Take E a0 r1 a1 (fun r4 r5 w6 =>
      K r1 r4 0 w6
      ) w3
    )
    ) w
  )

def F.mallowlaw10_own (E : Env) (a0 : (Option Addr)) (a1 : (Option Addr)) (a2 : Int) (K : Bool → World → Prop) (w : World) : Prop :=
  F.mallowref10_Cache_Owns E a1 a2 (fun r1 w2 =>
  K r1 w2
  ) w

def F.mallowref6_Row_Last (E : Env) (a0 : (Option Addr)) (a1 : Int) (a2 : Int) (K : Int → Int → World → Prop) (w : World) : Prop :=
  JOIN (Int × Unit) (fun J1 =>
    CND (decide ((a2 : Int) > 512)) (
      J1 (512, ()) w
    ) (
      J1 (a2, ()) w
    )
  ) fun s2 _ w3 =>
    JOIN (Bool × Unit) (fun J4 =>
      CND (decide ((s2.1 : Int) < 1)) (
        J4 (true, ()) w3
      ) (
        J4 (decide ((a1 : Int) < 1), ()) w3
      )
    ) fun s5 _ w6 =>
      CND (s5.1) (
        K 0 0 w6
      ) (
        JOIN (Int × Unit) (fun J7 =>
          LOOP (Int × Unit) (i64 (s2.1 - 1), ()) w6 fun s10 _ w11 next12 =>
            CND (decide ((s10.1 : Int) ≥ 0)) (
              NC a0 fun p13 =>
              ((0 : Int) ≤ s10.1 ∧ (s10.1 : Int) < (512 : Nat)) ∧
              ∃ x14 : Bool, w11.cell? (p13.add (Int.toNat s10.1 * 1)) = some (.bool x14) ∧
              CND (x14) (
                next12 (i64 (s10.1 - 1), ()) w11
              ) (
                J7 (s10.1, ()) w11
              )
            ) (
              J7 (s10.1, ()) w11
            )
        ) fun s8 _ w9 =>
          CND (decide ((s8.1 : Int) < 0)) (
            K 0 0 w9
          ) (
            LOOP (Int × Unit) (s8.1, ()) w9 fun s15 _ w16 next17 =>
              CND (decide ((s15.1 : Int) > 0)) (
                NC a0 fun p18 =>
                ((0 : Int) ≤ (i64 (s15.1 - 1)) ∧ ((i64 (s15.1 - 1)) : Int) < (512 : Nat)) ∧
                ∃ x19 : Bool, w16.cell? (p18.add (Int.toNat (i64 (s15.1 - 1)) * 1)) = some (.bool x19) ∧
                CND (!x19) (
                  CND (decide (((i64 ((i64 (s8.1 - s15.1)) + 1)) : Int) < a1)) (
                    next17 (i64 (s15.1 - 1), ()) w16
                  ) (
                    LET (i64 ((i64 (s8.1 - s15.1)) + 1) : Int) fun t20 =>
                    K s15.1 t20 w16
                  )
                ) (
                  LET (i64 ((i64 (s8.1 - s15.1)) + 1) : Int) fun t21 =>
                  K s15.1 t21 w16
                )
              ) (
                LET (i64 ((i64 (s8.1 - s15.1)) + 1) : Int) fun t22 =>
                K s15.1 t22 w16
              )
          )
      )

def F.mallowref8_Chunk_Scavenge (E : Env) (a0 : (Option Addr)) (a1 : Int) (K : Int → Int → World → Prop) (w : World) : Prop :=
  AL (.cells (Array.replicate 512 (.bool false)) E.t_mallowref6_Row) w fun b1 w2 =>
  LOOP (Int × Unit) (0, ()) w2 fun s3 _ w4 next5 =>
    CND (decide ((s3.1 : Int) < 512)) (
      NC a0 fun p6 =>
      ((0 : Int) ≤ s3.1 ∧ (s3.1 : Int) < (512 : Nat)) ∧
      ∃ x7 : Bool, w4.cell? (p6.add (Int.toNat s3.1 * 1)) = some (.bool x7) ∧
      CND (x7) (
        ((0 : Int) ≤ s3.1 ∧ (s3.1 : Int) < (512 : Nat)) ∧
        stCells ((Addr.mk b1 0 none).add (Int.toNat s3.1 * 1)) 0 [.bool true] w4 fun w8 =>
        next5 (i64 (s3.1 + 1), ()) w8
      ) (
        NC a0 fun p9 =>
        ((0 : Int) ≤ s3.1 ∧ (s3.1 : Int) < (512 : Nat)) ∧
        ∃ x10 : Bool, w4.cell? ((p9.add 512).add (Int.toNat s3.1 * 1)) = some (.bool x10) ∧
        ((0 : Int) ≤ s3.1 ∧ (s3.1 : Int) < (512 : Nat)) ∧
        stCells ((Addr.mk b1 0 none).add (Int.toNat s3.1 * 1)) 0 [.bool x10] w4 fun w11 =>
        next5 (i64 (s3.1 + 1), ()) w11
      )
    ) (
      F.mallowref6_Row_Last E (some (Addr.mk b1 0 none)) a1 512 (fun r12 r13 w14 =>
      NC a0 fun p15 =>
      F.mallowref6_Row_Put E (some (p15.add 512)) r12 r13 true (fun r16 w17 =>
      K r12 r13 w17
      ) w14
      ) w4
    )

def F.mallowref9_Tree_Scavenge (E : Env) (a0 : (Option Addr)) (a1 : Int) (K : Int → Int → World → Prop) (w : World) : Prop :=
  JOIN (Int × Unit) (fun J1 =>
    CND (decide ((a1 : Int) > 512)) (
      J1 (512, ()) w
    ) (
      J1 (a1, ()) w
    )
  ) fun s2 _ w3 =>
    NC a0 fun p4 =>
    ∃ x5 : SlV, w3.cell? p4 = some (.slice x5.base x5.len x5.cap) ∧
    LET (i64 (((x5.len : Nat) : Int) - 1) : Int) fun i_6 =>
    LOOP (Int × Unit) (i_6, ()) w3 fun s7 _ w8 next9 =>
      CND (decide ((s7.1 : Int) ≥ 0)) (
        NC a0 fun p10 =>
        ∃ x11 : SlV, w8.cell? p10 = some (.slice x11.base x11.len x11.cap) ∧
        NC x11.base fun p12 =>
        ((0 : Int) ≤ s7.1 ∧ (s7.1 : Int) < (x11.len : Nat)) ∧
        ∃ x13 : (Option Addr), w8.cell? ((p12.add (Int.toNat s7.1 * 2)).add 1) = some (.pointer x13) ∧
        F.mallowref8_Chunk_Scavenge E x13 (i64 (s2.1)) (fun r14 r15 w16 =>
        CND (decide ((r15 : Int) > 0)) (
          NC a0 fun p17 =>
          ∃ x18 : SlV, w16.cell? p17 = some (.slice x18.base x18.len x18.cap) ∧
          NC x18.base fun p19 =>
          ((0 : Int) ≤ s7.1 ∧ (s7.1 : Int) < (x18.len : Nat)) ∧
          ∃ x20 : Int, w16.cell? (p19.add (Int.toNat s7.1 * 2)) = some (.int .u64 x20) ∧
          LET (u64 ((u64 (x20 * 512)) + (u64 (r14))) : Int) fun t21 =>
          K t21 (u64 (r15)) w16
        ) (
          next9 (i64 (s7.1 - 1), ()) w16
        )
        ) w8
      ) (
        K 0 0 w8
      )

def F.mallowlaw10_act (E : Env) (a0 : (Option Addr)) (a1 : (Option Addr)) (a2 : (Option Addr)) (a3 : (Option Addr)) (a4_0 : Int) (a4_1 : Bool) (a4_2 : Int) (a4_3 : Int) (K : Bool → World → Prop) (w : World) : Prop :=
  AL (.cells #[.int .i64 a4_0, .bool a4_1, .int .i64 a4_2, .int .u64 a4_3] E.t_mallowlaw10_Act) w fun b1 w2 =>
  ∃ x3 : Int, w2.cell? (Addr.mk b1 0 none) = some (.int .i64 x3) ∧
  CND ((x3 : Int) == 1) (
    F.pcache_Cache_Fill E a2 a0 (fun r4 w5 =>
    F.mallowref10_Cache_Fill E a3 a1 (fun r6 w7 =>
    K ((r4 : Int) == r6) w7
    ) w5
    ) w2
  ) (
    CND ((x3 : Int) == 2) (
      ∃ x8 : Int, w2.cell? ((Addr.mk b1 0 none).add 2) = some (.int .i64 x8) ∧
      F.pcache_Cache_Alloc E a2 x8 (fun r9 r10 r11 w12 =>
      ∃ x13 : Int, w12.cell? ((Addr.mk b1 0 none).add 2) = some (.int .i64 x13) ∧
      F.mallowref10_Cache_Alloc E a3 x13 (fun r14 r15 r16 w17 =>
      CND ((r9 : Int) == r14) (
        CND ((r10 : Int) == r15) (
          K ((r11 : Int) == r16) w17
        ) (
          K false w17
        )
      ) (
        K false w17
      )
      ) w12
      ) w2
    ) (
      CND ((x3 : Int) == 3) (
        F.pcache_Cache_Flush E a2 a0 (fun  w18 =>
        F.mallowref10_Cache_Flush E a3 a1 (fun  w19 =>
        K true w19
        ) w18
        ) w2
      ) (
        CND ((x3 : Int) == 4) (
          ∃ x20 : Int, w2.cell? ((Addr.mk b1 0 none).add 2) = some (.int .i64 x20) ∧
          F.radix_Tree_Alloc E a0 (u64 (bitK .i64 0 x20 255)) (fun r21 r22 r23 w24 =>
          ∃ x25 : Int, w24.cell? ((Addr.mk b1 0 none).add 2) = some (.int .i64 x25) ∧
          F.mallowref9_Tree_Alloc E a1 (u64 (bitK .i64 0 x25 255)) (fun r26 r27 r28 w29 =>
          CND ((r21 : Int) == r26) (
            CND ((r22 : Int) == r27) (
              K ((r23 : Int) == r28) w29
            ) (
              K false w29
            )
          ) (
            K false w29
          )
          ) w24
          ) w2
        ) (
          CND ((x3 : Int) == 5) (
            ∃ x30 : Int, w2.drew.cell? ((Addr.mk b1 0 none).add 3) = some (.int .u64 x30) ∧
            F.mallowlaw10_own E a1 a3 x30 (fun r31 w32 =>
            CND (r31) (
              K true w32
            ) (
              ∃ x33 : Int, w32.cell? ((Addr.mk b1 0 none).add 3) = some (.int .u64 x33) ∧
              ∃ x34 : Int, w32.cell? ((Addr.mk b1 0 none).add 3) = some (.int .u64 x34) ∧
              F.radix_Tree_Give E a0 x33 1 (fun r35 w36 =>
              w36.cell? ((Addr.mk b1 0 none).add 3) = some (.int .u64 x34) ∧
              F.mallowref9_Tree_Give E a1 x34 1 false (fun r37 w38 =>
              K ((r35 : Int) == r37) w38
              ) w36
              ) w32
            )
            ) w2.drew
          ) (
            CND ((x3 : Int) == 6) (
              ∃ x39 : Int, w2.cell? ((Addr.mk b1 0 none).add 2) = some (.int .i64 x39) ∧
              F.radix_Tree_Scavenge E a0 (u64 (bitK .i64 0 x39 255)) (fun r40 r41 w42 =>
              ∃ x43 : Int, w42.cell? ((Addr.mk b1 0 none).add 2) = some (.int .i64 x43) ∧
              F.mallowref9_Tree_Scavenge E a1 (u64 (bitK .i64 0 x43 255)) (fun r44 r45 w46 =>
              CND ((r40 : Int) == r44) (
                K ((r41 : Int) == r45) w46
              ) (
                K false w46
              )
              ) w42
              ) w2
            ) (
              K true w2
            )
          )
        )
      )
    )
  )

def F.mallowref10_Cache_Tell (E : Env) (a0 : (Option Addr)) (K : Int → Int → Int → World → Prop) (w : World) : Prop :=
  F.mallowref10_Cache_Empty E a0 (fun r1 w2 =>
  CND (r1) (
    K 0 0 0 w2
  ) (
    LOOP (Int × Int × Int × Unit) (0, 0, 63, ()) w2 fun s3 _ w4 next5 =>
      CND (decide ((s3.2.2.1 : Int) ≥ 0)) (
        NC a0 fun p6 =>
        ((0 : Int) ≤ s3.2.2.1 ∧ (s3.2.2.1 : Int) < (64 : Nat)) ∧
        ∃ x7 : Bool, w4.cell? ((p6.add 1).add (Int.toNat s3.2.2.1 * 1)) = some (.bool x7) ∧
        CND (x7) (
          LET (u64 ((u64 (2 * s3.1)) + 1) : Int) fun has_8 =>
          NC a0 fun p9 =>
          ((0 : Int) ≤ s3.2.2.1 ∧ (s3.2.2.1 : Int) < (64 : Nat)) ∧
          ∃ x10 : Bool, w4.cell? ((p9.add 65).add (Int.toNat s3.2.2.1 * 1)) = some (.bool x10) ∧
          CND (x10) (
            LET (u64 ((u64 (2 * s3.2.1)) + 1) : Int) fun gone_11 =>
            next5 (has_8, gone_11, i64 (s3.2.2.1 - 1), ()) w4
          ) (
            next5 (has_8, u64 (2 * s3.2.1), i64 (s3.2.2.1 - 1), ()) w4
          )
        ) (
          next5 (u64 (2 * s3.1), u64 (2 * s3.2.1), i64 (s3.2.2.1 - 1), ()) w4
        )
      ) (
        NC a0 fun p12 =>
        ∃ x13 : Int, w4.cell? p12 = some (.int .u64 x13) ∧
        K x13 s3.1 s3.2.1 w4
      )
  )
  ) w

def F.mallowref6_Row_Count (E : Env) (a0 : (Option Addr)) (a1 : Int) (a2 : Int) (K : Int → World → Prop) (w : World) : Prop :=
  F.mallowref6_Right E a1 a2 (fun r1 w2 =>
  CND (!r1) (
    K 0 w2
  ) (
    LOOP (Int × Int × Unit) (0, a1, ()) w2 fun s3 _ w4 next5 =>
      CND (decide ((s3.2.1 : Int) < (i64 (a1 + a2)))) (
        NC a0 fun p6 =>
        ((0 : Int) ≤ s3.2.1 ∧ (s3.2.1 : Int) < (512 : Nat)) ∧
        ∃ x7 : Bool, w4.cell? (p6.add (Int.toNat s3.2.1 * 1)) = some (.bool x7) ∧
        CND (x7) (
          next5 (i64 (s3.1 + 1), i64 (s3.2.1 + 1), ()) w4
        ) (
          next5 (s3.1, i64 (s3.2.1 + 1), ()) w4
        )
      ) (
        K s3.1 w4
      )
  )
  ) w

def F.mallowref8_Chunk_Free (E : Env) (a0 : (Option Addr)) (K : Int → World → Prop) (w : World) : Prop :=
  NC a0 fun p1 =>
  F.mallowref6_Row_Count E (some p1) 0 512 (fun r2 w3 =>
  K (i64 (512 - r2)) w3
  ) w

def F.mallowref9_Tree_Free (E : Env) (a0 : (Option Addr)) (K : Int → World → Prop) (w : World) : Prop :=
  LOOP (Int × Int × Unit) (0, 0, ()) w fun s1 _ w2 next3 =>
    NC a0 fun p4 =>
    ∃ x5 : SlV, w2.cell? p4 = some (.slice x5.base x5.len x5.cap) ∧
    CND (decide ((s1.2.1 : Int) < ((x5.len : Nat) : Int))) (
      NC a0 fun p6 =>
      ∃ x7 : SlV, w2.cell? p6 = some (.slice x7.base x7.len x7.cap) ∧
      NC x7.base fun p8 =>
      ((0 : Int) ≤ s1.2.1 ∧ (s1.2.1 : Int) < (x7.len : Nat)) ∧
      ∃ x9 : (Option Addr), w2.cell? ((p8.add (Int.toNat s1.2.1 * 2)).add 1) = some (.pointer x9) ∧
      F.mallowref8_Chunk_Free E x9 (fun r10 w11 =>
      next3 (i64 (s1.1 + r10), i64 (s1.2.1 + 1), ()) w11
      ) w2
    ) (
      K (u64 (s1.1)) w2
    )

def F.radix_Tree_Released (E : Env) (a0 : (Option Addr)) (K : Int → World → Prop) (w : World) : Prop :=
  NC a0 fun p1 =>
  F.stretch_Set_Sum E (some (p1.add 4)) (fun r2 w3 =>
  K r2 w3
  ) w

def F.mallowref8_Chunk_Released (E : Env) (a0 : (Option Addr)) (K : Int → World → Prop) (w : World) : Prop :=
  NC a0 fun p1 =>
  F.mallowref6_Row_Count E (some (p1.add 512)) 0 512 (fun r2 w3 =>
  K r2 w3
  ) w

def F.mallowref9_Tree_Released (E : Env) (a0 : (Option Addr)) (K : Int → World → Prop) (w : World) : Prop :=
  LOOP (Int × Int × Unit) (0, 0, ()) w fun s1 _ w2 next3 =>
    NC a0 fun p4 =>
    ∃ x5 : SlV, w2.cell? p4 = some (.slice x5.base x5.len x5.cap) ∧
    CND (decide ((s1.2.1 : Int) < ((x5.len : Nat) : Int))) (
      NC a0 fun p6 =>
      ∃ x7 : SlV, w2.cell? p6 = some (.slice x7.base x7.len x7.cap) ∧
      NC x7.base fun p8 =>
      ((0 : Int) ≤ s1.2.1 ∧ (s1.2.1 : Int) < (x7.len : Nat)) ∧
      ∃ x9 : (Option Addr), w2.cell? ((p8.add (Int.toNat s1.2.1 * 2)).add 1) = some (.pointer x9) ∧
      F.mallowref8_Chunk_Released E x9 (fun r10 w11 =>
      next3 (i64 (s1.1 + r10), i64 (s1.2.1 + 1), ()) w11
      ) w2
    ) (
      K (u64 (s1.1)) w2
    )

def F.mallowlaw10_same (E : Env) (a0 : (Option Addr)) (a1 : (Option Addr)) (a2 : (Option Addr)) (a3 : (Option Addr)) (K : Bool → World → Prop) (w : World) : Prop :=
  F.pcache_Cache_Tell E a2 (fun r1 r2 r3 w4 =>
  F.mallowref10_Cache_Tell E a3 (fun r5 r6 r7 w8 =>
  CND ((r1 : Int) == r5) (
    CND ((r2 : Int) == r6) (
      CND ((r3 : Int) == r7) (
        F.pcache_Cache_Empty E a2 (fun r9 w10 =>
        F.mallowref10_Cache_Empty E a3 (fun r11 w12 =>
        CND (r9 == r11) (
          F.radix_Tree_Free E a0 (fun r13 w14 =>
          F.mallowref9_Tree_Free E a1 (fun r15 w16 =>
          CND ((r13 : Int) == r15) (
            F.radix_Tree_Released E a0 (fun r17 w18 =>
            F.mallowref9_Tree_Released E a1 (fun r19 w20 =>
            K ((r17 : Int) == r19) w20
            ) w18
            ) w16
          ) (
            K false w16
          )
          ) w14
          ) w12
        ) (
          K false w12
        )
        ) w10
        ) w8
      ) (
        K false w8
      )
    ) (
      K false w8
    )
  ) (
    K false w8
  )
  ) w4
  ) w

def F.mallowlaw10_CachePlays (E : Env) (a0 : Int) (a1 : SlV) (K : Bool → World → Prop) (w : World) : Prop :=
  JOIN (Bool × Unit) (fun J1 =>
    CND (decide ((((a1.len : Nat) : Int) : Int) > 150)) (
      J1 (true, ()) w
    ) (
      CND (decide ((a0 : Int) < 1)) (
        J1 (true, ()) w
      ) (
        J1 (decide ((a0 : Int) > 4), ()) w
      )
    )
  ) fun s2 _ w3 =>
    CND (s2.1) (
      K true w3
    ) (
      F.radix_New E  (fun r4 w5 =>
      AL (.cells #[.slice none 0 0] E.t_mallowref9_Tree) w5 fun b6 w7 =>
      F.pcache_New E  (fun r8 w9 =>
      F.pcache_New E  (fun r10 w11 =>
      AL (.cells #[.int .u64 0, .bool false, .bool false, .bool false, .bool false, .bool false, .bool false, .bool false, .bool false, .bool false, .bool false, .bool false, .bool false, .bool false, .bool false, .bool false, .bool false, .bool false, .bool false, .bool false, .bool false, .bool false, .bool false, .bool false, .bool false, .bool false, .bool false, .bool false, .bool false, .bool false, .bool false, .bool false, .bool false, .bool false, .bool false, .bool false, .bool false, .bool false, .bool false, .bool false, .bool false, .bool false, .bool false, .bool false, .bool false, .bool false, .bool false, .bool false, .bool false, .bool false, .bool false, .bool false, .bool false, .bool false, .bool false, .bool false, .bool false, .bool false, .bool false, .bool false, .bool false, .bool false, .bool false, .bool false, .bool false, .bool false, .bool false, .bool false, .bool false, .bool false, .bool false, .bool false, .bool false, .bool false, .bool false, .bool false, .bool false, .bool false, .bool false, .bool false, .bool false, .bool false, .bool false, .bool false, .bool false, .bool false, .bool false, .bool false, .bool false, .bool false, .bool false, .bool false, .bool false, .bool false, .bool false, .bool false, .bool false, .bool false, .bool false, .bool false, .bool false, .bool false, .bool false, .bool false, .bool false, .bool false, .bool false, .bool false, .bool false, .bool false, .bool false, .bool false, .bool false, .bool false, .bool false, .bool false, .bool false, .bool false, .bool false, .bool false, .bool false, .bool false, .bool false, .bool false, .bool false, .bool false, .bool false, .bool false, .bool false] E.t_mallowref10_Cache) w11 fun b12 w13 =>
      AL (.cells #[.int .u64 0, .bool false, .bool false, .bool false, .bool false, .bool false, .bool false, .bool false, .bool false, .bool false, .bool false, .bool false, .bool false, .bool false, .bool false, .bool false, .bool false, .bool false, .bool false, .bool false, .bool false, .bool false, .bool false, .bool false, .bool false, .bool false, .bool false, .bool false, .bool false, .bool false, .bool false, .bool false, .bool false, .bool false, .bool false, .bool false, .bool false, .bool false, .bool false, .bool false, .bool false, .bool false, .bool false, .bool false, .bool false, .bool false, .bool false, .bool false, .bool false, .bool false, .bool false, .bool false, .bool false, .bool false, .bool false, .bool false, .bool false, .bool false, .bool false, .bool false, .bool false, .bool false, .bool false, .bool false, .bool false, .bool false, .bool false, .bool false, .bool false, .bool false, .bool false, .bool false, .bool false, .bool false, .bool false, .bool false, .bool false, .bool false, .bool false, .bool false, .bool false, .bool false, .bool false, .bool false, .bool false, .bool false, .bool false, .bool false, .bool false, .bool false, .bool false, .bool false, .bool false, .bool false, .bool false, .bool false, .bool false, .bool false, .bool false, .bool false, .bool false, .bool false, .bool false, .bool false, .bool false, .bool false, .bool false, .bool false, .bool false, .bool false, .bool false, .bool false, .bool false, .bool false, .bool false, .bool false, .bool false, .bool false, .bool false, .bool false, .bool false, .bool false, .bool false, .bool false, .bool false, .bool false, .bool false, .bool false, .bool false] E.t_mallowref10_Cache) w13 fun b14 w15 =>
      JOIN (Bool × Unit) (fun J16 =>
        CND (r4.isNone) (
          J16 (true, ()) w15
        ) (
          CND (r8.isNone) (
            J16 (true, ()) w15
          ) (
            CND (r10.isNone) (
              J16 (true, ()) w15
            ) (
              F.radix_Tree_Grow E r4 2 a0 (fun r19 w20 =>
              F.mallowref9_Tree_Grow E (some (Addr.mk b6 0 none)) 2 a0 (fun r21 w22 =>
              J16 ((r19 : Int) != r21, ()) w22
              ) w20
              ) w15
            )
          )
        )
      ) fun s17 _ w18 =>
        CND (s17.1) (
          K false w18
        ) (
          LOOP (Int × Unit) (0, ()) w18 fun s23 _ w24 next25 =>
            CND (decide ((s23.1 : Int) < ((a1.len : Nat) : Int))) (
              JOIN (Unit) (fun J26 =>
                NC a1.base fun p29 =>
                ((0 : Int) ≤ s23.1 ∧ (s23.1 : Int) < (a1.len : Nat)) ∧
                ∃ x30 : Int, w24.cell? (p29.add (Int.toNat s23.1 * 4)) = some (.int .i64 x30) ∧
                CND ((x30 : Int) == 5) (
                  NC a1.base fun p31 =>
                  ((0 : Int) ≤ s23.1 ∧ (s23.1 : Int) < (a1.len : Nat)) ∧
                  ∃ x32 : Int, w24.cell? ((p31.add (Int.toNat s23.1 * 4)).add 3) = some (.int .u64 x32) ∧
                  F.mallowref10_Cache_Owns E (some (Addr.mk b12 0 none)) x32 (fun r33 w34 =>
                  CND (r33) (
                    next25 (i64 (s23.1 + 1), ()) w34
                  ) (
                    NC a1.base fun p35 =>
                    ((0 : Int) ≤ s23.1 ∧ (s23.1 : Int) < (a1.len : Nat)) ∧
                    ∃ x36 : Int, w34.cell? ((p35.add (Int.toNat s23.1 * 4)).add 3) = some (.int .u64 x36) ∧
                    F.mallowref10_Cache_Owns E (some (Addr.mk b14 0 none)) x36 (fun r37 w38 =>
                    CND (r37) (
                      next25 (i64 (s23.1 + 1), ()) w38
                    ) (
                      J26 (()) w38
                    )
                    ) w34
                  )
                  ) w24
                ) (
                  J26 (()) w24
                )
              ) fun s27 _ w28 =>
                JOIN (Bool × Unit) (fun J39 =>
                  NC a1.base fun p42 =>
                  ((0 : Int) ≤ s23.1 ∧ (s23.1 : Int) < (a1.len : Nat)) ∧
                  ∃ x43 : Bool, w28.cell? ((p42.add (Int.toNat s23.1 * 4)).add 1) = some (.bool x43) ∧
                  CND (x43) (
                    NC a1.base fun p44 =>
                    ((0 : Int) ≤ s23.1 ∧ (s23.1 : Int) < (a1.len : Nat)) ∧
                    ∃ c45 : Int, w28.cell? ((p44.add (Int.toNat s23.1 * 4)).add 0) = some (.int .i64 c45) ∧
                    ∃ c46 : Bool, w28.cell? ((p44.add (Int.toNat s23.1 * 4)).add 1) = some (.bool c46) ∧
                    ∃ c47 : Int, w28.cell? ((p44.add (Int.toNat s23.1 * 4)).add 2) = some (.int .i64 c47) ∧
                    ∃ c48 : Int, w28.cell? ((p44.add (Int.toNat s23.1 * 4)).add 3) = some (.int .u64 c48) ∧
                    F.mallowlaw10_act E r4 (some (Addr.mk b6 0 none)) r10 (some (Addr.mk b14 0 none)) c45 c46 c47 c48 (fun r49 w50 =>
                    J39 (r49, ()) w50
                    ) w28
                  ) (
                    NC a1.base fun p51 =>
                    ((0 : Int) ≤ s23.1 ∧ (s23.1 : Int) < (a1.len : Nat)) ∧
                    ∃ c52 : Int, w28.cell? ((p51.add (Int.toNat s23.1 * 4)).add 0) = some (.int .i64 c52) ∧
                    ∃ c53 : Bool, w28.cell? ((p51.add (Int.toNat s23.1 * 4)).add 1) = some (.bool c53) ∧
                    ∃ c54 : Int, w28.cell? ((p51.add (Int.toNat s23.1 * 4)).add 2) = some (.int .i64 c54) ∧
                    ∃ c55 : Int, w28.cell? ((p51.add (Int.toNat s23.1 * 4)).add 3) = some (.int .u64 c55) ∧
                    F.mallowlaw10_act E r4 (some (Addr.mk b6 0 none)) r8 (some (Addr.mk b12 0 none)) c52 c53 c54 c55 (fun r56 w57 =>
                    J39 (r56, ()) w57
                    ) w28
                  )
                ) fun s40 _ w41 =>
                  JOIN (Bool × Unit) (fun J58 =>
                    CND (!s40.1) (
                      J58 (true, ()) w41
                    ) (
                      F.mallowlaw10_same E r4 (some (Addr.mk b6 0 none)) r8 (some (Addr.mk b12 0 none)) (fun r61 w62 =>
                      CND (!r61) (
                        J58 (true, ()) w62
                      ) (
                        F.mallowlaw10_same E r4 (some (Addr.mk b6 0 none)) r10 (some (Addr.mk b14 0 none)) (fun r63 w64 =>
                        J58 (!r63, ()) w64
                        ) w62
                      )
                      ) w41
                    )
                  ) fun s59 _ w60 =>
                    CND (s59.1) (
                      K false w60
                    ) (
                      next25 (i64 (s23.1 + 1), ()) w60
                    )
            ) (
              LOOP (Int × Unit) (1024, ()) w24 fun s65 _ w66 next67 =>
                CND (decide ((s65.1 : Int) < (u64 (1024 + (u64 (512 * a0)))))) (
                  F.radix_Tree_State E r4 s65.1 (fun r68 r69 r70 w71 =>
                  F.mallowref9_Tree_State E (some (Addr.mk b6 0 none)) s65.1 (fun r72 r73 r74 w75 =>
                  JOIN (Bool × Unit) (fun J76 =>
                    CND (!(r68 == r72)) (
                      J76 (true, ()) w75
                    ) (
                      CND (!(r69 == r73)) (
                        J76 (true, ()) w75
                      ) (
                        J76 (!(r70 == r74), ()) w75
                      )
                    )
                  ) fun s77 _ w78 =>
                    CND (s77.1) (
                      K false w78
                    ) (
                      next67 (u64 (s65.1 + 3), ()) w78
                    )
                  ) w71
                  ) w66
                ) (
                  F.mallowlaw10_awake E  (fun r79 w80 =>
                  K r79 w80
                  ) w66
                )
            )
        )
      ) w9
      ) w7
      ) w3
    )

def F.stretch_Set_at_1 (E : Env) (a0 : Int) (a1 : (Option Addr)) (a2 : (Option Addr)) (K : Bool → World → Prop) (w : World) : Prop :=
  NC a1 fun p1 =>
  ∃ x2 : (Option Addr), w.drew.cell? p1 = some (.pointer x2) ∧
  NC x2 fun p3 =>
  ∃ x4 : SlV, w.drew.cell? p3 = some (.slice x4.base x4.len x4.cap) ∧
  NC x4.base fun p5 =>
  ((0 : Int) ≤ a0 ∧ (a0 : Int) < (x4.len : Nat)) ∧
  ∃ x6 : Int, w.drew.cell? ((p5.add (Int.toNat a0 * 2)).add 1) = some (.int .u64 x6) ∧
  NC a2 fun p7 =>
  ∃ x8 : Int, w.drew.cell? p7 = some (.int .u64 x8) ∧
  K (decide ((x6 : Int) > x8)) w.drew

def F.gosem_cut_vars (E : Env)  (K : World → Prop) (w : World) : Prop :=
  stCells (Addr.mk E.g_math_bits_deBruijn64tab 0 none) 0 [.int .u8 0, .int .u8 1, .int .u8 56, .int .u8 2, .int .u8 57, .int .u8 49, .int .u8 28, .int .u8 3, .int .u8 61, .int .u8 58, .int .u8 42, .int .u8 50, .int .u8 38, .int .u8 29, .int .u8 17, .int .u8 4, .int .u8 62, .int .u8 47, .int .u8 59, .int .u8 36, .int .u8 45, .int .u8 43, .int .u8 51, .int .u8 22, .int .u8 53, .int .u8 39, .int .u8 33, .int .u8 30, .int .u8 24, .int .u8 18, .int .u8 12, .int .u8 5, .int .u8 63, .int .u8 55, .int .u8 48, .int .u8 27, .int .u8 60, .int .u8 41, .int .u8 37, .int .u8 16, .int .u8 46, .int .u8 35, .int .u8 44, .int .u8 21, .int .u8 52, .int .u8 32, .int .u8 23, .int .u8 11, .int .u8 54, .int .u8 26, .int .u8 40, .int .u8 15, .int .u8 34, .int .u8 20, .int .u8 31, .int .u8 10, .int .u8 25, .int .u8 14, .int .u8 19, .int .u8 9, .int .u8 13, .int .u8 8, .int .u8 7, .int .u8 6] w fun w1 =>
  K  w1

end Go.Sh
