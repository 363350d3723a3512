/- The shallow forms of the functions, printed by a program. No further condition. -/
import Derived.Test.YtgpepagjkejimaaPlSh
set_option linter.all false
set_option maxRecDepth 100000
namespace Go.Sh

structure Env where
  call : Calling
  t_map_uint64_api_Sum : Nat
  t_radix_Tree : Nat
  t__stretch_Set : Nat
  t_uint64 : Nat
  t_stretch_One : Nat
  t_api_Sum : Nat
  t_mallowref8_Chunk : Nat
  t_mallowref9_Part : Nat
  t_mallowref6_Row : Nat
  t_mallowlaw9_Act : Nat
  t_mallowref9_Tree : Nat
  f_stretch_Set_at_1 : Nat

def F.radix_Tree_changed (E : Env) (a0 : (Option Addr)) (K : World → Prop) (w : World) : Prop :=
  NC a0 fun p1 =>
  stCells (p1.add 8) 0 [.slice none 0 0] w fun w2 =>
  LOOP (Int × Unit) (0, ()) w2 fun s3 _ w4 next5 =>
    CND (decide ((s3.1 : Int) < 4)) (
      NC a0 fun p6 =>
      ∃ x7 : SlV, w4.cell? (p6.add 8) = some (.slice x7.base x7.len x7.cap) ∧
      AL (.map #[] 0) w4 fun b8 w9 =>
      AL (.cells ⟨[.map (some b8)]⟩ E.t_map_uint64_api_Sum) w9 fun b10 w11 =>
      APP E.t_map_uint64_api_Sum 1 8 #[.map none] x7 ⟨(some (Addr.mk b10 0 none)), 1, 1⟩ w11 fun s12 w13 =>
      NC a0 fun p14 =>
      stCells (p14.add 8) 0 [.slice s12.base s12.len s12.cap] w13 fun w15 =>
      next5 (i64 (s3.1 + 1), ()) w15
    ) (
      K  w4
    )

def F.radix_New (E : Env)  (K : (Option Addr) → World → Prop) (w : World) : Prop :=
  AL (.cells #[.slice none 0 0, .int .u64 0, .slice none 0 0, .int .u64 0, .slice none 0 0, .int .u64 0, .slice none 0 0, .int .u64 0, .slice none 0 0] E.t_radix_Tree) w fun b1 w2 =>
  F.radix_Tree_changed E (some (Addr.mk b1 0 none)) (fun  w3 =>
  K (some (Addr.mk b1 0 none)) w3
  ) w2

def F.sort_Search (E : Env) (a0 : Int) (a1 : Value) (K : Int → World → Prop) (w : World) : Prop :=
  LOOP (Int × Int × Unit) (0, a0, ()) w fun s1 _ w2 next3 =>
    CND (decide ((s1.1 : Int) < s1.2.1)) (
      (0 : Int) ≤ 1 ∧
      LET (i64 (Int.fdiv (u64 (i64 (s1.1 + s1.2.1))) (2 ^ (min (Int.toNat 1) (IntKind.bits .u64)))) : Int) fun h_4 =>
      DYN E.call a1 #[.int .i64 h_4] w2 fun r5 w6 =>
      ∃ x7 : Bool, r5 = .bool x7 ∧
      CND (!x7) (
        next3 (i64 (h_4 + 1), s1.2.1, ()) w6
      ) (
        next3 (s1.1, h_4, ()) w6
      )
    ) (
      K s1.1 w2
    )

def F.stretch_Set_at (E : Env) (a0 : (Option Addr)) (a1 : Int) (K : Int → World → Prop) (w : World) : Prop :=
  AL (.cells #[.pointer a0] E.t__stretch_Set) w fun b1 w2 =>
  AL (.cells #[.int .u64 a1] E.t_uint64) w2 fun b3 w4 =>
  ∃ x5 : (Option Addr), w4.cell? (Addr.mk b1 0 none) = some (.pointer x5) ∧
  NC x5 fun p6 =>
  ∃ x7 : SlV, w4.cell? p6 = some (.slice x7.base x7.len x7.cap) ∧
  F.sort_Search E ((x7.len : Nat) : Int) (.func (.func E.f_stretch_Set_at_1) #[] #[.pointer (some (Addr.mk b1 0 none)), .pointer (some (Addr.mk b3 0 none))]) (fun r8 w9 =>
  K r8 w9
  ) w4

def F.stretch_Set_Count (E : Env) (a0 : (Option Addr)) (a1 : Int) (a2 : Int) (K : Int → World → Prop) (w : World) : Prop :=
  F.stretch_Set_at E a0 a1 (fun r1 w2 =>
  LOOP (Int × Int × Unit) (0, r1, ()) w2 fun s3 _ w4 next5 =>
    NC a0 fun p6 =>
    ∃ x7 : SlV, w4.cell? p6 = some (.slice x7.base x7.len x7.cap) ∧
    CND (decide ((s3.2.1 : Int) < ((x7.len : Nat) : Int))) (
      NC a0 fun p8 =>
      ∃ x9 : SlV, w4.cell? p8 = some (.slice x9.base x9.len x9.cap) ∧
      NC x9.base fun p10 =>
      ((0 : Int) ≤ s3.2.1 ∧ (s3.2.1 : Int) < (x9.len : Nat)) ∧
      ∃ x11 : Int, w4.cell? (p10.add (Int.toNat s3.2.1 * 2)) = some (.int .u64 x11) ∧
      CND (decide ((x11 : Int) < a2)) (
        NC a0 fun p12 =>
        ∃ x13 : SlV, w4.drew.cell? p12 = some (.slice x13.base x13.len x13.cap) ∧
        NC x13.base fun p14 =>
        ((0 : Int) ≤ s3.2.1 ∧ (s3.2.1 : Int) < (x13.len : Nat)) ∧
        ∃ x15 : Int, w4.drew.cell? ((p14.add (Int.toNat s3.2.1 * 2)).add 1) = some (.int .u64 x15) ∧
        NC a0 fun p16 =>
        ∃ x17 : SlV, w4.drew.cell? p16 = some (.slice x17.base x17.len x17.cap) ∧
        NC x17.base fun p18 =>
        ((0 : Int) ≤ s3.2.1 ∧ (s3.2.1 : Int) < (x17.len : Nat)) ∧
        ∃ x19 : Int, w4.drew.cell? (p18.add (Int.toNat s3.2.1 * 2)) = some (.int .u64 x19) ∧
        LET (u64 (s3.1 + (u64 ((minI x15 a2) - (maxI x19 a1)))) : Int) fun n_20 =>
        next5 (n_20, i64 (s3.2.1 + 1), ()) w4.drew
      ) (
        K s3.1 w4
      )
    ) (
      K s3.1 w4
    )
  ) w

def F.stretch_Set_Cut (E : Env) (a0 : (Option Addr)) (a1 : Int) (a2 : Int) (K : World → Prop) (w : World) : Prop :=
  CND (decide ((a1 : Int) ≥ a2)) (
    K  w
  ) (
    NC a0 fun p1 =>
    ∃ x2 : Int, w.drew.cell? (p1.add 1) = some (.int .u64 x2) ∧
    F.stretch_Set_Count E a0 a1 a2 (fun r3 w4 =>
    w4.cell? (p1.add 1) = some (.int .u64 x2) ∧
    NC a0 fun p5 =>
    stCells (p5.add 1) 0 [.int .u64 (u64 (x2 - r3))] w4 fun w6 =>
    F.stretch_Set_at E a0 a1 (fun r7 w8 =>
    JOIN (Int × SlV × Unit) (fun J9 =>
      LOOP (Int × SlV × Unit) (r7, ⟨none, 0, 0⟩, ()) w8 fun s12 _ w13 next14 =>
        NC a0 fun p15 =>
        ∃ x16 : SlV, w13.cell? p15 = some (.slice x16.base x16.len x16.cap) ∧
        CND (decide ((s12.1 : Int) < ((x16.len : Nat) : Int))) (
          NC a0 fun p17 =>
          ∃ x18 : SlV, w13.cell? p17 = some (.slice x18.base x18.len x18.cap) ∧
          NC x18.base fun p19 =>
          ((0 : Int) ≤ s12.1 ∧ (s12.1 : Int) < (x18.len : Nat)) ∧
          ∃ x20 : Int, w13.cell? (p19.add (Int.toNat s12.1 * 2)) = some (.int .u64 x20) ∧
          CND (decide ((x20 : Int) < a2)) (
            NC a0 fun p21 =>
            ∃ x22 : SlV, w13.cell? p21 = some (.slice x22.base x22.len x22.cap) ∧
            NC x22.base fun p23 =>
            ((0 : Int) ≤ s12.1 ∧ (s12.1 : Int) < (x22.len : Nat)) ∧
            ∃ c24 : Int, w13.cell? ((p23.add (Int.toNat s12.1 * 2)).add 0) = some (.int .u64 c24) ∧
            ∃ c25 : Int, w13.cell? ((p23.add (Int.toNat s12.1 * 2)).add 1) = some (.int .u64 c25) ∧
            AL (.cells #[.int .u64 0, .int .u64 0] E.t_stretch_One) w13 fun b26 w27 =>
            stCells (Addr.mk b26 0 none) 0 [.int .u64 c24, .int .u64 c25] w27 fun w28 =>
            JOIN (SlV × Unit) (fun J29 =>
              ∃ x32 : Int, w28.cell? (Addr.mk b26 0 none) = some (.int .u64 x32) ∧
              CND (decide ((x32 : Int) < a1)) (
                ∃ x33 : Int, w28.cell? (Addr.mk b26 0 none) = some (.int .u64 x33) ∧
                AL (.cells ⟨[.int .u64 x33, .int .u64 a1]⟩ E.t_stretch_One) w28 fun b34 w35 =>
                APP E.t_stretch_One 2 16 #[.int .u64 0, .int .u64 0] s12.2.1 ⟨(some (Addr.mk b34 0 none)), 1, 1⟩ w35 fun s36 w37 =>
                J29 (s36, ()) w37
              ) (
                J29 (s12.2.1, ()) w28
              )
            ) fun s30 _ w31 =>
              ∃ x38 : Int, w31.cell? ((Addr.mk b26 0 none).add 1) = some (.int .u64 x38) ∧
              CND (decide ((x38 : Int) > a2)) (
                ∃ x39 : Int, w31.cell? ((Addr.mk b26 0 none).add 1) = some (.int .u64 x39) ∧
                AL (.cells ⟨[.int .u64 a2, .int .u64 x39]⟩ E.t_stretch_One) w31 fun b40 w41 =>
                APP E.t_stretch_One 2 16 #[.int .u64 0, .int .u64 0] s30.1 ⟨(some (Addr.mk b40 0 none)), 1, 1⟩ w41 fun s42 w43 =>
                next14 (i64 (s12.1 + 1), s42, ()) w43
              ) (
                next14 (i64 (s12.1 + 1), s30.1, ()) w31
              )
          ) (
            J9 (s12.1, s12.2.1, ()) w13
          )
        ) (
          J9 (s12.1, s12.2.1, ()) w13
        )
    ) fun s10 _ w11 =>
      NC a0 fun p44 =>
      ∃ x45 : SlV, w11.drew.cell? p44 = some (.slice x45.base x45.len x45.cap) ∧
      ((0 : Int) ≤ r7 ∧ (r7 : Int) ≤ (x45.cap : Nat)) ∧
      NC a0 fun p46 =>
      ∃ x47 : SlV, w11.drew.cell? p46 = some (.slice x47.base x47.len x47.cap) ∧
      ((0 : Int) ≤ s10.1 ∧ (s10.1 : Int) ≤ (x47.len : Nat)) ∧
      AL (.cells ⟨[]⟩ E.t_stretch_One) w11.drew fun b48 w49 =>
      w49.cell? p46 = some (.slice x47.base x47.len x47.cap) ∧
      w49.cell? p44 = some (.slice x45.base x45.len x45.cap) ∧
      APP E.t_stretch_One 2 16 #[.int .u64 0, .int .u64 0] ⟨(some (Addr.mk b48 0 none)), 0, 0⟩ ⟨(slB x45.base x45.cap 0 2), (Int.toNat r7), x45.cap⟩ w49 fun s50 w51 =>
      w51.cell? p46 = some (.slice x47.base x47.len x47.cap) ∧
      w51.cell? p44 = some (.slice x45.base x45.len x45.cap) ∧
      APP E.t_stretch_One 2 16 #[.int .u64 0, .int .u64 0] s50 s10.2.1 w51 fun s52 w53 =>
      w53.cell? p46 = some (.slice x47.base x47.len x47.cap) ∧
      w53.cell? p44 = some (.slice x45.base x45.len x45.cap) ∧
      APP E.t_stretch_One 2 16 #[.int .u64 0, .int .u64 0] s52 ⟨(slB x47.base x47.cap (Int.toNat s10.1) 2), (x47.len - (Int.toNat s10.1)), (x47.cap - (Int.toNat s10.1))⟩ w53 fun s54 w55 =>
      w55.cell? p46 = some (.slice x47.base x47.len x47.cap) ∧
      w55.cell? p44 = some (.slice x45.base x45.len x45.cap) ∧
      NC a0 fun p56 =>
      stCells p56 0 [.slice s54.base s54.len s54.cap] w55 fun w57 =>
      K  w57
    ) w6
    ) w.drew
  )

def F.stretch_Set_Add (E : Env) (a0 : (Option Addr)) (a1 : Int) (a2 : Int) (K : World → Prop) (w : World) : Prop :=
  CND (decide ((a1 : Int) ≥ a2)) (
    K  w
  ) (
    F.stretch_Set_Cut E a0 a1 a2 (fun  w1 =>
    NC a0 fun p2 =>
    ∃ x3 : Int, w1.cell? (p2.add 1) = some (.int .u64 x3) ∧
    NC a0 fun p4 =>
    stCells (p4.add 1) 0 [.int .u64 (u64 (x3 + (u64 (a2 - a1))))] w1 fun w5 =>
    F.stretch_Set_at E a0 a1 (fun r6 w7 =>
    AL (.cells #[.int .u64 0, .int .u64 0] E.t_stretch_One) w7 fun b8 w9 =>
    stCells (Addr.mk b8 0 none) 0 [.int .u64 a1, .int .u64 a2] w9 fun w10 =>
    JOIN (Int × Unit) (fun J11 =>
      JOIN (Bool × Unit) (fun J14 =>
        NC a0 fun p17 =>
        ∃ x18 : SlV, w10.cell? p17 = some (.slice x18.base x18.len x18.cap) ∧
        CND (decide ((r6 : Int) < ((x18.len : Nat) : Int))) (
          NC a0 fun p19 =>
          ∃ x20 : SlV, w10.cell? p19 = some (.slice x20.base x20.len x20.cap) ∧
          NC x20.base fun p21 =>
          ((0 : Int) ≤ r6 ∧ (r6 : Int) < (x20.len : Nat)) ∧
          ∃ x22 : Int, w10.cell? (p21.add (Int.toNat r6 * 2)) = some (.int .u64 x22) ∧
          J14 ((x22 : Int) == a2, ()) w10
        ) (
          J14 (false, ()) w10
        )
      ) fun s15 _ w16 =>
        CND (s15.1) (
          NC a0 fun p23 =>
          ∃ x24 : SlV, w16.cell? p23 = some (.slice x24.base x24.len x24.cap) ∧
          NC x24.base fun p25 =>
          ((0 : Int) ≤ r6 ∧ (r6 : Int) < (x24.len : Nat)) ∧
          ∃ x26 : Int, w16.cell? ((p25.add (Int.toNat r6 * 2)).add 1) = some (.int .u64 x26) ∧
          stCells ((Addr.mk b8 0 none).add 1) 0 [.int .u64 x26] w16 fun w27 =>
          J11 (i64 (r6 + 1), ()) w27
        ) (
          J11 (r6, ()) w16
        )
    ) fun s12 _ w13 =>
      JOIN (Int × Unit) (fun J28 =>
        JOIN (Bool × Unit) (fun J31 =>
          CND (decide ((r6 : Int) > 0)) (
            NC a0 fun p34 =>
            ∃ x35 : SlV, w13.cell? p34 = some (.slice x35.base x35.len x35.cap) ∧
            NC x35.base fun p36 =>
            ((0 : Int) ≤ (i64 (r6 - 1)) ∧ ((i64 (r6 - 1)) : Int) < (x35.len : Nat)) ∧
            ∃ x37 : Int, w13.cell? ((p36.add (Int.toNat (i64 (r6 - 1)) * 2)).add 1) = some (.int .u64 x37) ∧
            J31 ((x37 : Int) == a1, ()) w13
          ) (
            J31 (false, ()) w13
          )
        ) fun s32 _ w33 =>
          CND (s32.1) (
            NC a0 fun p38 =>
            ∃ x39 : SlV, w33.cell? p38 = some (.slice x39.base x39.len x39.cap) ∧
            NC x39.base fun p40 =>
            ((0 : Int) ≤ (i64 (r6 - 1)) ∧ ((i64 (r6 - 1)) : Int) < (x39.len : Nat)) ∧
            ∃ x41 : Int, w33.cell? (p40.add (Int.toNat (i64 (r6 - 1)) * 2)) = some (.int .u64 x41) ∧
            stCells (Addr.mk b8 0 none) 0 [.int .u64 x41] w33 fun w42 =>
            J28 (i64 (r6 - 1), ()) w42
          ) (
            J28 (r6, ()) w33
          )
      ) fun s29 _ w30 =>
        NC a0 fun p43 =>
        ∃ x44 : SlV, w30.drew.cell? p43 = some (.slice x44.base x44.len x44.cap) ∧
        ((0 : Int) ≤ s29.1 ∧ (s29.1 : Int) ≤ (x44.cap : Nat)) ∧
        ∃ c45 : Int, w30.drew.cell? ((Addr.mk b8 0 none).add 0) = some (.int .u64 c45) ∧
        ∃ c46 : Int, w30.drew.cell? ((Addr.mk b8 0 none).add 1) = some (.int .u64 c46) ∧
        NC a0 fun p47 =>
        ∃ x48 : SlV, w30.drew.cell? p47 = some (.slice x48.base x48.len x48.cap) ∧
        ((0 : Int) ≤ s12.1 ∧ (s12.1 : Int) ≤ (x48.len : Nat)) ∧
        (
          AL (.cells ⟨[]⟩ E.t_stretch_One) w30.drew fun b49 w50 =>
          w50.cell? p47 = some (.slice x48.base x48.len x48.cap) ∧
          (w50.cell? ((Addr.mk b8 0 none).add 0) = some (.int .u64 c45) ∧ (w50.cell? ((Addr.mk b8 0 none).add 1) = some (.int .u64 c46) ∧ True)) ∧
          w50.cell? p43 = some (.slice x44.base x44.len x44.cap) ∧
          (
            APP E.t_stretch_One 2 16 #[.int .u64 0, .int .u64 0] ⟨(some (Addr.mk b49 0 none)), 0, 0⟩ ⟨(slB x44.base x44.cap 0 2), (Int.toNat s29.1), x44.cap⟩ w50 fun s51 w52 =>
            w52.cell? p47 = some (.slice x48.base x48.len x48.cap) ∧
            (w52.cell? ((Addr.mk b8 0 none).add 0) = some (.int .u64 c45) ∧ (w52.cell? ((Addr.mk b8 0 none).add 1) = some (.int .u64 c46) ∧ True)) ∧
            w52.cell? p43 = some (.slice x44.base x44.len x44.cap) ∧
            AL (.cells ⟨[.int .u64 c45, .int .u64 c46]⟩ E.t_stretch_One) w52 fun b53 w54 =>
            w54.cell? p47 = some (.slice x48.base x48.len x48.cap) ∧
            w54.cell? p43 = some (.slice x44.base x44.len x44.cap) ∧
            APP E.t_stretch_One 2 16 #[.int .u64 0, .int .u64 0] s51 ⟨(some (Addr.mk b53 0 none)), 1, 1⟩ w54 fun s55 w56 =>
            w56.cell? p47 = some (.slice x48.base x48.len x48.cap) ∧
            w56.cell? p43 = some (.slice x44.base x44.len x44.cap) ∧
            APP E.t_stretch_One 2 16 #[.int .u64 0, .int .u64 0] s55 ⟨(slB x48.base x48.cap (Int.toNat s12.1) 2), (x48.len - (Int.toNat s12.1)), (x48.cap - (Int.toNat s12.1))⟩ w56 fun s57 w58 =>
            w58.cell? p47 = some (.slice x48.base x48.len x48.cap) ∧
            w58.cell? p43 = some (.slice x44.base x44.len x44.cap) ∧
            NC a0 fun p59 =>
            stCells p59 0 [.slice s57.base s57.len s57.cap] w58 fun w60 =>
            K  w60

          ) ∧ (
            AL (.cells ⟨[.int .u64 c45, .int .u64 c46]⟩ E.t_stretch_One) w50 fun b61 w62 =>
            w62.cell? p47 = some (.slice x48.base x48.len x48.cap) ∧
            w62.cell? p43 = some (.slice x44.base x44.len x44.cap) ∧
            APP E.t_stretch_One 2 16 #[.int .u64 0, .int .u64 0] ⟨(some (Addr.mk b49 0 none)), 0, 0⟩ ⟨(slB x44.base x44.cap 0 2), (Int.toNat s29.1), x44.cap⟩ w62 fun s63 w64 =>
            w64.cell? p47 = some (.slice x48.base x48.len x48.cap) ∧
            w64.cell? p43 = some (.slice x44.base x44.len x44.cap) ∧
            APP E.t_stretch_One 2 16 #[.int .u64 0, .int .u64 0] s63 ⟨(some (Addr.mk b61 0 none)), 1, 1⟩ w64 fun s65 w66 =>
            w66.cell? p47 = some (.slice x48.base x48.len x48.cap) ∧
            w66.cell? p43 = some (.slice x44.base x44.len x44.cap) ∧
            APP E.t_stretch_One 2 16 #[.int .u64 0, .int .u64 0] s65 ⟨(slB x48.base x48.cap (Int.toNat s12.1) 2), (x48.len - (Int.toNat s12.1)), (x48.cap - (Int.toNat s12.1))⟩ w66 fun s67 w68 =>
            w68.cell? p47 = some (.slice x48.base x48.len x48.cap) ∧
            w68.cell? p43 = some (.slice x44.base x44.len x44.cap) ∧
            NC a0 fun p69 =>
            stCells p69 0 [.slice s67.base s67.len s67.cap] w68 fun w70 =>
            K  w70
          )

        ) ∧ (
          AL (.cells ⟨[.int .u64 c45, .int .u64 c46]⟩ E.t_stretch_One) w30.drew fun b71 w72 =>
          w72.cell? p47 = some (.slice x48.base x48.len x48.cap) ∧
          w72.cell? p43 = some (.slice x44.base x44.len x44.cap) ∧
          AL (.cells ⟨[]⟩ E.t_stretch_One) w72 fun b73 w74 =>
          w74.cell? p47 = some (.slice x48.base x48.len x48.cap) ∧
          w74.cell? p43 = some (.slice x44.base x44.len x44.cap) ∧
          APP E.t_stretch_One 2 16 #[.int .u64 0, .int .u64 0] ⟨(some (Addr.mk b73 0 none)), 0, 0⟩ ⟨(slB x44.base x44.cap 0 2), (Int.toNat s29.1), x44.cap⟩ w74 fun s75 w76 =>
          w76.cell? p47 = some (.slice x48.base x48.len x48.cap) ∧
          w76.cell? p43 = some (.slice x44.base x44.len x44.cap) ∧
          APP E.t_stretch_One 2 16 #[.int .u64 0, .int .u64 0] s75 ⟨(some (Addr.mk b71 0 none)), 1, 1⟩ w76 fun s77 w78 =>
          w78.cell? p47 = some (.slice x48.base x48.len x48.cap) ∧
          w78.cell? p43 = some (.slice x44.base x44.len x44.cap) ∧
          APP E.t_stretch_One 2 16 #[.int .u64 0, .int .u64 0] s77 ⟨(slB x48.base x48.cap (Int.toNat s12.1) 2), (x48.len - (Int.toNat s12.1)), (x48.cap - (Int.toNat s12.1))⟩ w78 fun s79 w80 =>
          w80.cell? p47 = some (.slice x48.base x48.len x48.cap) ∧
          w80.cell? p43 = some (.slice x44.base x44.len x44.cap) ∧
          NC a0 fun p81 =>
          stCells p81 0 [.slice s79.base s79.len s79.cap] w80 fun w82 =>
          K  w82
        )
    ) w5
    ) w
  )

def F.radix_Tree_Grow (E : Env) (a0 : (Option Addr)) (a1 : Int) (a2 : Int) (K : Int → World → Prop) (w : World) : Prop :=
  JOIN (Bool × Unit) (fun J1 =>
    CND ((a2 : Int) == 0) (
      J1 (true, ()) w
    ) (
      CND (decide ((a2 : Int) > 262144)) (
        J1 (true, ()) w
      ) (
        CND (decide ((a1 : Int) > 67108864)) (
          J1 (true, ()) w
        ) (
          J1 (decide ((a2 : Int) > (u64 (67108864 - a1))), ()) w
        )
      )
    )
  ) fun s2 _ w3 =>
    CND (s2.1) (
      K 1 w3
    ) (
      LET (u64 ((u64 (a1 + a2)) * 512) : Int) fun to_4 =>
      NC a0 fun p5 =>
      F.stretch_Set_Count E (some p5) (u64 (a1 * 512)) to_4 (fun r6 w7 =>
      CND (decide ((r6 : Int) > 0)) (
        K 34 w7
      ) (
        NC a0 fun p8 =>
        F.stretch_Set_Add E (some p8) (u64 (a1 * 512)) to_4 (fun  w9 =>
        NC a0 fun p10 =>
        F.stretch_Set_Add E (some (p10.add 2)) (u64 (a1 * 512)) to_4 (fun  w11 =>
        NC a0 fun p12 =>
        F.stretch_Set_Add E (some (p12.add 4)) (u64 (a1 * 512)) to_4 (fun  w13 =>
        F.radix_Tree_changed E a0 (fun  w14 =>
        K 0 w14
        ) w13
        ) w11
        ) w9
        ) w7
      )
      ) w3
    )

def F.stretch_Set_All (E : Env) (a0 : (Option Addr)) (K : SlV → World → Prop) (w : World) : Prop :=
  NC a0 fun p1 =>
  ∃ x2 : SlV, w.cell? p1 = some (.slice x2.base x2.len x2.cap) ∧
  K x2 w

def F.radix_Tree_Find (E : Env) (a0 : (Option Addr)) (a1 : Int) (K : Int → Bool → World → Prop) (w : World) : Prop :=
  CND ((a1 : Int) == 0) (
    K 0 false w
  ) (
    NC a0 fun p1 =>
    F.stretch_Set_All E (some (p1.add 2)) (fun r2 w3 =>
    LOOP (Int × Unit) (0, ()) w3 fun s4 _ w5 next6 =>
      CND (decide ((s4.1 : Int) < ((r2.len : Nat) : Int))) (
        NC r2.base fun p7 =>
        ((0 : Int) ≤ s4.1 ∧ (s4.1 : Int) < (r2.len : Nat)) ∧
        ∃ c8 : Int, w5.cell? ((p7.add (Int.toNat s4.1 * 2)).add 0) = some (.int .u64 c8) ∧
        ∃ c9 : Int, w5.cell? ((p7.add (Int.toNat s4.1 * 2)).add 1) = some (.int .u64 c9) ∧
        AL (.cells #[.int .u64 0, .int .u64 0] E.t_stretch_One) w5 fun b10 w11 =>
        stCells (Addr.mk b10 0 none) 0 [.int .u64 c8, .int .u64 c9] w11 fun w12 =>
        ∃ x13 : Int, w12.cell? ((Addr.mk b10 0 none).add 1) = some (.int .u64 x13) ∧
        ∃ x14 : Int, w12.cell? (Addr.mk b10 0 none) = some (.int .u64 x14) ∧
        CND (decide (((u64 (x13 - x14)) : Int) ≥ a1)) (
          ∃ x15 : Int, w12.cell? (Addr.mk b10 0 none) = some (.int .u64 x15) ∧
          K x15 true w12
        ) (
          next6 (i64 (s4.1 + 1), ()) w12
        )
      ) (
        K 0 false w5
      )
    ) w
  )

def F.radix_Tree_looked (E : Env) (a0 : (Option Addr)) (a1 : Int) (a2 : Int) (a3 : Bool) (a4 : Int) (K : Int → World → Prop) (w : World) : Prop :=
  JOIN (Int × Unit) (fun J1 =>
    CND (a3) (
      J1 (a2, ()) w
    ) (
      J1 (0, ()) w
    )
  ) fun s2 _ w3 =>
    JOIN (Bool × Unit) (fun J4 =>
      CND ((a2 : Int) == 0) (
        J4 (true, ()) w3
      ) (
        CND (decide ((a1 : Int) ≥ 34359738368)) (
          J4 (true, ()) w3
        ) (
          CND (decide ((a2 : Int) > (u64 (34359738368 - a1)))) (
            J4 (true, ()) w3
          ) (
            NC a0 fun p7 =>
            F.stretch_Set_Count E (some p7) a1 (u64 (a1 + a2)) (fun r8 w9 =>
            J4 ((r8 : Int) != a2, ()) w9
            ) w3
          )
        )
      )
    ) fun s5 _ w6 =>
      CND (s5.1) (
        K 10 w6
      ) (
        NC a0 fun p10 =>
        F.stretch_Set_Count E (some (p10.add 2)) a1 (u64 (a1 + a2)) (fun r11 w12 =>
        CND ((r11 : Int) != s2.1) (
          K a4 w12
        ) (
          K 0 w12
        )
        ) w6
      )

def F.radix_Tree_Take (E : Env) (a0 : (Option Addr)) (a1 : Int) (a2 : Int) (K : Int → Int → World → Prop) (w : World) : Prop :=
  F.radix_Tree_looked E a0 a1 a2 true 32 (fun r1 w2 =>
  CND ((r1 : Int) != 0) (
    K 0 r1 w2
  ) (
    NC a0 fun p3 =>
    F.stretch_Set_Count E (some (p3.add 4)) a1 (u64 (a1 + a2)) (fun r4 w5 =>
    NC a0 fun p6 =>
    F.stretch_Set_Cut E (some (p6.add 2)) a1 (u64 (a1 + a2)) (fun  w7 =>
    NC a0 fun p8 =>
    F.stretch_Set_Cut E (some (p8.add 4)) a1 (u64 (a1 + a2)) (fun  w9 =>
    NC a0 fun p10 =>
    F.stretch_Set_Cut E (some (p10.add 6)) a1 (u64 (a1 + a2)) (fun  w11 =>
    F.radix_Tree_changed E a0 (fun  w12 =>
    K r4 0 w12
    ) w11
    ) w9
    ) w7
    ) w5
    ) w2
  )
  ) w

def F.radix_Tree_Alloc (E : Env) (a0 : (Option Addr)) (a1 : Int) (K : Int → Int → Int → World → Prop) (w : World) : Prop :=
  CND ((a1 : Int) == 0) (
    K 0 0 1 w
  ) (
    F.radix_Tree_Find E a0 a1 (fun r1 r2 w3 =>
    CND (!r2) (
      K 0 0 30 w3
    ) (
      F.radix_Tree_Take E a0 r1 a1 (fun r4 r5 w6 =>
      K r1 r4 r5 w6
      ) w3
    )
    ) w
  )

def F.radix_pages (E : Env) (a0 : Int) (K : Int → World → Prop) (w : World) : Prop :=
  LOOP (Int × Int × Unit) (512, 0, ()) w fun s1 _ w2 next3 =>
    CND (decide ((s1.2.1 : Int) < (i64 (3 - a0)))) (
      next3 (u64 (s1.1 * 8), i64 (s1.2.1 + 1), ()) w2
    ) (
      K s1.1 w2
    )

def F.stretch_Set_Within (E : Env) (a0 : (Option Addr)) (a1 : Int) (a2 : Int) (K : SlV → World → Prop) (w : World) : Prop :=
  F.stretch_Set_at E a0 a1 (fun r1 w2 =>
  LOOP (SlV × Int × Unit) (⟨none, 0, 0⟩, r1, ()) w2 fun s3 _ w4 next5 =>
    NC a0 fun p6 =>
    ∃ x7 : SlV, w4.cell? p6 = some (.slice x7.base x7.len x7.cap) ∧
    CND (decide ((s3.2.1 : Int) < ((x7.len : Nat) : Int))) (
      NC a0 fun p8 =>
      ∃ x9 : SlV, w4.cell? p8 = some (.slice x9.base x9.len x9.cap) ∧
      NC x9.base fun p10 =>
      ((0 : Int) ≤ s3.2.1 ∧ (s3.2.1 : Int) < (x9.len : Nat)) ∧
      ∃ x11 : Int, w4.cell? (p10.add (Int.toNat s3.2.1 * 2)) = some (.int .u64 x11) ∧
      CND (decide ((x11 : Int) < a2)) (
        NC a0 fun p12 =>
        ∃ x13 : SlV, w4.drew.cell? p12 = some (.slice x13.base x13.len x13.cap) ∧
        NC x13.base fun p14 =>
        ((0 : Int) ≤ s3.2.1 ∧ (s3.2.1 : Int) < (x13.len : Nat)) ∧
        ∃ x15 : Int, w4.drew.cell? (p14.add (Int.toNat s3.2.1 * 2)) = some (.int .u64 x15) ∧
        NC a0 fun p16 =>
        ∃ x17 : SlV, w4.drew.cell? p16 = some (.slice x17.base x17.len x17.cap) ∧
        NC x17.base fun p18 =>
        ((0 : Int) ≤ s3.2.1 ∧ (s3.2.1 : Int) < (x17.len : Nat)) ∧
        ∃ x19 : Int, w4.drew.cell? ((p18.add (Int.toNat s3.2.1 * 2)).add 1) = some (.int .u64 x19) ∧
        AL (.cells ⟨[.int .u64 (maxI x15 a1), .int .u64 (minI x19 a2)]⟩ E.t_stretch_One) w4.drew fun b20 w21 =>
        w21.cell? ((p18.add (Int.toNat s3.2.1 * 2)).add 1) = some (.int .u64 x19) ∧
        w21.cell? p16 = some (.slice x17.base x17.len x17.cap) ∧
        w21.cell? (p14.add (Int.toNat s3.2.1 * 2)) = some (.int .u64 x15) ∧
        w21.cell? p12 = some (.slice x13.base x13.len x13.cap) ∧
        APP E.t_stretch_One 2 16 #[.int .u64 0, .int .u64 0] s3.1 ⟨(some (Addr.mk b20 0 none)), 1, 1⟩ w21 fun s22 w23 =>
        w23.cell? ((p18.add (Int.toNat s3.2.1 * 2)).add 1) = some (.int .u64 x19) ∧
        w23.cell? p16 = some (.slice x17.base x17.len x17.cap) ∧
        w23.cell? (p14.add (Int.toNat s3.2.1 * 2)) = some (.int .u64 x15) ∧
        w23.cell? p12 = some (.slice x13.base x13.len x13.cap) ∧
        next5 (s22, i64 (s3.2.1 + 1), ()) w23
      ) (
        K s3.1 w4
      )
    ) (
      K s3.1 w4
    )
  ) w

def F.radix_Tree_Sum (E : Env) (a0 : (Option Addr)) (a1 : Int) (a2 : Int) (K : Int → Int → Int → Int → World → Prop) (w : World) : Prop :=
  AL (.cells #[.int .i64 0, .int .i64 0, .int .i64 0] E.t_api_Sum) w fun b1 w2 =>
  JOIN (Bool × Unit) (fun J3 =>
    CND (decide ((a1 : Int) < 0)) (
      J3 (true, ()) w2
    ) (
      CND (decide ((a1 : Int) ≥ 4)) (
        J3 (true, ()) w2
      ) (
        F.radix_pages E a1 (fun r6 w7 =>
        r6 ≠ (0 : Int) ∧
        J3 (decide ((a2 : Int) ≥ (u64 (Int.tdiv 34359738368 r6))), ()) w7
        ) w2
      )
    )
  ) fun s4 _ w5 =>
    CND (s4.1) (
      stCells (Addr.mk b1 0 none) 0 [.int .i64 0, .int .i64 0, .int .i64 0] w5 fun w8 =>
      ∃ c9 : Int, w8.cell? ((Addr.mk b1 0 none).add 0) = some (.int .i64 c9) ∧
      ∃ c10 : Int, w8.cell? ((Addr.mk b1 0 none).add 1) = some (.int .i64 c10) ∧
      ∃ c11 : Int, w8.cell? ((Addr.mk b1 0 none).add 2) = some (.int .i64 c11) ∧
      K c9 c10 c11 1 w8
    ) (
      NC a0 fun p12 =>
      ∃ x13 : SlV, w5.cell? (p12.add 8) = some (.slice x13.base x13.len x13.cap) ∧
      NC x13.base fun p14 =>
      ((0 : Int) ≤ a1 ∧ (a1 : Int) < (x13.len : Nat)) ∧
      ∃ x15 : (Option Nat), w5.cell? (p14.add (Int.toNat a1 * 1)) = some (.map x15) ∧
      LKP .u64 a2 x15 w5 (.agg ⟨[.int .i64 0, .int .i64 0, .int .i64 0]⟩) fun v16 ok17 es18 =>
      ∃ x19 : (Int × Int × Int × Unit), v16 = .agg ⟨[.int .i64 x19.1, .int .i64 x19.2.1, .int .i64 x19.2.2.1]⟩ ∧
      AL (.cells #[.int .i64 0, .int .i64 0, .int .i64 0] E.t_api_Sum) w5 fun b20 w21 =>
      stCells (Addr.mk b20 0 none) 0 [.int .i64 x19.1, .int .i64 x19.2.1, .int .i64 x19.2.2.1] w21 fun w22 =>
      CND (ok17) (
        ∃ c23 : Int, w22.cell? ((Addr.mk b20 0 none).add 0) = some (.int .i64 c23) ∧
        ∃ c24 : Int, w22.cell? ((Addr.mk b20 0 none).add 1) = some (.int .i64 c24) ∧
        ∃ c25 : Int, w22.cell? ((Addr.mk b20 0 none).add 2) = some (.int .i64 c25) ∧
        stCells (Addr.mk b1 0 none) 0 [.int .i64 c23, .int .i64 c24, .int .i64 c25] w22 fun w26 =>
        ∃ c27 : Int, w26.cell? ((Addr.mk b1 0 none).add 0) = some (.int .i64 c27) ∧
        ∃ c28 : Int, w26.cell? ((Addr.mk b1 0 none).add 1) = some (.int .i64 c28) ∧
        ∃ c29 : Int, w26.cell? ((Addr.mk b1 0 none).add 2) = some (.int .i64 c29) ∧
        K c27 c28 c29 0 w26
      ) (
        AL (.cells #[.int .i64 0, .int .i64 0, .int .i64 0] E.t_api_Sum) w22 fun b30 w31 =>
        F.radix_pages E a1 (fun r32 w33 =>
        F.radix_pages E a1 (fun r34 w35 =>
        LET (u64 ((u64 (a2 * r32)) + r34) : Int) fun to_36 =>
        NC a0 fun p37 =>
        F.stretch_Set_Within E (some (p37.add 2)) (u64 (a2 * r32)) to_36 (fun r38 w39 =>
        LOOP (Int × Unit) (0, ()) w39 fun s40 _ w41 next42 =>
          CND (decide ((s40.1 : Int) < ((r38.len : Nat) : Int))) (
            NC r38.base fun p43 =>
            ((0 : Int) ≤ s40.1 ∧ (s40.1 : Int) < (r38.len : Nat)) ∧
            ∃ c44 : Int, w41.cell? ((p43.add (Int.toNat s40.1 * 2)).add 0) = some (.int .u64 c44) ∧
            ∃ c45 : Int, w41.cell? ((p43.add (Int.toNat s40.1 * 2)).add 1) = some (.int .u64 c45) ∧
            AL (.cells #[.int .u64 0, .int .u64 0] E.t_stretch_One) w41 fun b46 w47 =>
            stCells (Addr.mk b46 0 none) 0 [.int .u64 c44, .int .u64 c45] w47 fun w48 =>
            ∃ x49 : Int, w48.cell? ((Addr.mk b46 0 none).add 1) = some (.int .u64 x49) ∧
            ∃ x50 : Int, w48.cell? (Addr.mk b46 0 none) = some (.int .u64 x50) ∧
            ∃ x51 : Int, w48.cell? ((Addr.mk b30 0 none).add 1) = some (.int .i64 x51) ∧
            stCells ((Addr.mk b30 0 none).add 1) 0 [.int .i64 (maxI x51 (i64 (u64 (x49 - x50))))] w48 fun w52 =>
            JOIN (Unit) (fun J53 =>
              ∃ x56 : Int, w52.cell? (Addr.mk b46 0 none) = some (.int .u64 x56) ∧
              CND ((x56 : Int) == (u64 (a2 * r32))) (
                stCells (Addr.mk b30 0 none) 0 [.int .i64 (i64 (u64 (x49 - x50)))] w52 fun w57 =>
                J53 (()) w57
              ) (
                J53 (()) w52
              )
            ) fun s54 _ w55 =>
              ∃ x58 : Int, w55.cell? ((Addr.mk b46 0 none).add 1) = some (.int .u64 x58) ∧
              CND ((x58 : Int) != to_36) (
                next42 (i64 (s40.1 + 1), ()) w55
              ) (
                stCells ((Addr.mk b30 0 none).add 2) 0 [.int .i64 (i64 (u64 (x49 - x50)))] w55 fun w59 =>
                next42 (i64 (s40.1 + 1), ()) w59
              )
          ) (
            NC a0 fun p60 =>
            ∃ x61 : SlV, w41.drew.cell? (p60.add 8) = some (.slice x61.base x61.len x61.cap) ∧
            NC x61.base fun p62 =>
            ((0 : Int) ≤ a1 ∧ (a1 : Int) < (x61.len : Nat)) ∧
            ∃ x63 : (Option Nat), w41.drew.cell? (p62.add (Int.toNat a1 * 1)) = some (.map x63) ∧
            ∃ c64 : Int, w41.drew.cell? ((Addr.mk b30 0 none).add 0) = some (.int .i64 c64) ∧
            ∃ c65 : Int, w41.drew.cell? ((Addr.mk b30 0 none).add 1) = some (.int .i64 c65) ∧
            ∃ c66 : Int, w41.drew.cell? ((Addr.mk b30 0 none).add 2) = some (.int .i64 c66) ∧
            MUPD .u64 a2 (.agg ⟨[.int .i64 c64, .int .i64 c65, .int .i64 c66]⟩) x63 w41.drew fun w67 =>
            ∃ c68 : Int, w67.cell? ((Addr.mk b30 0 none).add 0) = some (.int .i64 c68) ∧
            ∃ c69 : Int, w67.cell? ((Addr.mk b30 0 none).add 1) = some (.int .i64 c69) ∧
            ∃ c70 : Int, w67.cell? ((Addr.mk b30 0 none).add 2) = some (.int .i64 c70) ∧
            stCells (Addr.mk b1 0 none) 0 [.int .i64 c68, .int .i64 c69, .int .i64 c70] w67 fun w71 =>
            ∃ c72 : Int, w71.cell? ((Addr.mk b1 0 none).add 0) = some (.int .i64 c72) ∧
            ∃ c73 : Int, w71.cell? ((Addr.mk b1 0 none).add 1) = some (.int .i64 c73) ∧
            ∃ c74 : Int, w71.cell? ((Addr.mk b1 0 none).add 2) = some (.int .i64 c74) ∧
            K c72 c73 c74 0 w71
          )
        ) w35
        ) w33
        ) w31
      )
    )

def F.pack_right (E : Env) (a0_0 : Int) (a0_1 : Int) (a0_2 : Int) (a1 : Int) (K : Bool → World → Prop) (w : World) : Prop :=
  AL (.cells #[.int .i64 a0_0, .int .i64 a0_1, .int .i64 a0_2] E.t_api_Sum) w fun b1 w2 =>
  ∃ c3 : Int, w2.cell? ((Addr.mk b1 0 none).add 0) = some (.int .i64 c3) ∧
  ∃ c4 : Int, w2.cell? ((Addr.mk b1 0 none).add 1) = some (.int .i64 c4) ∧
  ∃ c5 : Int, w2.cell? ((Addr.mk b1 0 none).add 2) = some (.int .i64 c5) ∧
  CND ((((c3 : Int) == a1) && (((c4 : Int) == a1) && (((c5 : Int) == a1) && true)))) (
    K true w2
  ) (
    ∃ x6 : Int, w2.cell? (Addr.mk b1 0 none) = some (.int .i64 x6) ∧
    CND (decide ((x6 : Int) ≥ 0)) (
      ∃ x7 : Int, w2.cell? ((Addr.mk b1 0 none).add 2) = some (.int .i64 x7) ∧
      CND (decide ((x7 : Int) ≥ 0)) (
        ∃ x8 : Int, w2.cell? ((Addr.mk b1 0 none).add 1) = some (.int .i64 x8) ∧
        CND (decide ((x8 : Int) < a1)) (
          ∃ x9 : Int, w2.cell? (Addr.mk b1 0 none) = some (.int .i64 x9) ∧
          ∃ x10 : Int, w2.cell? ((Addr.mk b1 0 none).add 1) = some (.int .i64 x10) ∧
          CND (decide ((x9 : Int) ≤ x10)) (
            ∃ x11 : Int, w2.cell? ((Addr.mk b1 0 none).add 2) = some (.int .i64 x11) ∧
            ∃ x12 : Int, w2.cell? ((Addr.mk b1 0 none).add 1) = some (.int .i64 x12) ∧
            CND (decide ((x11 : Int) ≤ x12)) (
              ∃ x13 : Int, w2.cell? (Addr.mk b1 0 none) = some (.int .i64 x13) ∧
              ∃ x14 : Int, w2.cell? ((Addr.mk b1 0 none).add 2) = some (.int .i64 x14) ∧
              K (decide (((i64 (x13 + x14)) : Int) < a1)) w2
            ) (
              K false w2
            )
          ) (
            K false w2
          )
        ) (
          K false w2
        )
      ) (
        K false w2
      )
    ) (
      K false w2
    )
  )

def F.pack_rights (E : Env) (a0 : SlV) (a1 : Int) (K : Bool → World → Prop) (w : World) : Prop :=
  JOIN (Bool × Unit) (fun J1 =>
    CND (decide ((a1 : Int) < 1)) (
      J1 (true, ()) w
    ) (
      CND (decide ((a1 : Int) > 2097152)) (
        J1 (true, ()) w
      ) (
        J1 (decide ((((a0.len : Nat) : Int) : Int) > 64), ()) w
      )
    )
  ) fun s2 _ w3 =>
    CND (s2.1) (
      K false w3
    ) (
      LOOP (Int × Unit) (0, ()) w3 fun s4 _ w5 next6 =>
        CND (decide ((s4.1 : Int) < ((a0.len : Nat) : Int))) (
          NC a0.base fun p7 =>
          ((0 : Int) ≤ s4.1 ∧ (s4.1 : Int) < (a0.len : Nat)) ∧
          ∃ c8 : Int, w5.cell? ((p7.add (Int.toNat s4.1 * 3)).add 0) = some (.int .i64 c8) ∧
          ∃ c9 : Int, w5.cell? ((p7.add (Int.toNat s4.1 * 3)).add 1) = some (.int .i64 c9) ∧
          ∃ c10 : Int, w5.cell? ((p7.add (Int.toNat s4.1 * 3)).add 2) = some (.int .i64 c10) ∧
          AL (.cells #[.int .i64 0, .int .i64 0, .int .i64 0] E.t_api_Sum) w5 fun b11 w12 =>
          stCells (Addr.mk b11 0 none) 0 [.int .i64 c8, .int .i64 c9, .int .i64 c10] w12 fun w13 =>
          ∃ c14 : Int, w13.cell? ((Addr.mk b11 0 none).add 0) = some (.int .i64 c14) ∧
          ∃ c15 : Int, w13.cell? ((Addr.mk b11 0 none).add 1) = some (.int .i64 c15) ∧
          ∃ c16 : Int, w13.cell? ((Addr.mk b11 0 none).add 2) = some (.int .i64 c16) ∧
          F.pack_right E c14 c15 c16 a1 (fun r17 w18 =>
          CND (!r17) (
            K false w18
          ) (
            next6 (i64 (s4.1 + 1), ()) w18
          )
          ) w13
        ) (
          K true w5
        )
    )

def F.pack_Merge (E : Env) (a0 : SlV) (a1 : Int) (K : Int → Int → Int → Int → World → Prop) (w : World) : Prop :=
  AL (.cells #[.int .i64 0, .int .i64 0, .int .i64 0] E.t_api_Sum) w fun b1 w2 =>
  F.pack_rights E a0 a1 (fun r3 w4 =>
  CND (!r3) (
    stCells (Addr.mk b1 0 none) 0 [.int .i64 0, .int .i64 0, .int .i64 0] w4 fun w5 =>
    ∃ c6 : Int, w5.cell? ((Addr.mk b1 0 none).add 0) = some (.int .i64 c6) ∧
    ∃ c7 : Int, w5.cell? ((Addr.mk b1 0 none).add 1) = some (.int .i64 c7) ∧
    ∃ c8 : Int, w5.cell? ((Addr.mk b1 0 none).add 2) = some (.int .i64 c8) ∧
    K c6 c7 c8 1 w5
  ) (
    AL (.cells #[.int .i64 0, .int .i64 0, .int .i64 0] E.t_api_Sum) w4 fun b9 w10 =>
    LOOP (Int × Unit) (0, ()) w10 fun s11 _ w12 next13 =>
      CND (decide ((s11.1 : Int) < ((a0.len : Nat) : Int))) (
        NC a0.base fun p14 =>
        ((0 : Int) ≤ s11.1 ∧ (s11.1 : Int) < (a0.len : Nat)) ∧
        ∃ c15 : Int, w12.cell? ((p14.add (Int.toNat s11.1 * 3)).add 0) = some (.int .i64 c15) ∧
        ∃ c16 : Int, w12.cell? ((p14.add (Int.toNat s11.1 * 3)).add 1) = some (.int .i64 c16) ∧
        ∃ c17 : Int, w12.cell? ((p14.add (Int.toNat s11.1 * 3)).add 2) = some (.int .i64 c17) ∧
        AL (.cells #[.int .i64 0, .int .i64 0, .int .i64 0] E.t_api_Sum) w12 fun b18 w19 =>
        stCells (Addr.mk b18 0 none) 0 [.int .i64 c15, .int .i64 c16, .int .i64 c17] w19 fun w20 =>
        JOIN (Unit) (fun J21 =>
          ∃ x24 : Int, w20.cell? (Addr.mk b9 0 none) = some (.int .i64 x24) ∧
          CND ((x24 : Int) == (i64 (s11.1 * a1))) (
            ∃ x25 : Int, w20.cell? (Addr.mk b9 0 none) = some (.int .i64 x25) ∧
            ∃ x26 : Int, w20.cell? (Addr.mk b18 0 none) = some (.int .i64 x26) ∧
            stCells (Addr.mk b9 0 none) 0 [.int .i64 (i64 (x25 + x26))] w20 fun w27 =>
            J21 (()) w27
          ) (
            J21 (()) w20
          )
        ) fun s22 _ w23 =>
          ∃ x28 : Int, w23.cell? ((Addr.mk b9 0 none).add 1) = some (.int .i64 x28) ∧
          ∃ x29 : Int, w23.cell? ((Addr.mk b18 0 none).add 1) = some (.int .i64 x29) ∧
          ∃ x30 : Int, w23.cell? ((Addr.mk b9 0 none).add 2) = some (.int .i64 x30) ∧
          ∃ x31 : Int, w23.cell? (Addr.mk b18 0 none) = some (.int .i64 x31) ∧
          stCells ((Addr.mk b9 0 none).add 1) 0 [.int .i64 (maxI (maxI x28 x29) (i64 (x30 + x31)))] w23 fun w32 =>
          ∃ x33 : Int, w32.cell? (Addr.mk b18 0 none) = some (.int .i64 x33) ∧
          CND ((x33 : Int) == a1) (
            ∃ x34 : Int, w32.cell? ((Addr.mk b9 0 none).add 2) = some (.int .i64 x34) ∧
            stCells ((Addr.mk b9 0 none).add 2) 0 [.int .i64 (i64 (x34 + a1))] w32 fun w35 =>
            next13 (i64 (s11.1 + 1), ()) w35
          ) (
            ∃ x36 : Int, w32.cell? ((Addr.mk b18 0 none).add 2) = some (.int .i64 x36) ∧
            stCells ((Addr.mk b9 0 none).add 2) 0 [.int .i64 x36] w32 fun w37 =>
            next13 (i64 (s11.1 + 1), ()) w37
          )
      ) (
        ∃ c38 : Int, w12.cell? ((Addr.mk b9 0 none).add 0) = some (.int .i64 c38) ∧
        ∃ c39 : Int, w12.cell? ((Addr.mk b9 0 none).add 1) = some (.int .i64 c39) ∧
        ∃ c40 : Int, w12.cell? ((Addr.mk b9 0 none).add 2) = some (.int .i64 c40) ∧
        stCells (Addr.mk b1 0 none) 0 [.int .i64 c38, .int .i64 c39, .int .i64 c40] w12 fun w41 =>
        ∃ c42 : Int, w41.cell? ((Addr.mk b1 0 none).add 0) = some (.int .i64 c42) ∧
        ∃ c43 : Int, w41.cell? ((Addr.mk b1 0 none).add 1) = some (.int .i64 c43) ∧
        ∃ c44 : Int, w41.cell? ((Addr.mk b1 0 none).add 2) = some (.int .i64 c44) ∧
        K c42 c43 c44 0 w41
      )
  )
  ) w2

def F.stretch_Set_Sum (E : Env) (a0 : (Option Addr)) (K : Int → World → Prop) (w : World) : Prop :=
  NC a0 fun p1 =>
  ∃ x2 : Int, w.cell? (p1.add 1) = some (.int .u64 x2) ∧
  K x2 w

def F.radix_Tree_Free (E : Env) (a0 : (Option Addr)) (K : Int → World → Prop) (w : World) : Prop :=
  NC a0 fun p1 =>
  F.stretch_Set_Sum E (some (p1.add 2)) (fun r2 w3 =>
  K r2 w3
  ) w

def F.mallowlaw9_awake (E : Env)  (K : Bool → World → Prop) (w : World) : Prop :=
  F.radix_New E  (fun r1 w2 =>
  CND (r1.isNone) (
    K false w2
  ) (
    F.radix_Tree_Grow E r1 1 2 (fun r3 w4 =>
    F.radix_Tree_Alloc E r1 600 (fun r5 r6 r7 w8 =>
    F.radix_Tree_Find E r1 1 (fun r9 r10 w11 =>
    F.radix_Tree_Sum E r1 3 1 (fun r12 r13 r14 r15 w16 =>
    AL (.cells #[.int .i64 0, .int .i64 0, .int .i64 0] E.t_api_Sum) w16 fun b17 w18 =>
    stCells (Addr.mk b17 0 none) 0 [.int .i64 r12, .int .i64 r13, .int .i64 r14] w18 fun w19 =>
    CND ((r3 : Int) == 0) (
      CND ((r5 : Int) == 512) (
        CND ((r6 : Int) == 600) (
          CND ((r7 : Int) == 0) (
            CND ((r9 : Int) == 1112) (
              CND (r10) (
                ∃ c20 : Int, w19.cell? ((Addr.mk b17 0 none).add 0) = some (.int .i64 c20) ∧
                ∃ c21 : Int, w19.cell? ((Addr.mk b17 0 none).add 1) = some (.int .i64 c21) ∧
                ∃ c22 : Int, w19.cell? ((Addr.mk b17 0 none).add 2) = some (.int .i64 c22) ∧
                CND ((((c20 : Int) == 0) && (((c21 : Int) == 0) && (((c22 : Int) == 0) && true)))) (
                  CND ((r15 : Int) == 0) (
                    F.radix_Tree_Free E r1 (fun r23 w24 =>
                    K ((r23 : Int) == 424) w24
                    ) w19
                  ) (
                    K false w19
                  )
                ) (
                  K false w19
                )
              ) (
                K false w19
              )
            ) (
              K false w19
            )
          ) (
            K false w19
          )
        ) (
          K false w19
        )
      ) (
        K false w19
      )
    ) (
      K false w19
    )
    ) w11
    ) w8
    ) w4
    ) w2
  )
  ) w

def F.mallowlaw9_RadixMerges (E : Env) (a0 : SlV) (a1 : SlV) (a2 : Int) (K : Bool → World → Prop) (w : World) : Prop :=
  JOIN (Bool × Unit) (fun J1 =>
    CND (decide ((((a0.len : Nat) : Int) : Int) > 8)) (
      J1 (true, ()) w
    ) (
      CND (decide ((((a1.len : Nat) : Int) : Int) > 40)) (
        J1 (true, ()) w
      ) (
        CND (decide ((a2 : Int) < 0)) (
          J1 (true, ()) w
        ) (
          J1 (decide ((a2 : Int) > 2), ()) w
        )
      )
    )
  ) fun s2 _ w3 =>
    CND (s2.1) (
      K true w3
    ) (
      F.radix_New E  (fun r4 w5 =>
      CND (r4.isNone) (
        K false w5
      ) (
        LOOP (Int × Unit) (0, ()) w5 fun s6 _ w7 next8 =>
          CND (decide ((s6.1 : Int) < ((a0.len : Nat) : Int))) (
            NC a0.base fun p9 =>
            ((0 : Int) ≤ s6.1 ∧ (s6.1 : Int) < (a0.len : Nat)) ∧
            ∃ x10 : Int, w7.cell? (p9.add (Int.toNat s6.1 * 1)) = some (.int .u64 x10) ∧
            F.radix_Tree_Grow E r4 x10 2 (fun r11 w12 =>
            next8 (i64 (s6.1 + 1), ()) w12
            ) w7
          ) (
            LOOP (Int × Unit) (0, ()) w7 fun s13 _ w14 next15 =>
              CND (decide ((s13.1 : Int) < ((a1.len : Nat) : Int))) (
                JOIN (Bool × Unit) (fun J16 =>
                  NC a1.base fun p19 =>
                  ((0 : Int) ≤ s13.1 ∧ (s13.1 : Int) < (a1.len : Nat)) ∧
                  ∃ x20 : Int, w14.cell? (p19.add (Int.toNat s13.1 * 1)) = some (.int .u64 x20) ∧
                  CND (decide ((x20 : Int) < 1)) (
                    J16 (true, ()) w14
                  ) (
                    NC a1.base fun p21 =>
                    ((0 : Int) ≤ s13.1 ∧ (s13.1 : Int) < (a1.len : Nat)) ∧
                    ∃ x22 : Int, w14.cell? (p21.add (Int.toNat s13.1 * 1)) = some (.int .u64 x22) ∧
                    J16 (decide ((x22 : Int) > 2000), ()) w14
                  )
                ) fun s17 _ w18 =>
                  CND (s17.1) (
                    K true w18
                  ) (
                    NC a1.base fun p23 =>
                    ((0 : Int) ≤ s13.1 ∧ (s13.1 : Int) < (a1.len : Nat)) ∧
                    ∃ x24 : Int, w18.cell? (p23.add (Int.toNat s13.1 * 1)) = some (.int .u64 x24) ∧
                    F.radix_Tree_Alloc E r4 x24 (fun r25 r26 r27 w28 =>
                    next15 (i64 (s13.1 + 1), ()) w28
                    ) w18
                  )
              ) (
                LOOP (Int × Int × Unit) (512, 3, ()) w14 fun s29 _ w30 next31 =>
                  CND (decide ((s29.2.1 : Int) > (i64 (a2 + 1)))) (
                    next31 (i64 (s29.1 * 8), i64 (s29.2.1 - 1), ()) w30
                  ) (
                    LOOP (Int × Unit) (0, ()) w30 fun s32 _ w33 next34 =>
                      CND (decide ((s32.1 : Int) < ((a0.len : Nat) : Int))) (
                        NC a0.base fun p35 =>
                        ((0 : Int) ≤ s32.1 ∧ (s32.1 : Int) < (a0.len : Nat)) ∧
                        ∃ x36 : Int, w33.cell? (p35.add (Int.toNat s32.1 * 1)) = some (.int .u64 x36) ∧
                        CND (decide ((x36 : Int) ≥ 67108864)) (
                          next34 (i64 (s32.1 + 1), ()) w33
                        ) (
                          NC a0.base fun p37 =>
                          ((0 : Int) ≤ s32.1 ∧ (s32.1 : Int) < (a0.len : Nat)) ∧
                          ∃ x38 : Int, w33.cell? (p37.add (Int.toNat s32.1 * 1)) = some (.int .u64 x38) ∧
                          (0 : Int) ≤ (i64 (3 * (i64 (3 - a2)))) ∧
                          LET (Int.fdiv x38 (2 ^ (min (Int.toNat (i64 (3 * (i64 (3 - a2))))) (IntKind.bits .u64))) : Int) fun n_39 =>
                          F.radix_Tree_Sum E r4 a2 n_39 (fun r40 r41 r42 r43 w44 =>
                          AL (.cells #[.int .i64 0, .int .i64 0, .int .i64 0] E.t_api_Sum) w44 fun b45 w46 =>
                          stCells (Addr.mk b45 0 none) 0 [.int .i64 r40, .int .i64 r41, .int .i64 r42] w46 fun w47 =>
                          LOOP (SlV × Int × Unit) (⟨none, 0, 0⟩, 0, ()) w47 fun s48 _ w49 next50 =>
                            CND (decide ((s48.2.1 : Int) < 8)) (
                              F.radix_Tree_Sum E r4 (i64 (a2 + 1)) (u64 ((u64 (8 * n_39)) + s48.2.1)) (fun r51 r52 r53 r54 w55 =>
                              AL (.cells #[.int .i64 0, .int .i64 0, .int .i64 0] E.t_api_Sum) w55 fun b56 w57 =>
                              stCells (Addr.mk b56 0 none) 0 [.int .i64 r51, .int .i64 r52, .int .i64 r53] w57 fun w58 =>
                              CND ((r54 : Int) != 0) (
                                K false w58
                              ) (
                                ∃ c59 : Int, w58.cell? ((Addr.mk b56 0 none).add 0) = some (.int .i64 c59) ∧
                                ∃ c60 : Int, w58.cell? ((Addr.mk b56 0 none).add 1) = some (.int .i64 c60) ∧
                                ∃ c61 : Int, w58.cell? ((Addr.mk b56 0 none).add 2) = some (.int .i64 c61) ∧
                                AL (.cells ⟨[.int .i64 c59, .int .i64 c60, .int .i64 c61]⟩ E.t_api_Sum) w58 fun b62 w63 =>
                                APP E.t_api_Sum 3 24 #[.int .i64 0, .int .i64 0, .int .i64 0] s48.1 ⟨(some (Addr.mk b62 0 none)), 1, 1⟩ w63 fun s64 w65 =>
                                next50 (s64, u64 (s48.2.1 + 1), ()) w65
                              )
                              ) w49
                            ) (
                              F.pack_Merge E s48.1 s29.1 (fun r66 r67 r68 r69 w70 =>
                              AL (.cells #[.int .i64 0, .int .i64 0, .int .i64 0] E.t_api_Sum) w70 fun b71 w72 =>
                              stCells (Addr.mk b71 0 none) 0 [.int .i64 r66, .int .i64 r67, .int .i64 r68] w72 fun w73 =>
                              JOIN (Bool × Unit) (fun J74 =>
                                CND ((r43 : Int) != 0) (
                                  J74 (true, ()) w73
                                ) (
                                  CND ((r69 : Int) != 0) (
                                    J74 (true, ()) w73
                                  ) (
                                    ∃ c77 : Int, w73.cell? ((Addr.mk b45 0 none).add 0) = some (.int .i64 c77) ∧
                                    ∃ c78 : Int, w73.cell? ((Addr.mk b45 0 none).add 1) = some (.int .i64 c78) ∧
                                    ∃ c79 : Int, w73.cell? ((Addr.mk b45 0 none).add 2) = some (.int .i64 c79) ∧
                                    ∃ c80 : Int, w73.cell? ((Addr.mk b71 0 none).add 0) = some (.int .i64 c80) ∧
                                    ∃ c81 : Int, w73.cell? ((Addr.mk b71 0 none).add 1) = some (.int .i64 c81) ∧
                                    ∃ c82 : Int, w73.cell? ((Addr.mk b71 0 none).add 2) = some (.int .i64 c82) ∧
                                    J74 (!(((c77 : Int) == c80) && (((c78 : Int) == c81) && (((c79 : Int) == c82) && true))), ()) w73
                                  )
                                )
                              ) fun s75 _ w76 =>
                                CND (s75.1) (
                                  K false w76
                                ) (
                                  next34 (i64 (s32.1 + 1), ()) w76
                                )
                              ) w49
                            )
                          ) w33
                        )
                      ) (
                        F.mallowlaw9_awake E  (fun r83 w84 =>
                        K r83 w84
                        ) w33
                      )
                  )
              )
          )
      )
      ) w3
    )

def F.mallowlaw9_heavy (E : Env) (a0 : SlV) (K : Bool → World → Prop) (w : World) : Prop :=
  CND (decide ((((a0.len : Nat) : Int) : Int) > 150)) (
    K true w
  ) (
    LOOP (Int × Int × Unit) (0, 0, ()) w fun s1 _ w2 next3 =>
      CND (decide ((s1.2.1 : Int) < ((a0.len : Nat) : Int))) (
        JOIN (Int × Unit) (fun J4 =>
          JOIN (Bool × Unit) (fun J7 =>
            NC a0.base fun p10 =>
            ((0 : Int) ≤ s1.2.1 ∧ (s1.2.1 : Int) < (a0.len : Nat)) ∧
            ∃ x11 : Int, w2.cell? (p10.add (Int.toNat s1.2.1 * 3)) = some (.int .i64 x11) ∧
            CND ((x11 : Int) == 1) (
              NC a0.base fun p12 =>
              ((0 : Int) ≤ s1.2.1 ∧ (s1.2.1 : Int) < (a0.len : Nat)) ∧
              ∃ x13 : Int, w2.cell? ((p12.add (Int.toNat s1.2.1 * 3)).add 2) = some (.int .u64 x13) ∧
              J7 (decide ((x13 : Int) ≤ 262144), ()) w2
            ) (
              J7 (false, ()) w2
            )
          ) fun s8 _ w9 =>
            CND (s8.1) (
              NC a0.base fun p14 =>
              ((0 : Int) ≤ s1.2.1 ∧ (s1.2.1 : Int) < (a0.len : Nat)) ∧
              ∃ x15 : Int, w9.cell? ((p14.add (Int.toNat s1.2.1 * 3)).add 2) = some (.int .u64 x15) ∧
              CND (decide ((x15 : Int) > 40)) (
                K true w9
              ) (
                NC a0.base fun p16 =>
                ((0 : Int) ≤ s1.2.1 ∧ (s1.2.1 : Int) < (a0.len : Nat)) ∧
                ∃ x17 : Int, w9.cell? ((p16.add (Int.toNat s1.2.1 * 3)).add 2) = some (.int .u64 x17) ∧
                J4 (u64 (s1.1 + x17), ()) w9
              )
            ) (
              J4 (s1.1, ()) w9
            )
        ) fun s5 _ w6 =>
          CND (decide ((s5.1 : Int) > 40)) (
            K true w6
          ) (
            next3 (s5.1, i64 (s1.2.1 + 1), ()) w6
          )
      ) (
        K false w2
      )
  )

def F.mallowref9_Tree_find (E : Env) (a0 : (Option Addr)) (a1 : Int) (K : Int → Bool → World → Prop) (w : World) : Prop :=
  JOIN (Int × Unit) (fun J1 =>
    LOOP (Int × Unit) (0, ()) w fun s4 _ w5 next6 =>
      NC a0 fun p7 =>
      ∃ x8 : SlV, w5.cell? p7 = some (.slice x8.base x8.len x8.cap) ∧
      CND (decide ((s4.1 : Int) < ((x8.len : Nat) : Int))) (
        NC a0 fun p9 =>
        ∃ x10 : SlV, w5.cell? p9 = some (.slice x10.base x10.len x10.cap) ∧
        NC x10.base fun p11 =>
        ((0 : Int) ≤ s4.1 ∧ (s4.1 : Int) < (x10.len : Nat)) ∧
        ∃ x12 : Int, w5.cell? (p11.add (Int.toNat s4.1 * 2)) = some (.int .u64 x12) ∧
        CND (decide ((x12 : Int) < a1)) (
          next6 (i64 (s4.1 + 1), ()) w5
        ) (
          J1 (s4.1, ()) w5
        )
      ) (
        J1 (s4.1, ()) w5
      )
  ) fun s2 _ w3 =>
    NC a0 fun p13 =>
    ∃ x14 : SlV, w3.drew.cell? p13 = some (.slice x14.base x14.len x14.cap) ∧
    CND (decide ((s2.1 : Int) < ((x14.len : Nat) : Int))) (
      NC a0 fun p15 =>
      ∃ x16 : SlV, w3.drew.cell? p15 = some (.slice x16.base x16.len x16.cap) ∧
      NC x16.base fun p17 =>
      ((0 : Int) ≤ s2.1 ∧ (s2.1 : Int) < (x16.len : Nat)) ∧
      ∃ x18 : Int, w3.drew.cell? (p17.add (Int.toNat s2.1 * 2)) = some (.int .u64 x18) ∧
      K s2.1 ((x18 : Int) == a1) w3.drew
    ) (
      K s2.1 false w3.drew
    )

def F.mallowref6_Right (E : Env) (a0 : Int) (a1 : Int) (K : Bool → World → Prop) (w : World) : Prop :=
  CND (decide ((a0 : Int) ≥ 0)) (
    CND (decide ((a1 : Int) ≥ 0)) (
      CND (decide ((a0 : Int) ≤ 512)) (
        K (decide ((a1 : Int) ≤ (i64 (512 - a0)))) w
      ) (
        K false w
      )
    ) (
      K false w
    )
  ) (
    K false w
  )

def F.mallowref6_Row_Put (E : Env) (a0 : (Option Addr)) (a1 : Int) (a2 : Int) (a3 : Bool) (K : Int → World → Prop) (w : World) : Prop :=
  F.mallowref6_Right E a1 a2 (fun r1 w2 =>
  CND (!r1) (
    K 1 w2
  ) (
    LOOP (Int × Unit) (a1, ()) w2 fun s3 _ w4 next5 =>
      CND (decide ((s3.1 : Int) < (i64 (a1 + a2)))) (
        NC a0 fun p6 =>
        ((0 : Int) ≤ s3.1 ∧ (s3.1 : Int) < (512 : Nat)) ∧
        stCells (p6.add (Int.toNat s3.1 * 1)) 0 [.bool a3] w4 fun w7 =>
        next5 (i64 (s3.1 + 1), ()) w7
      ) (
        K 0 w4
      )
  )
  ) w

def F.mallowref8_New (E : Env)  (K : (Option Addr) → World → Prop) (w : World) : Prop :=
  AL (.cells (Array.replicate 1024 (.bool false)) E.t_mallowref8_Chunk) w fun b1 w2 =>
  F.mallowref6_Row_Put E (some ((Addr.mk b1 0 none).add 512)) 0 512 true (fun r3 w4 =>
  K (some (Addr.mk b1 0 none)) w4
  ) w2

def F.mallowref9_Tree_Grow (E : Env) (a0 : (Option Addr)) (a1 : Int) (a2 : Int) (K : Int → World → Prop) (w : World) : Prop :=
  JOIN (Bool × Unit) (fun J1 =>
    CND ((a2 : Int) == 0) (
      J1 (true, ()) w
    ) (
      CND (decide ((a2 : Int) > 262144)) (
        J1 (true, ()) w
      ) (
        CND (decide ((a1 : Int) > 67108864)) (
          J1 (true, ()) w
        ) (
          J1 (decide ((a2 : Int) > (u64 (67108864 - a1))), ()) w
        )
      )
    )
  ) fun s2 _ w3 =>
    CND (s2.1) (
      K 1 w3
    ) (
      F.mallowref9_Tree_find E a0 a1 (fun r4 r5 w6 =>
      JOIN (Bool × Unit) (fun J7 =>
        NC a0 fun p10 =>
        ∃ x11 : SlV, w6.cell? p10 = some (.slice x11.base x11.len x11.cap) ∧
        CND (decide ((r4 : Int) < ((x11.len : Nat) : Int))) (
          NC a0 fun p12 =>
          ∃ x13 : SlV, w6.cell? p12 = some (.slice x13.base x13.len x13.cap) ∧
          NC x13.base fun p14 =>
          ((0 : Int) ≤ r4 ∧ (r4 : Int) < (x13.len : Nat)) ∧
          ∃ x15 : Int, w6.cell? (p14.add (Int.toNat r4 * 2)) = some (.int .u64 x15) ∧
          J7 (decide ((x15 : Int) < (u64 (a1 + a2))), ()) w6
        ) (
          J7 (false, ()) w6
        )
      ) fun s8 _ w9 =>
        CND (s8.1) (
          K 34 w9
        ) (
          AL (.cells ⟨[]⟩ E.t_mallowref9_Part) w9 fun b16 w17 =>
          NC a0 fun p18 =>
          ∃ x19 : SlV, w17.cell? p18 = some (.slice x19.base x19.len x19.cap) ∧
          ((0 : Int) ≤ r4 ∧ (r4 : Int) ≤ (x19.cap : Nat)) ∧
          APP E.t_mallowref9_Part 2 16 #[.int .u64 0, .pointer none] ⟨(some (Addr.mk b16 0 none)), 0, 0⟩ ⟨(slB x19.base x19.cap 0 2), (Int.toNat r4), x19.cap⟩ w17 fun s20 w21 =>
          LOOP (SlV × Int × Unit) (s20, 0, ()) w21 fun s22 _ w23 next24 =>
            CND (decide ((s22.2.1 : Int) < a2)) (
              F.mallowref8_New E  (fun r25 w26 =>
              AL (.cells ⟨[.int .u64 (u64 (a1 + s22.2.1)), .pointer r25]⟩ E.t_mallowref9_Part) w26 fun b27 w28 =>
              APP E.t_mallowref9_Part 2 16 #[.int .u64 0, .pointer none] s22.1 ⟨(some (Addr.mk b27 0 none)), 1, 1⟩ w28 fun s29 w30 =>
              next24 (s29, u64 (s22.2.1 + 1), ()) w30
              ) w23
            ) (
              NC a0 fun p31 =>
              ∃ x32 : SlV, w23.cell? p31 = some (.slice x32.base x32.len x32.cap) ∧
              ((0 : Int) ≤ r4 ∧ (r4 : Int) ≤ (x32.len : Nat)) ∧
              APP E.t_mallowref9_Part 2 16 #[.int .u64 0, .pointer none] s22.1 ⟨(slB x32.base x32.cap (Int.toNat r4) 2), (x32.len - (Int.toNat r4)), (x32.cap - (Int.toNat r4))⟩ w23 fun s33 w34 =>
              NC a0 fun p35 =>
              stCells p35 0 [.slice s33.base s33.len s33.cap] w34 fun w36 =>
              K 0 w36
            )
        )
      ) w3
    )

def F.mallowref9_Tree_Find (E : Env) (a0 : (Option Addr)) (a1 : Int) (K : Int → Bool → World → Prop) (w : World) : Prop :=
  LOOP (Int × Int × Int × Unit) (0, 0, 0, ()) w fun s1 _ w2 next3 =>
    NC a0 fun p4 =>
    ∃ x5 : SlV, w2.cell? p4 = some (.slice x5.base x5.len x5.cap) ∧
    CND (decide ((s1.2.2.1 : Int) < ((x5.len : Nat) : Int))) (
      CND (decide ((a1 : Int) > 0)) (
        JOIN (Int × Unit) (fun J6 =>
          JOIN (Bool × Unit) (fun J9 =>
            CND (decide ((s1.2.2.1 : Int) > 0)) (
              NC a0 fun p12 =>
              ∃ x13 : SlV, w2.cell? p12 = some (.slice x13.base x13.len x13.cap) ∧
              NC x13.base fun p14 =>
              ((0 : Int) ≤ s1.2.2.1 ∧ (s1.2.2.1 : Int) < (x13.len : Nat)) ∧
              ∃ x15 : Int, w2.cell? (p14.add (Int.toNat s1.2.2.1 * 2)) = some (.int .u64 x15) ∧
              J9 ((x15 : Int) != (u64 (s1.2.1 + 1)), ()) w2
            ) (
              J9 (false, ()) w2
            )
          ) fun s10 _ w11 =>
            CND (s10.1) (
              J6 (0, ()) w11
            ) (
              J6 (s1.1, ()) w11
            )
        ) fun s7 _ w8 =>
          NC a0 fun p16 =>
          ∃ x17 : SlV, w8.cell? p16 = some (.slice x17.base x17.len x17.cap) ∧
          NC x17.base fun p18 =>
          ((0 : Int) ≤ s1.2.2.1 ∧ (s1.2.2.1 : Int) < (x17.len : Nat)) ∧
          ∃ x19 : Int, w8.cell? (p18.add (Int.toNat s1.2.2.1 * 2)) = some (.int .u64 x19) ∧
          LOOP (Int × Int × Unit) (s7.1, 0, ()) w8 fun s20 _ w21 next22 =>
            CND (decide ((s20.2.1 : Int) < 512)) (
              JOIN (Int × Unit) (fun J23 =>
                NC a0 fun p26 =>
                ∃ x27 : SlV, w21.cell? p26 = some (.slice x27.base x27.len x27.cap) ∧
                NC x27.base fun p28 =>
                ((0 : Int) ≤ s1.2.2.1 ∧ (s1.2.2.1 : Int) < (x27.len : Nat)) ∧
                ∃ x29 : (Option Addr), w21.cell? ((p28.add (Int.toNat s1.2.2.1 * 2)).add 1) = some (.pointer x29) ∧
                NC x29 fun p30 =>
                ((0 : Int) ≤ s20.2.1 ∧ (s20.2.1 : Int) < (512 : Nat)) ∧
                ∃ x31 : Bool, w21.cell? (p30.add (Int.toNat s20.2.1 * 1)) = some (.bool x31) ∧
                CND (x31) (
                  J23 (0, ()) w21
                ) (
                  J23 (u64 (s20.1 + 1), ()) w21
                )
              ) fun s24 _ w25 =>
                CND ((s24.1 : Int) == a1) (
                  NC a0 fun p32 =>
                  ∃ x33 : SlV, w25.cell? p32 = some (.slice x33.base x33.len x33.cap) ∧
                  NC x33.base fun p34 =>
                  ((0 : Int) ≤ s1.2.2.1 ∧ (s1.2.2.1 : Int) < (x33.len : Nat)) ∧
                  ∃ x35 : Int, w25.cell? (p34.add (Int.toNat s1.2.2.1 * 2)) = some (.int .u64 x35) ∧
                  LET (u64 ((u64 ((u64 ((u64 (x35 * 512)) + s20.2.1)) + 1)) - a1) : Int) fun t36 =>
                  K t36 true w25
                ) (
                  next22 (s24.1, u64 (s20.2.1 + 1), ()) w25
                )
            ) (
              next3 (s20.1, x19, i64 (s1.2.2.1 + 1), ()) w21
            )
      ) (
        K 0 false w2
      )
    ) (
      K 0 false w2
    )

def F.mallowref9_Tree_lies (E : Env) (a0 : (Option Addr)) (a1 : Int) (a2 : Int) (K : Bool → World → Prop) (w : World) : Prop :=
  JOIN (Bool × Unit) (fun J1 =>
    CND ((a2 : Int) == 0) (
      J1 (true, ()) w
    ) (
      CND (decide ((a1 : Int) ≥ 34359738368)) (
        J1 (true, ()) w
      ) (
        J1 (decide ((a2 : Int) > (u64 (34359738368 - a1))), ()) w
      )
    )
  ) fun s2 _ w3 =>
    CND (s2.1) (
      K false w3
    ) (
      512 ≠ (0 : Int) ∧
      F.mallowref9_Tree_find E a0 (u64 (Int.tdiv a1 512)) (fun r4 r5 w6 =>
      512 ≠ (0 : Int) ∧
      LOOP (Int × Int × Unit) (r4, u64 (Int.tdiv a1 512), ()) w6 fun s7 _ w8 next9 =>
        512 ≠ (0 : Int) ∧
        CND (decide ((s7.2.1 : Int) ≤ (u64 (Int.tdiv (u64 ((u64 (a1 + a2)) - 1)) 512)))) (
          JOIN (Bool × Unit) (fun J10 =>
            NC a0 fun p13 =>
            ∃ x14 : SlV, w8.cell? p13 = some (.slice x14.base x14.len x14.cap) ∧
            CND (decide ((s7.1 : Int) ≥ ((x14.len : Nat) : Int))) (
              J10 (true, ()) w8
            ) (
              NC a0 fun p15 =>
              ∃ x16 : SlV, w8.cell? p15 = some (.slice x16.base x16.len x16.cap) ∧
              NC x16.base fun p17 =>
              ((0 : Int) ≤ s7.1 ∧ (s7.1 : Int) < (x16.len : Nat)) ∧
              ∃ x18 : Int, w8.cell? (p17.add (Int.toNat s7.1 * 2)) = some (.int .u64 x18) ∧
              J10 ((x18 : Int) != s7.2.1, ()) w8
            )
          ) fun s11 _ w12 =>
            CND (s11.1) (
              K false w12
            ) (
              next9 (i64 (s7.1 + 1), u64 (s7.2.1 + 1), ()) w12
            )
        ) (
          K true w8
        )
      ) w3
    )

def F.mallowref9_Tree_State (E : Env) (a0 : (Option Addr)) (a1 : Int) (K : Bool → Bool → Bool → World → Prop) (w : World) : Prop :=
  512 ≠ (0 : Int) ∧
  F.mallowref9_Tree_find E a0 (u64 (Int.tdiv a1 512)) (fun r1 r2 w3 =>
  CND (!r2) (
    K false false false w3
  ) (
    NC a0 fun p4 =>
    ∃ x5 : SlV, w3.cell? p4 = some (.slice x5.base x5.len x5.cap) ∧
    NC x5.base fun p6 =>
    ((0 : Int) ≤ r1 ∧ (r1 : Int) < (x5.len : Nat)) ∧
    ∃ x7 : (Option Addr), w3.cell? ((p6.add (Int.toNat r1 * 2)).add 1) = some (.pointer x7) ∧
    512 ≠ (0 : Int) ∧
    NC x7 fun p8 =>
    ((0 : Int) ≤ (Int.tmod a1 512) ∧ ((Int.tmod a1 512) : Int) < (512 : Nat)) ∧
    ∃ x9 : Bool, w3.drew.cell? (p8.add (Int.toNat (Int.tmod a1 512) * 1)) = some (.bool x9) ∧
    512 ≠ (0 : Int) ∧
    NC x7 fun p10 =>
    ((0 : Int) ≤ (Int.tmod a1 512) ∧ ((Int.tmod a1 512) : Int) < (512 : Nat)) ∧
    ∃ x11 : Bool, w3.drew.cell? ((p10.add 512).add (Int.toNat (Int.tmod a1 512) * 1)) = some (.bool x11) ∧
    K true (!x9) x11 w3.drew
  )
  ) w

def F.mallowref9_Tree_count (E : Env) (a0 : (Option Addr)) (a1 : Int) (a2 : Int) (K : Int → Int → World → Prop) (w : World) : Prop :=
  LOOP (Int × Int × Int × Unit) (0, 0, a1, ()) w fun s1 _ w2 next3 =>
    CND (decide ((s1.2.2.1 : Int) < (u64 (a1 + a2)))) (
      F.mallowref9_Tree_State E a0 s1.2.2.1 (fun r4 r5 r6 w7 =>
      JOIN (Int × Unit) (fun J8 =>
        CND (!r5) (
          J8 (u64 (s1.1 + 1), ()) w7
        ) (
          J8 (s1.1, ()) w7
        )
      ) fun s9 _ w10 =>
        CND (r6) (
          next3 (s9.1, u64 (s1.2.1 + 1), u64 (s1.2.2.1 + 1), ()) w10
        ) (
          next3 (s9.1, s1.2.1, u64 (s1.2.2.1 + 1), ()) w10
        )
      ) w2
    ) (
      K s1.1 s1.2.1 w2
    )

def F.mallowref9_Tree_put (E : Env) (a0 : (Option Addr)) (a1 : Int) (a2 : Int) (a3 : Bool) (a4 : Bool) (K : World → Prop) (w : World) : Prop :=
  LOOP (Int × Unit) (a1, ()) w fun s1 _ w2 next3 =>
    CND (decide ((s1.1 : Int) < (u64 (a1 + a2)))) (
      512 ≠ (0 : Int) ∧
      F.mallowref9_Tree_find E a0 (u64 (Int.tdiv s1.1 512)) (fun r4 r5 w6 =>
      NC a0 fun p7 =>
      ∃ x8 : SlV, w6.cell? p7 = some (.slice x8.base x8.len x8.cap) ∧
      NC x8.base fun p9 =>
      ((0 : Int) ≤ r4 ∧ (r4 : Int) < (x8.len : Nat)) ∧
      ∃ x10 : (Option Addr), w6.cell? ((p9.add (Int.toNat r4 * 2)).add 1) = some (.pointer x10) ∧
      512 ≠ (0 : Int) ∧
      NC x10 fun p11 =>
      ((0 : Int) ≤ (Int.tmod s1.1 512) ∧ ((Int.tmod s1.1 512) : Int) < (512 : Nat)) ∧
      stCells (p11.add (Int.toNat (Int.tmod s1.1 512) * 1)) 0 [.bool a3] w6 fun w12 =>
      NC a0 fun p13 =>
      ∃ x14 : SlV, w12.cell? p13 = some (.slice x14.base x14.len x14.cap) ∧
      NC x14.base fun p15 =>
      ((0 : Int) ≤ r4 ∧ (r4 : Int) < (x14.len : Nat)) ∧
      ∃ x16 : (Option Addr), w12.cell? ((p15.add (Int.toNat r4 * 2)).add 1) = some (.pointer x16) ∧
      512 ≠ (0 : Int) ∧
      NC x16 fun p17 =>
      ((0 : Int) ≤ (Int.tmod s1.1 512) ∧ ((Int.tmod s1.1 512) : Int) < (512 : Nat)) ∧
      stCells ((p17.add 512).add (Int.toNat (Int.tmod s1.1 512) * 1)) 0 [.bool a4] w12 fun w18 =>
      next3 (u64 (s1.1 + 1), ()) w18
      ) w2
    ) (
      K  w2
    )

def F.mallowref9_Tree_Take (E : Env) (a0 : (Option Addr)) (a1 : Int) (a2 : Int) (K : Int → Int → World → Prop) (w : World) : Prop :=
  F.mallowref9_Tree_lies E a0 a1 a2 (fun r1 w2 =>
  CND (!r1) (
    K 0 10 w2
  ) (
    F.mallowref9_Tree_count E a0 a1 a2 (fun r3 r4 w5 =>
    CND (decide ((r3 : Int) > 0)) (
      K 0 32 w5
    ) (
      F.mallowref9_Tree_put E a0 a1 a2 true false (fun  w6 =>
      K r4 0 w6
      ) w5
    )
    ) w2
  )
  ) w

def F.mallowref9_Tree_Alloc (E : Env) (a0 : (Option Addr)) (a1 : Int) (K : Int → Int → Int → World → Prop) (w : World) : Prop :=
  CND ((a1 : Int) == 0) (
    K 0 0 1 w
  ) (
    F.mallowref9_Tree_Find E a0 a1 (fun r1 r2 w3 =>
    CND (!r2) (
      K 0 0 30 w3
    ) (
      F.mallowref9_Tree_Take E a0 r1 a1 (fun r4 r5 w6 =>
      K r1 r4 0 w6
      ) w3
    )
    ) w
  )

def F.radix_Tree_freed (E : Env) (a0 : (Option Addr)) (a1 : Int) (a2 : Int) (a3 : (Option Addr)) (K : Int → World → Prop) (w : World) : Prop :=
  F.radix_Tree_looked E a0 a1 a2 false 31 (fun r1 w2 =>
  CND ((r1 : Int) != 0) (
    K r1 w2
  ) (
    NC a0 fun p3 =>
    F.stretch_Set_Add E (some (p3.add 2)) a1 (u64 (a1 + a2)) (fun  w4 =>
    F.stretch_Set_Add E a3 a1 (u64 (a1 + a2)) (fun  w5 =>
    F.radix_Tree_changed E a0 (fun  w6 =>
    K 0 w6
    ) w5
    ) w4
    ) w2
  )
  ) w

def F.radix_Tree_Give (E : Env) (a0 : (Option Addr)) (a1 : Int) (a2 : Int) (K : Int → World → Prop) (w : World) : Prop :=
  NC a0 fun p1 =>
  F.radix_Tree_freed E a0 a1 a2 (some (p1.add 6)) (fun r2 w3 =>
  K r2 w3
  ) w

def F.mallowref9_Tree_Give (E : Env) (a0 : (Option Addr)) (a1 : Int) (a2 : Int) (a3 : Bool) (K : Int → World → Prop) (w : World) : Prop :=
  F.mallowref9_Tree_lies E a0 a1 a2 (fun r1 w2 =>
  CND (!r1) (
    K 10 w2
  ) (
    F.mallowref9_Tree_count E a0 a1 a2 (fun r3 r4 w5 =>
    CND (decide ((r3 : Int) < a2)) (
      K 31 w5
    ) (
      F.mallowref9_Tree_put E a0 a1 a2 false a3 (fun  w6 =>
      K 0 w6
      ) w5
    )
    ) w2
  )
  ) w

def F.radix_Tree_Back (E : Env) (a0 : (Option Addr)) (a1 : Int) (a2 : Int) (K : Int → World → Prop) (w : World) : Prop :=
  NC a0 fun p1 =>
  F.radix_Tree_freed E a0 a1 a2 (some (p1.add 4)) (fun r2 w3 =>
  K r2 w3
  ) w

def F.radix_Tree_Scavenge (E : Env) (a0 : (Option Addr)) (a1 : Int) (K : Int → Int → World → Prop) (w : World) : Prop :=
  NC a0 fun p1 =>
  F.stretch_Set_All E (some (p1.add 6)) (fun r2 w3 =>
  JOIN (Bool × Unit) (fun J4 =>
    CND ((((r2.len : Nat) : Int) : Int) == 0) (
      J4 (true, ()) w3
    ) (
      J4 ((a1 : Int) == 0, ()) w3
    )
  ) fun s5 _ w6 =>
    CND (s5.1) (
      K 0 0 w6
    ) (
      NC r2.base fun p7 =>
      ((0 : Int) ≤ (i64 (((r2.len : Nat) : Int) - 1)) ∧ ((i64 (((r2.len : Nat) : Int) - 1)) : Int) < (r2.len : Nat)) ∧
      ∃ c8 : Int, w6.cell? ((p7.add (Int.toNat (i64 (((r2.len : Nat) : Int) - 1)) * 2)).add 0) = some (.int .u64 c8) ∧
      ∃ c9 : Int, w6.cell? ((p7.add (Int.toNat (i64 (((r2.len : Nat) : Int) - 1)) * 2)).add 1) = some (.int .u64 c9) ∧
      AL (.cells #[.int .u64 0, .int .u64 0] E.t_stretch_One) w6 fun b10 w11 =>
      stCells (Addr.mk b10 0 none) 0 [.int .u64 c8, .int .u64 c9] w11 fun w12 =>
      ∃ x13 : Int, w12.cell? (Addr.mk b10 0 none) = some (.int .u64 x13) ∧
      ∃ x14 : Int, w12.cell? ((Addr.mk b10 0 none).add 1) = some (.int .u64 x14) ∧
      512 ≠ (0 : Int) ∧
      LET (maxI x13 (u64 ((u64 (Int.tdiv (u64 (x14 - 1)) 512)) * 512)) : Int) fun from_15 =>
      ∃ x16 : Int, w12.cell? ((Addr.mk b10 0 none).add 1) = some (.int .u64 x16) ∧
      LET (minI (u64 (x16 - from_15)) a1 : Int) fun n_17 =>
      ∃ x18 : Int, w12.cell? ((Addr.mk b10 0 none).add 1) = some (.int .u64 x18) ∧
      NC a0 fun p19 =>
      F.stretch_Set_Cut E (some (p19.add 6)) (u64 (x18 - n_17)) (u64 ((u64 (x18 - n_17)) + n_17)) (fun  w20 =>
      NC a0 fun p21 =>
      F.stretch_Set_Add E (some (p21.add 4)) (u64 (x18 - n_17)) (u64 ((u64 (x18 - n_17)) + n_17)) (fun  w22 =>
      K (u64 (x18 - n_17)) n_17 w22
      ) w20
      ) w12
    )
  ) w

def F.mallowref6_Row_Last (E : Env) (a0 : (Option Addr)) (a1 : Int) (a2 : Int) (K : Int → Int → World → Prop) (w : World) : Prop :=
  JOIN (Int × Unit) (fun J1 =>
    CND (decide ((a2 : Int) > 512)) (
      J1 (512, ()) w
    ) (
      J1 (a2, ()) w
    )
  ) fun s2 _ w3 =>
    JOIN (Bool × Unit) (fun J4 =>
      CND (decide ((s2.1 : Int) < 1)) (
        J4 (true, ()) w3
      ) (
        J4 (decide ((a1 : Int) < 1), ()) w3
      )
    ) fun s5 _ w6 =>
      CND (s5.1) (
        K 0 0 w6
      ) (
        JOIN (Int × Unit) (fun J7 =>
          LOOP (Int × Unit) (i64 (s2.1 - 1), ()) w6 fun s10 _ w11 next12 =>
            CND (decide ((s10.1 : Int) ≥ 0)) (
              NC a0 fun p13 =>
              ((0 : Int) ≤ s10.1 ∧ (s10.1 : Int) < (512 : Nat)) ∧
              ∃ x14 : Bool, w11.cell? (p13.add (Int.toNat s10.1 * 1)) = some (.bool x14) ∧
              CND (x14) (
                next12 (i64 (s10.1 - 1), ()) w11
              ) (
                J7 (s10.1, ()) w11
              )
            ) (
              J7 (s10.1, ()) w11
            )
        ) fun s8 _ w9 =>
          CND (decide ((s8.1 : Int) < 0)) (
            K 0 0 w9
          ) (
            LOOP (Int × Unit) (s8.1, ()) w9 fun s15 _ w16 next17 =>
              CND (decide ((s15.1 : Int) > 0)) (
                NC a0 fun p18 =>
                ((0 : Int) ≤ (i64 (s15.1 - 1)) ∧ ((i64 (s15.1 - 1)) : Int) < (512 : Nat)) ∧
                ∃ x19 : Bool, w16.cell? (p18.add (Int.toNat (i64 (s15.1 - 1)) * 1)) = some (.bool x19) ∧
                CND (!x19) (
                  CND (decide (((i64 ((i64 (s8.1 - s15.1)) + 1)) : Int) < a1)) (
                    next17 (i64 (s15.1 - 1), ()) w16
                  ) (
                    LET (i64 ((i64 (s8.1 - s15.1)) + 1) : Int) fun t20 =>
                    K s15.1 t20 w16
                  )
                ) (
                  LET (i64 ((i64 (s8.1 - s15.1)) + 1) : Int) fun t21 =>
                  K s15.1 t21 w16
                )
              ) (
                LET (i64 ((i64 (s8.1 - s15.1)) + 1) : Int) fun t22 =>
                K s15.1 t22 w16
              )
          )
      )

def F.mallowref8_Chunk_Scavenge (E : Env) (a0 : (Option Addr)) (a1 : Int) (K : Int → Int → World → Prop) (w : World) : Prop :=
  AL (.cells (Array.replicate 512 (.bool false)) E.t_mallowref6_Row) w fun b1 w2 =>
  LOOP (Int × Unit) (0, ()) w2 fun s3 _ w4 next5 =>
    CND (decide ((s3.1 : Int) < 512)) (
      NC a0 fun p6 =>
      ((0 : Int) ≤ s3.1 ∧ (s3.1 : Int) < (512 : Nat)) ∧
      ∃ x7 : Bool, w4.cell? (p6.add (Int.toNat s3.1 * 1)) = some (.bool x7) ∧
      CND (x7) (
        ((0 : Int) ≤ s3.1 ∧ (s3.1 : Int) < (512 : Nat)) ∧
        stCells ((Addr.mk b1 0 none).add (Int.toNat s3.1 * 1)) 0 [.bool true] w4 fun w8 =>
        next5 (i64 (s3.1 + 1), ()) w8
      ) (
        NC a0 fun p9 =>
        ((0 : Int) ≤ s3.1 ∧ (s3.1 : Int) < (512 : Nat)) ∧
        ∃ x10 : Bool, w4.cell? ((p9.add 512).add (Int.toNat s3.1 * 1)) = some (.bool x10) ∧
        ((0 : Int) ≤ s3.1 ∧ (s3.1 : Int) < (512 : Nat)) ∧
        stCells ((Addr.mk b1 0 none).add (Int.toNat s3.1 * 1)) 0 [.bool x10] w4 fun w11 =>
        next5 (i64 (s3.1 + 1), ()) w11
      )
    ) (
      F.mallowref6_Row_Last E (some (Addr.mk b1 0 none)) a1 512 (fun r12 r13 w14 =>
      NC a0 fun p15 =>
      F.mallowref6_Row_Put E (some (p15.add 512)) r12 r13 true (fun r16 w17 =>
      K r12 r13 w17
      ) w14
      ) w4
    )

def F.mallowref9_Tree_Scavenge (E : Env) (a0 : (Option Addr)) (a1 : Int) (K : Int → Int → World → Prop) (w : World) : Prop :=
  JOIN (Int × Unit) (fun J1 =>
    CND (decide ((a1 : Int) > 512)) (
      J1 (512, ()) w
    ) (
      J1 (a1, ()) w
    )
  ) fun s2 _ w3 =>
    NC a0 fun p4 =>
    ∃ x5 : SlV, w3.cell? p4 = some (.slice x5.base x5.len x5.cap) ∧
    LET (i64 (((x5.len : Nat) : Int) - 1) : Int) fun i_6 =>
    LOOP (Int × Unit) (i_6, ()) w3 fun s7 _ w8 next9 =>
      CND (decide ((s7.1 : Int) ≥ 0)) (
        NC a0 fun p10 =>
        ∃ x11 : SlV, w8.cell? p10 = some (.slice x11.base x11.len x11.cap) ∧
        NC x11.base fun p12 =>
        ((0 : Int) ≤ s7.1 ∧ (s7.1 : Int) < (x11.len : Nat)) ∧
        ∃ x13 : (Option Addr), w8.cell? ((p12.add (Int.toNat s7.1 * 2)).add 1) = some (.pointer x13) ∧
        F.mallowref8_Chunk_Scavenge E x13 (i64 (s2.1)) (fun r14 r15 w16 =>
        CND (decide ((r15 : Int) > 0)) (
          NC a0 fun p17 =>
          ∃ x18 : SlV, w16.cell? p17 = some (.slice x18.base x18.len x18.cap) ∧
          NC x18.base fun p19 =>
          ((0 : Int) ≤ s7.1 ∧ (s7.1 : Int) < (x18.len : Nat)) ∧
          ∃ x20 : Int, w16.cell? (p19.add (Int.toNat s7.1 * 2)) = some (.int .u64 x20) ∧
          LET (u64 ((u64 (x20 * 512)) + (u64 (r14))) : Int) fun t21 =>
          K t21 (u64 (r15)) w16
        ) (
          next9 (i64 (s7.1 - 1), ()) w16
        )
        ) w8
      ) (
        K 0 0 w8
      )

def F.mallowref6_Row_Sum (E : Env) (a0 : (Option Addr)) (K : Int → Int → Int → World → Prop) (w : World) : Prop :=
  AL (.cells #[.int .i64 0, .int .i64 0, .int .i64 0] E.t_api_Sum) w fun b1 w2 =>
  AL (.cells #[.int .i64 0, .int .i64 0, .int .i64 0] E.t_api_Sum) w2 fun b3 w4 =>
  JOIN (Unit) (fun J5 =>
    LOOP (Unit) (()) w4 fun s8 _ w9 next10 =>
      ∃ x11 : Int, w9.drew.cell? (Addr.mk b3 0 none) = some (.int .i64 x11) ∧
      CND (decide ((x11 : Int) < 512)) (
        ∃ x12 : Int, w9.drew.cell? (Addr.mk b3 0 none) = some (.int .i64 x12) ∧
        NC a0 fun p13 =>
        ((0 : Int) ≤ x12 ∧ (x12 : Int) < (512 : Nat)) ∧
        ∃ x14 : Bool, w9.drew.cell? (p13.add (Int.toNat x12 * 1)) = some (.bool x14) ∧
        CND (!x14) (
          ∃ x15 : Int, w9.drew.cell? (Addr.mk b3 0 none) = some (.int .i64 x15) ∧
          stCells (Addr.mk b3 0 none) 0 [.int .i64 (i64 (x15 + 1))] w9.drew fun w16 =>
          next10 (()) w16
        ) (
          J5 (()) w9.drew
        )
      ) (
        J5 (()) w9.drew
      )
  ) fun s6 _ w7 =>
    JOIN (Unit) (fun J17 =>
      LOOP (Unit) (()) w7 fun s20 _ w21 next22 =>
        ∃ x23 : Int, w21.drew.cell? ((Addr.mk b3 0 none).add 2) = some (.int .i64 x23) ∧
        CND (decide ((x23 : Int) < 512)) (
          ∃ x24 : Int, w21.drew.cell? ((Addr.mk b3 0 none).add 2) = some (.int .i64 x24) ∧
          NC a0 fun p25 =>
          ((0 : Int) ≤ (i64 (511 - x24)) ∧ ((i64 (511 - x24)) : Int) < (512 : Nat)) ∧
          ∃ x26 : Bool, w21.drew.cell? (p25.add (Int.toNat (i64 (511 - x24)) * 1)) = some (.bool x26) ∧
          CND (!x26) (
            ∃ x27 : Int, w21.drew.cell? ((Addr.mk b3 0 none).add 2) = some (.int .i64 x27) ∧
            stCells ((Addr.mk b3 0 none).add 2) 0 [.int .i64 (i64 (x27 + 1))] w21.drew fun w28 =>
            next22 (()) w28
          ) (
            J17 (()) w21.drew
          )
        ) (
          J17 (()) w21.drew
        )
    ) fun s18 _ w19 =>
      LOOP (Int × Int × Unit) (0, 0, ()) w19 fun s29 _ w30 next31 =>
        CND (decide ((s29.2.1 : Int) < 512)) (
          JOIN (Int × Unit) (fun J32 =>
            NC a0 fun p35 =>
            ((0 : Int) ≤ s29.2.1 ∧ (s29.2.1 : Int) < (512 : Nat)) ∧
            ∃ x36 : Bool, w30.cell? (p35.add (Int.toNat s29.2.1 * 1)) = some (.bool x36) ∧
            CND (x36) (
              J32 (0, ()) w30
            ) (
              J32 (i64 (s29.1 + 1), ()) w30
            )
          ) fun s33 _ w34 =>
            ∃ x37 : Int, w34.cell? ((Addr.mk b3 0 none).add 1) = some (.int .i64 x37) ∧
            CND (decide ((s33.1 : Int) > x37)) (
              stCells ((Addr.mk b3 0 none).add 1) 0 [.int .i64 s33.1] w34 fun w38 =>
              next31 (s33.1, i64 (s29.2.1 + 1), ()) w38
            ) (
              next31 (s33.1, i64 (s29.2.1 + 1), ()) w34
            )
        ) (
          ∃ c39 : Int, w30.cell? ((Addr.mk b3 0 none).add 0) = some (.int .i64 c39) ∧
          ∃ c40 : Int, w30.cell? ((Addr.mk b3 0 none).add 1) = some (.int .i64 c40) ∧
          ∃ c41 : Int, w30.cell? ((Addr.mk b3 0 none).add 2) = some (.int .i64 c41) ∧
          stCells (Addr.mk b1 0 none) 0 [.int .i64 c39, .int .i64 c40, .int .i64 c41] w30 fun w42 =>
          ∃ c43 : Int, w42.cell? ((Addr.mk b1 0 none).add 0) = some (.int .i64 c43) ∧
          ∃ c44 : Int, w42.cell? ((Addr.mk b1 0 none).add 1) = some (.int .i64 c44) ∧
          ∃ c45 : Int, w42.cell? ((Addr.mk b1 0 none).add 2) = some (.int .i64 c45) ∧
          K c43 c44 c45 w42
        )

def F.mallowref7_Right (E : Env) (a0_0 : Int) (a0_1 : Int) (a0_2 : Int) (a1 : Int) (K : Bool → World → Prop) (w : World) : Prop :=
  AL (.cells #[.int .i64 a0_0, .int .i64 a0_1, .int .i64 a0_2] E.t_api_Sum) w fun b1 w2 =>
  JOIN (Bool × Unit) (fun J3 =>
    ∃ x6 : Int, w2.cell? (Addr.mk b1 0 none) = some (.int .i64 x6) ∧
    CND (decide ((x6 : Int) < 0)) (
      J3 (true, ()) w2
    ) (
      ∃ x7 : Int, w2.cell? ((Addr.mk b1 0 none).add 1) = some (.int .i64 x7) ∧
      CND (decide ((x7 : Int) < 0)) (
        J3 (true, ()) w2
      ) (
        ∃ x8 : Int, w2.cell? ((Addr.mk b1 0 none).add 2) = some (.int .i64 x8) ∧
        CND (decide ((x8 : Int) < 0)) (
          J3 (true, ()) w2
        ) (
          ∃ x9 : Int, w2.cell? (Addr.mk b1 0 none) = some (.int .i64 x9) ∧
          ∃ x10 : Int, w2.cell? ((Addr.mk b1 0 none).add 1) = some (.int .i64 x10) ∧
          CND (decide ((x9 : Int) > x10)) (
            J3 (true, ()) w2
          ) (
            ∃ x11 : Int, w2.cell? ((Addr.mk b1 0 none).add 2) = some (.int .i64 x11) ∧
            ∃ x12 : Int, w2.cell? ((Addr.mk b1 0 none).add 1) = some (.int .i64 x12) ∧
            CND (decide ((x11 : Int) > x12)) (
              J3 (true, ()) w2
            ) (
              ∃ x13 : Int, w2.cell? ((Addr.mk b1 0 none).add 1) = some (.int .i64 x13) ∧
              J3 (decide ((x13 : Int) > a1), ()) w2
            )
          )
        )
      )
    )
  ) fun s4 _ w5 =>
    CND (s4.1) (
      K false w5
    ) (
      JOIN (Bool × Unit) (fun J14 =>
        ∃ x17 : Int, w5.cell? (Addr.mk b1 0 none) = some (.int .i64 x17) ∧
        CND ((x17 : Int) == a1) (
          J14 (true, ()) w5
        ) (
          ∃ x18 : Int, w5.cell? ((Addr.mk b1 0 none).add 1) = some (.int .i64 x18) ∧
          CND ((x18 : Int) == a1) (
            J14 (true, ()) w5
          ) (
            ∃ x19 : Int, w5.cell? ((Addr.mk b1 0 none).add 2) = some (.int .i64 x19) ∧
            CND ((x19 : Int) == a1) (
              J14 (true, ()) w5
            ) (
              ∃ x20 : Int, w5.cell? (Addr.mk b1 0 none) = some (.int .i64 x20) ∧
              ∃ x21 : Int, w5.cell? ((Addr.mk b1 0 none).add 2) = some (.int .i64 x21) ∧
              J14 (decide (((i64 (x20 + x21)) : Int) ≥ a1), ()) w5
            )
          )
        )
      ) fun s15 _ w16 =>
        CND (s15.1) (
          ∃ x22 : Int, w16.cell? (Addr.mk b1 0 none) = some (.int .i64 x22) ∧
          CND ((x22 : Int) == a1) (
            ∃ x23 : Int, w16.cell? ((Addr.mk b1 0 none).add 1) = some (.int .i64 x23) ∧
            CND ((x23 : Int) == a1) (
              ∃ x24 : Int, w16.cell? ((Addr.mk b1 0 none).add 2) = some (.int .i64 x24) ∧
              K ((x24 : Int) == a1) w16
            ) (
              K false w16
            )
          ) (
            K false w16
          )
        ) (
          K true w16
        )
    )

def F.mallowref7_right (E : Env) (a0 : SlV) (a1 : Int) (K : Bool → World → Prop) (w : World) : Prop :=
  JOIN (Bool × Unit) (fun J1 =>
    CND (decide ((a1 : Int) < 1)) (
      J1 (true, ()) w
    ) (
      CND (decide ((a1 : Int) > 2097152)) (
        J1 (true, ()) w
      ) (
        J1 (decide ((((a0.len : Nat) : Int) : Int) > 64), ()) w
      )
    )
  ) fun s2 _ w3 =>
    CND (s2.1) (
      K false w3
    ) (
      LOOP (Int × Unit) (0, ()) w3 fun s4 _ w5 next6 =>
        CND (decide ((s4.1 : Int) < ((a0.len : Nat) : Int))) (
          NC a0.base fun p7 =>
          ((0 : Int) ≤ s4.1 ∧ (s4.1 : Int) < (a0.len : Nat)) ∧
          ∃ c8 : Int, w5.cell? ((p7.add (Int.toNat s4.1 * 3)).add 0) = some (.int .i64 c8) ∧
          ∃ c9 : Int, w5.cell? ((p7.add (Int.toNat s4.1 * 3)).add 1) = some (.int .i64 c9) ∧
          ∃ c10 : Int, w5.cell? ((p7.add (Int.toNat s4.1 * 3)).add 2) = some (.int .i64 c10) ∧
          F.mallowref7_Right E c8 c9 c10 a1 (fun r11 w12 =>
          CND (!r11) (
            K false w12
          ) (
            next6 (i64 (s4.1 + 1), ()) w12
          )
          ) w5
        ) (
          K true w5
        )
    )

def F.mallowref7_Merge (E : Env) (a0 : SlV) (a1 : Int) (K : Int → Int → Int → Int → World → Prop) (w : World) : Prop :=
  AL (.cells #[.int .i64 0, .int .i64 0, .int .i64 0] E.t_api_Sum) w fun b1 w2 =>
  F.mallowref7_right E a0 a1 (fun r3 w4 =>
  CND (!r3) (
    stCells (Addr.mk b1 0 none) 0 [.int .i64 0, .int .i64 0, .int .i64 0] w4 fun w5 =>
    ∃ c6 : Int, w5.cell? ((Addr.mk b1 0 none).add 0) = some (.int .i64 c6) ∧
    ∃ c7 : Int, w5.cell? ((Addr.mk b1 0 none).add 1) = some (.int .i64 c7) ∧
    ∃ c8 : Int, w5.cell? ((Addr.mk b1 0 none).add 2) = some (.int .i64 c8) ∧
    K c6 c7 c8 1 w5
  ) (
    AL (.cells #[.int .i64 0, .int .i64 0, .int .i64 0] E.t_api_Sum) w4 fun b9 w10 =>
    LOOP (Int × Bool × Int × Unit) (0, true, 0, ()) w10 fun s11 _ w12 next13 =>
      CND (decide ((s11.2.2.1 : Int) < ((a0.len : Nat) : Int))) (
        JOIN (Unit) (fun J14 =>
          CND (s11.2.1) (
            ∃ x17 : Int, w12.drew.cell? (Addr.mk b9 0 none) = some (.int .i64 x17) ∧
            NC a0.base fun p18 =>
            ((0 : Int) ≤ s11.2.2.1 ∧ (s11.2.2.1 : Int) < (a0.len : Nat)) ∧
            ∃ x19 : Int, w12.drew.cell? (p18.add (Int.toNat s11.2.2.1 * 3)) = some (.int .i64 x19) ∧
            stCells (Addr.mk b9 0 none) 0 [.int .i64 (i64 (x17 + x19))] w12.drew fun w20 =>
            J14 (()) w20
          ) (
            J14 (()) w12
          )
        ) fun s15 _ w16 =>
          JOIN (Unit) (fun J21 =>
            NC a0.base fun p24 =>
            ((0 : Int) ≤ s11.2.2.1 ∧ (s11.2.2.1 : Int) < (a0.len : Nat)) ∧
            ∃ x25 : Int, w16.drew.cell? (p24.add (Int.toNat s11.2.2.1 * 3)) = some (.int .i64 x25) ∧
            ∃ x26 : Int, w16.drew.cell? ((Addr.mk b9 0 none).add 1) = some (.int .i64 x26) ∧
            CND (decide (((i64 (s11.1 + x25)) : Int) > x26)) (
              NC a0.base fun p27 =>
              ((0 : Int) ≤ s11.2.2.1 ∧ (s11.2.2.1 : Int) < (a0.len : Nat)) ∧
              ∃ x28 : Int, w16.drew.cell? (p27.add (Int.toNat s11.2.2.1 * 3)) = some (.int .i64 x28) ∧
              stCells ((Addr.mk b9 0 none).add 1) 0 [.int .i64 (i64 (s11.1 + x28))] w16.drew fun w29 =>
              J21 (()) w29
            ) (
              J21 (()) w16.drew
            )
          ) fun s22 _ w23 =>
            JOIN (Unit) (fun J30 =>
              NC a0.base fun p33 =>
              ((0 : Int) ≤ s11.2.2.1 ∧ (s11.2.2.1 : Int) < (a0.len : Nat)) ∧
              ∃ x34 : Int, w23.drew.cell? ((p33.add (Int.toNat s11.2.2.1 * 3)).add 1) = some (.int .i64 x34) ∧
              ∃ x35 : Int, w23.drew.cell? ((Addr.mk b9 0 none).add 1) = some (.int .i64 x35) ∧
              CND (decide ((x34 : Int) > x35)) (
                NC a0.base fun p36 =>
                ((0 : Int) ≤ s11.2.2.1 ∧ (s11.2.2.1 : Int) < (a0.len : Nat)) ∧
                ∃ x37 : Int, w23.drew.cell? ((p36.add (Int.toNat s11.2.2.1 * 3)).add 1) = some (.int .i64 x37) ∧
                stCells ((Addr.mk b9 0 none).add 1) 0 [.int .i64 x37] w23.drew fun w38 =>
                J30 (()) w38
              ) (
                J30 (()) w23.drew
              )
            ) fun s31 _ w32 =>
              JOIN (Int × Bool × Unit) (fun J39 =>
                NC a0.base fun p42 =>
                ((0 : Int) ≤ s11.2.2.1 ∧ (s11.2.2.1 : Int) < (a0.len : Nat)) ∧
                ∃ x43 : Int, w32.cell? (p42.add (Int.toNat s11.2.2.1 * 3)) = some (.int .i64 x43) ∧
                CND (decide ((x43 : Int) < a1)) (
                  J39 (0, false, ()) w32
                ) (
                  J39 (s11.1, s11.2.1, ()) w32
                )
              ) fun s40 _ w41 =>
                NC a0.base fun p44 =>
                ((0 : Int) ≤ s11.2.2.1 ∧ (s11.2.2.1 : Int) < (a0.len : Nat)) ∧
                ∃ x45 : Int, w41.cell? ((p44.add (Int.toNat s11.2.2.1 * 3)).add 2) = some (.int .i64 x45) ∧
                next13 (i64 (s40.1 + x45), s40.2.1, i64 (s11.2.2.1 + 1), ()) w41
      ) (
        stCells ((Addr.mk b9 0 none).add 2) 0 [.int .i64 s11.1] w12 fun w46 =>
        ∃ c47 : Int, w46.cell? ((Addr.mk b9 0 none).add 0) = some (.int .i64 c47) ∧
        ∃ c48 : Int, w46.cell? ((Addr.mk b9 0 none).add 1) = some (.int .i64 c48) ∧
        ∃ c49 : Int, w46.cell? ((Addr.mk b9 0 none).add 2) = some (.int .i64 c49) ∧
        stCells (Addr.mk b1 0 none) 0 [.int .i64 c47, .int .i64 c48, .int .i64 c49] w46 fun w50 =>
        ∃ c51 : Int, w50.cell? ((Addr.mk b1 0 none).add 0) = some (.int .i64 c51) ∧
        ∃ c52 : Int, w50.cell? ((Addr.mk b1 0 none).add 1) = some (.int .i64 c52) ∧
        ∃ c53 : Int, w50.cell? ((Addr.mk b1 0 none).add 2) = some (.int .i64 c53) ∧
        K c51 c52 c53 0 w50
      )
  )
  ) w2

def F.mallowref9_Tree_Sum (E : Env) : Nat → (Option Addr) → Int → Int → (Int → Int → Int → Int → World → Prop) → World → Prop
  | 0, _, _, _, _, _ => False
  | n0 + 1, a0, a1, a2, K, w =>
  AL (.cells #[.int .i64 0, .int .i64 0, .int .i64 0] E.t_api_Sum) w fun b1 w2 =>
  JOIN (Bool × Unit) (fun J3 =>
    CND (decide ((a1 : Int) < 0)) (
      J3 (true, ()) w2
    ) (
      J3 (decide ((a1 : Int) > 3), ()) w2
    )
  ) fun s4 _ w5 =>
    CND (s4.1) (
      stCells (Addr.mk b1 0 none) 0 [.int .i64 0, .int .i64 0, .int .i64 0] w5 fun w6 =>
      ∃ c7 : Int, w6.cell? ((Addr.mk b1 0 none).add 0) = some (.int .i64 c7) ∧
      ∃ c8 : Int, w6.cell? ((Addr.mk b1 0 none).add 1) = some (.int .i64 c8) ∧
      ∃ c9 : Int, w6.cell? ((Addr.mk b1 0 none).add 2) = some (.int .i64 c9) ∧
      K c7 c8 c9 1 w6
    ) (
      LOOP (Int × Int × Int × Unit) (1, 512, 3, ()) w5 fun s10 _ w11 next12 =>
        CND (decide ((s10.2.2.1 : Int) > a1)) (
          next12 (u64 (8 * s10.1), i64 (8 * s10.2.1), i64 (s10.2.2.1 - 1), ()) w11
        ) (
          s10.1 ≠ (0 : Int) ∧
          CND (decide ((a2 : Int) ≥ (u64 (Int.tdiv 67108864 s10.1)))) (
            stCells (Addr.mk b1 0 none) 0 [.int .i64 0, .int .i64 0, .int .i64 0] w11 fun w13 =>
            ∃ c14 : Int, w13.cell? ((Addr.mk b1 0 none).add 0) = some (.int .i64 c14) ∧
            ∃ c15 : Int, w13.cell? ((Addr.mk b1 0 none).add 1) = some (.int .i64 c15) ∧
            ∃ c16 : Int, w13.cell? ((Addr.mk b1 0 none).add 2) = some (.int .i64 c16) ∧
            K c14 c15 c16 1 w13
          ) (
            CND ((a1 : Int) == 3) (
              F.mallowref9_Tree_find E a0 a2 (fun r17 r18 w19 =>
              CND (!r18) (
                stCells (Addr.mk b1 0 none) 0 [.int .i64 0, .int .i64 0, .int .i64 0] w19 fun w20 =>
                ∃ c21 : Int, w20.cell? ((Addr.mk b1 0 none).add 0) = some (.int .i64 c21) ∧
                ∃ c22 : Int, w20.cell? ((Addr.mk b1 0 none).add 1) = some (.int .i64 c22) ∧
                ∃ c23 : Int, w20.cell? ((Addr.mk b1 0 none).add 2) = some (.int .i64 c23) ∧
                K c21 c22 c23 0 w20
              ) (
                NC a0 fun p24 =>
                ∃ x25 : SlV, w19.cell? p24 = some (.slice x25.base x25.len x25.cap) ∧
                NC x25.base fun p26 =>
                ((0 : Int) ≤ r17 ∧ (r17 : Int) < (x25.len : Nat)) ∧
                ∃ x27 : (Option Addr), w19.cell? ((p26.add (Int.toNat r17 * 2)).add 1) = some (.pointer x27) ∧
                NC x27 fun p28 =>
                F.mallowref6_Row_Sum E (some p28) (fun r29 r30 r31 w32 =>
                stCells (Addr.mk b1 0 none) 0 [.int .i64 r29, .int .i64 r30, .int .i64 r31] w32 fun w33 =>
                ∃ c34 : Int, w33.cell? ((Addr.mk b1 0 none).add 0) = some (.int .i64 c34) ∧
                ∃ c35 : Int, w33.cell? ((Addr.mk b1 0 none).add 1) = some (.int .i64 c35) ∧
                ∃ c36 : Int, w33.cell? ((Addr.mk b1 0 none).add 2) = some (.int .i64 c36) ∧
                K c34 c35 c36 0 w33
                ) w19
              )
              ) w11
            ) (
              LOOP (SlV × Int × Unit) (⟨none, 0, 0⟩, 0, ()) w11 fun s37 _ w38 next39 =>
                CND (decide ((s37.2.1 : Int) < 8)) (
                  F.mallowref9_Tree_Sum E n0 a0 (i64 (a1 + 1)) (u64 ((u64 (8 * a2)) + s37.2.1)) (fun r40 r41 r42 r43 w44 =>
                  AL (.cells #[.int .i64 0, .int .i64 0, .int .i64 0] E.t_api_Sum) w44 fun b45 w46 =>
                  stCells (Addr.mk b45 0 none) 0 [.int .i64 r40, .int .i64 r41, .int .i64 r42] w46 fun w47 =>
                  ∃ c48 : Int, w47.cell? ((Addr.mk b45 0 none).add 0) = some (.int .i64 c48) ∧
                  ∃ c49 : Int, w47.cell? ((Addr.mk b45 0 none).add 1) = some (.int .i64 c49) ∧
                  ∃ c50 : Int, w47.cell? ((Addr.mk b45 0 none).add 2) = some (.int .i64 c50) ∧
                  AL (.cells ⟨[.int .i64 c48, .int .i64 c49, .int .i64 c50]⟩ E.t_api_Sum) w47 fun b51 w52 =>
                  APP E.t_api_Sum 3 24 #[.int .i64 0, .int .i64 0, .int .i64 0] s37.1 ⟨(some (Addr.mk b51 0 none)), 1, 1⟩ w52 fun s53 w54 =>
                  next39 (s53, u64 (s37.2.1 + 1), ()) w54
                  ) w38
                ) (
                  8 ≠ (0 : Int) ∧
                  F.mallowref7_Merge E s37.1 (i64 (Int.tdiv s10.2.1 8)) (fun r55 r56 r57 r58 w59 =>
                  stCells (Addr.mk b1 0 none) 0 [.int .i64 r55, .int .i64 r56, .int .i64 r57] w59 fun w60 =>
                  ∃ c61 : Int, w60.cell? ((Addr.mk b1 0 none).add 0) = some (.int .i64 c61) ∧
                  ∃ c62 : Int, w60.cell? ((Addr.mk b1 0 none).add 1) = some (.int .i64 c62) ∧
                  ∃ c63 : Int, w60.cell? ((Addr.mk b1 0 none).add 2) = some (.int .i64 c63) ∧
                  K c61 c62 c63 r58 w60
                  ) w38
                )
            )
          )
        )
    )

def F.stretch_Set_Has (E : Env) (a0 : (Option Addr)) (a1 : Int) (K : Bool → World → Prop) (w : World) : Prop :=
  F.stretch_Set_at E a0 a1 (fun r1 w2 =>
  NC a0 fun p3 =>
  ∃ x4 : SlV, w2.cell? p3 = some (.slice x4.base x4.len x4.cap) ∧
  CND (decide ((r1 : Int) < ((x4.len : Nat) : Int))) (
    NC a0 fun p5 =>
    ∃ x6 : SlV, w2.cell? p5 = some (.slice x6.base x6.len x6.cap) ∧
    NC x6.base fun p7 =>
    ((0 : Int) ≤ r1 ∧ (r1 : Int) < (x6.len : Nat)) ∧
    ∃ x8 : Int, w2.cell? (p7.add (Int.toNat r1 * 2)) = some (.int .u64 x8) ∧
    K (decide ((x8 : Int) ≤ a1)) w2
  ) (
    K false w2
  )
  ) w

def F.radix_Tree_State (E : Env) (a0 : (Option Addr)) (a1 : Int) (K : Bool → Bool → Bool → World → Prop) (w : World) : Prop :=
  NC a0 fun p1 =>
  NC a0 fun p2 =>
  NC a0 fun p3 =>
  F.stretch_Set_Has E (some p1) a1 (fun r4 w5 =>
  F.stretch_Set_Has E (some (p2.add 2)) a1 (fun r6 w7 =>
  F.stretch_Set_Has E (some (p3.add 4)) a1 (fun r8 w9 =>
  K r4 r6 r8 w9
  ) w7
  ) w5
  ) w.drew

def F.mallowlaw9_page (E : Env) (a0 : (Option Addr)) (a1 : (Option Addr)) (a2 : Int) (K : Bool → World → Prop) (w : World) : Prop :=
  F.radix_Tree_State E a0 a2 (fun r1 r2 r3 w4 =>
  F.mallowref9_Tree_State E a1 a2 (fun r5 r6 r7 w8 =>
  CND (r1 == r5) (
    CND (r2 == r6) (
      K (r3 == r7) w8
    ) (
      K false w8
    )
  ) (
    K false w8
  )
  ) w4
  ) w

def F.mallowlaw9_act (E : Env) (a0 : (Option Addr)) (a1 : (Option Addr)) (a2_0 : Int) (a2_1 : Int) (a2_2 : Int) (K : Bool → World → Prop) (w : World) : Prop :=
  AL (.cells #[.int .i64 a2_0, .int .u64 a2_1, .int .u64 a2_2] E.t_mallowlaw9_Act) w fun b1 w2 =>
  ∃ x3 : Int, w2.cell? (Addr.mk b1 0 none) = some (.int .i64 x3) ∧
  CND ((x3 : Int) == 1) (
    ∃ x4 : Int, w2.drew.cell? ((Addr.mk b1 0 none).add 1) = some (.int .u64 x4) ∧
    ∃ x5 : Int, w2.drew.cell? ((Addr.mk b1 0 none).add 2) = some (.int .u64 x5) ∧
    ∃ x6 : Int, w2.drew.cell? ((Addr.mk b1 0 none).add 1) = some (.int .u64 x6) ∧
    ∃ x7 : Int, w2.drew.cell? ((Addr.mk b1 0 none).add 2) = some (.int .u64 x7) ∧
    F.radix_Tree_Grow E a0 x4 x5 (fun r8 w9 =>
    w9.cell? ((Addr.mk b1 0 none).add 2) = some (.int .u64 x7) ∧
    w9.cell? ((Addr.mk b1 0 none).add 1) = some (.int .u64 x6) ∧
    F.mallowref9_Tree_Grow E a1 x6 x7 (fun r10 w11 =>
    K ((r8 : Int) == r10) w11
    ) w9
    ) w2.drew
  ) (
    CND ((x3 : Int) == 2) (
      ∃ x12 : Int, w2.cell? ((Addr.mk b1 0 none).add 2) = some (.int .u64 x12) ∧
      F.radix_Tree_Alloc E a0 x12 (fun r13 r14 r15 w16 =>
      ∃ x17 : Int, w16.cell? ((Addr.mk b1 0 none).add 2) = some (.int .u64 x17) ∧
      F.mallowref9_Tree_Alloc E a1 x17 (fun r18 r19 r20 w21 =>
      CND ((r13 : Int) == r18) (
        CND ((r14 : Int) == r19) (
          K ((r15 : Int) == r20) w21
        ) (
          K false w21
        )
      ) (
        K false w21
      )
      ) w16
      ) w2
    ) (
      CND ((x3 : Int) == 3) (
        ∃ x22 : Int, w2.cell? ((Addr.mk b1 0 none).add 1) = some (.int .u64 x22) ∧
        ∃ x23 : Int, w2.cell? ((Addr.mk b1 0 none).add 2) = some (.int .u64 x23) ∧
        F.radix_Tree_Take E a0 x22 x23 (fun r24 r25 w26 =>
        ∃ x27 : Int, w26.cell? ((Addr.mk b1 0 none).add 1) = some (.int .u64 x27) ∧
        ∃ x28 : Int, w26.cell? ((Addr.mk b1 0 none).add 2) = some (.int .u64 x28) ∧
        F.mallowref9_Tree_Take E a1 x27 x28 (fun r29 r30 w31 =>
        CND ((r24 : Int) == r29) (
          K ((r25 : Int) == r30) w31
        ) (
          K false w31
        )
        ) w26
        ) w2
      ) (
        CND ((x3 : Int) == 4) (
          ∃ x32 : Int, w2.drew.cell? ((Addr.mk b1 0 none).add 1) = some (.int .u64 x32) ∧
          ∃ x33 : Int, w2.drew.cell? ((Addr.mk b1 0 none).add 2) = some (.int .u64 x33) ∧
          ∃ x34 : Int, w2.drew.cell? ((Addr.mk b1 0 none).add 1) = some (.int .u64 x34) ∧
          ∃ x35 : Int, w2.drew.cell? ((Addr.mk b1 0 none).add 2) = some (.int .u64 x35) ∧
          F.radix_Tree_Give E a0 x32 x33 (fun r36 w37 =>
          w37.cell? ((Addr.mk b1 0 none).add 2) = some (.int .u64 x35) ∧
          w37.cell? ((Addr.mk b1 0 none).add 1) = some (.int .u64 x34) ∧
          F.mallowref9_Tree_Give E a1 x34 x35 false (fun r38 w39 =>
          K ((r36 : Int) == r38) w39
          ) w37
          ) w2.drew
        ) (
          CND ((x3 : Int) == 5) (
            ∃ x40 : Int, w2.drew.cell? ((Addr.mk b1 0 none).add 1) = some (.int .u64 x40) ∧
            ∃ x41 : Int, w2.drew.cell? ((Addr.mk b1 0 none).add 2) = some (.int .u64 x41) ∧
            ∃ x42 : Int, w2.drew.cell? ((Addr.mk b1 0 none).add 1) = some (.int .u64 x42) ∧
            ∃ x43 : Int, w2.drew.cell? ((Addr.mk b1 0 none).add 2) = some (.int .u64 x43) ∧
            F.radix_Tree_Back E a0 x40 x41 (fun r44 w45 =>
            w45.cell? ((Addr.mk b1 0 none).add 2) = some (.int .u64 x43) ∧
            w45.cell? ((Addr.mk b1 0 none).add 1) = some (.int .u64 x42) ∧
            F.mallowref9_Tree_Give E a1 x42 x43 true (fun r46 w47 =>
            K ((r44 : Int) == r46) w47
            ) w45
            ) w2.drew
          ) (
            CND ((x3 : Int) == 6) (
              ∃ x48 : Int, w2.cell? ((Addr.mk b1 0 none).add 2) = some (.int .u64 x48) ∧
              F.radix_Tree_Find E a0 x48 (fun r49 r50 w51 =>
              ∃ x52 : Int, w51.cell? ((Addr.mk b1 0 none).add 2) = some (.int .u64 x52) ∧
              F.mallowref9_Tree_Find E a1 x52 (fun r53 r54 w55 =>
              CND ((r49 : Int) == r53) (
                K (r50 == r54) w55
              ) (
                K false w55
              )
              ) w51
              ) w2
            ) (
              CND ((x3 : Int) == 7) (
                ∃ x56 : Int, w2.cell? ((Addr.mk b1 0 none).add 2) = some (.int .u64 x56) ∧
                F.radix_Tree_Scavenge E a0 x56 (fun r57 r58 w59 =>
                ∃ x60 : Int, w59.cell? ((Addr.mk b1 0 none).add 2) = some (.int .u64 x60) ∧
                F.mallowref9_Tree_Scavenge E a1 x60 (fun r61 r62 w63 =>
                CND ((r57 : Int) == r61) (
                  K ((r58 : Int) == r62) w63
                ) (
                  K false w63
                )
                ) w59
                ) w2
              ) (
                CND ((x3 : Int) == 8) (
                  ∃ x64 : Int, w2.cell? ((Addr.mk b1 0 none).add 2) = some (.int .u64 x64) ∧
                  ∃ x65 : Int, w2.cell? ((Addr.mk b1 0 none).add 1) = some (.int .u64 x65) ∧
                  F.radix_Tree_Sum E a0 (i64 ((i64 (bitK .u64 0 x64 7)) - 1)) x65 (fun r66 r67 r68 r69 w70 =>
                  AL (.cells #[.int .i64 0, .int .i64 0, .int .i64 0] E.t_api_Sum) w70 fun b71 w72 =>
                  stCells (Addr.mk b71 0 none) 0 [.int .i64 r66, .int .i64 r67, .int .i64 r68] w72 fun w73 =>
                  ∃ x74 : Int, w73.cell? ((Addr.mk b1 0 none).add 2) = some (.int .u64 x74) ∧
                  ∃ x75 : Int, w73.cell? ((Addr.mk b1 0 none).add 1) = some (.int .u64 x75) ∧
                  ∃ n_, F.mallowref9_Tree_Sum E n_ a1 (i64 ((i64 (bitK .u64 0 x74 7)) - 1)) x75 (fun r76 r77 r78 r79 w80 =>
                  AL (.cells #[.int .i64 0, .int .i64 0, .int .i64 0] E.t_api_Sum) w80 fun b81 w82 =>
                  stCells (Addr.mk b81 0 none) 0 [.int .i64 r76, .int .i64 r77, .int .i64 r78] w82 fun w83 =>
                  ∃ c84 : Int, w83.cell? ((Addr.mk b71 0 none).add 0) = some (.int .i64 c84) ∧
                  ∃ c85 : Int, w83.cell? ((Addr.mk b71 0 none).add 1) = some (.int .i64 c85) ∧
                  ∃ c86 : Int, w83.cell? ((Addr.mk b71 0 none).add 2) = some (.int .i64 c86) ∧
                  ∃ c87 : Int, w83.cell? ((Addr.mk b81 0 none).add 0) = some (.int .i64 c87) ∧
                  ∃ c88 : Int, w83.cell? ((Addr.mk b81 0 none).add 1) = some (.int .i64 c88) ∧
                  ∃ c89 : Int, w83.cell? ((Addr.mk b81 0 none).add 2) = some (.int .i64 c89) ∧
                  CND ((((c84 : Int) == c87) && (((c85 : Int) == c88) && (((c86 : Int) == c89) && true)))) (
                    K ((r69 : Int) == r79) w83
                  ) (
                    K false w83
                  )
                  ) w73
                  ) w2
                ) (
                  CND ((x3 : Int) == 9) (
                    ∃ x90 : Int, w2.cell? ((Addr.mk b1 0 none).add 1) = some (.int .u64 x90) ∧
                    F.mallowlaw9_page E a0 a1 x90 (fun r91 w92 =>
                    K r91 w92
                    ) w2
                  ) (
                    K true w2
                  )
                )
              )
            )
          )
        )
      )
    )
  )

def F.mallowref6_Row_Count (E : Env) (a0 : (Option Addr)) (a1 : Int) (a2 : Int) (K : Int → World → Prop) (w : World) : Prop :=
  F.mallowref6_Right E a1 a2 (fun r1 w2 =>
  CND (!r1) (
    K 0 w2
  ) (
    LOOP (Int × Int × Unit) (0, a1, ()) w2 fun s3 _ w4 next5 =>
      CND (decide ((s3.2.1 : Int) < (i64 (a1 + a2)))) (
        NC a0 fun p6 =>
        ((0 : Int) ≤ s3.2.1 ∧ (s3.2.1 : Int) < (512 : Nat)) ∧
        ∃ x7 : Bool, w4.cell? (p6.add (Int.toNat s3.2.1 * 1)) = some (.bool x7) ∧
        CND (x7) (
          next5 (i64 (s3.1 + 1), i64 (s3.2.1 + 1), ()) w4
        ) (
          next5 (s3.1, i64 (s3.2.1 + 1), ()) w4
        )
      ) (
        K s3.1 w4
      )
  )
  ) w

def F.mallowref8_Chunk_Free (E : Env) (a0 : (Option Addr)) (K : Int → World → Prop) (w : World) : Prop :=
  NC a0 fun p1 =>
  F.mallowref6_Row_Count E (some p1) 0 512 (fun r2 w3 =>
  K (i64 (512 - r2)) w3
  ) w

def F.mallowref9_Tree_Free (E : Env) (a0 : (Option Addr)) (K : Int → World → Prop) (w : World) : Prop :=
  LOOP (Int × Int × Unit) (0, 0, ()) w fun s1 _ w2 next3 =>
    NC a0 fun p4 =>
    ∃ x5 : SlV, w2.cell? p4 = some (.slice x5.base x5.len x5.cap) ∧
    CND (decide ((s1.2.1 : Int) < ((x5.len : Nat) : Int))) (
      NC a0 fun p6 =>
      ∃ x7 : SlV, w2.cell? p6 = some (.slice x7.base x7.len x7.cap) ∧
      NC x7.base fun p8 =>
      ((0 : Int) ≤ s1.2.1 ∧ (s1.2.1 : Int) < (x7.len : Nat)) ∧
      ∃ x9 : (Option Addr), w2.cell? ((p8.add (Int.toNat s1.2.1 * 2)).add 1) = some (.pointer x9) ∧
      F.mallowref8_Chunk_Free E x9 (fun r10 w11 =>
      next3 (i64 (s1.1 + r10), i64 (s1.2.1 + 1), ()) w11
      ) w2
    ) (
      K (u64 (s1.1)) w2
    )

def F.radix_Tree_Released (E : Env) (a0 : (Option Addr)) (K : Int → World → Prop) (w : World) : Prop :=
  NC a0 fun p1 =>
  F.stretch_Set_Sum E (some (p1.add 4)) (fun r2 w3 =>
  K r2 w3
  ) w

def F.mallowref8_Chunk_Released (E : Env) (a0 : (Option Addr)) (K : Int → World → Prop) (w : World) : Prop :=
  NC a0 fun p1 =>
  F.mallowref6_Row_Count E (some (p1.add 512)) 0 512 (fun r2 w3 =>
  K r2 w3
  ) w

def F.mallowref9_Tree_Released (E : Env) (a0 : (Option Addr)) (K : Int → World → Prop) (w : World) : Prop :=
  LOOP (Int × Int × Unit) (0, 0, ()) w fun s1 _ w2 next3 =>
    NC a0 fun p4 =>
    ∃ x5 : SlV, w2.cell? p4 = some (.slice x5.base x5.len x5.cap) ∧
    CND (decide ((s1.2.1 : Int) < ((x5.len : Nat) : Int))) (
      NC a0 fun p6 =>
      ∃ x7 : SlV, w2.cell? p6 = some (.slice x7.base x7.len x7.cap) ∧
      NC x7.base fun p8 =>
      ((0 : Int) ≤ s1.2.1 ∧ (s1.2.1 : Int) < (x7.len : Nat)) ∧
      ∃ x9 : (Option Addr), w2.cell? ((p8.add (Int.toNat s1.2.1 * 2)).add 1) = some (.pointer x9) ∧
      F.mallowref8_Chunk_Released E x9 (fun r10 w11 =>
      next3 (i64 (s1.1 + r10), i64 (s1.2.1 + 1), ()) w11
      ) w2
    ) (
      K (u64 (s1.1)) w2
    )

def F.radix_Tree_Hint (E : Env) (a0 : (Option Addr)) (K : Int → World → Prop) (w : World) : Prop :=
  NC a0 fun p1 =>
  F.stretch_Set_All E (some (p1.add 2)) (fun r2 w3 =>
  CND (decide ((((r2.len : Nat) : Int) : Int) > 0)) (
    NC r2.base fun p4 =>
    ((0 : Int) ≤ 0 ∧ (0 : Int) < (r2.len : Nat)) ∧
    ∃ x5 : Int, w3.cell? (p4.add (Int.toNat 0 * 2)) = some (.int .u64 x5) ∧
    K x5 w3
  ) (
    K 0 w3
  )
  ) w

def F.mallowref9_Tree_First (E : Env) (a0 : (Option Addr)) (K : Int → Bool → World → Prop) (w : World) : Prop :=
  F.mallowref9_Tree_Find E a0 1 (fun r1 r2 w3 =>
  K r1 r2 w3
  ) w

def F.mallowlaw9_same (E : Env) (a0 : (Option Addr)) (a1 : (Option Addr)) (a2 : Int) (K : Bool → World → Prop) (w : World) : Prop :=
  JOIN (Bool × Unit) (fun J1 =>
    F.radix_Tree_Free E a0 (fun r4 w5 =>
    F.mallowref9_Tree_Free E a1 (fun r6 w7 =>
    CND ((r4 : Int) != r6) (
      J1 (true, ()) w7
    ) (
      F.radix_Tree_Released E a0 (fun r8 w9 =>
      F.mallowref9_Tree_Released E a1 (fun r10 w11 =>
      J1 ((r8 : Int) != r10, ()) w11
      ) w9
      ) w7
    )
    ) w5
    ) w
  ) fun s2 _ w3 =>
    CND (s2.1) (
      K false w3
    ) (
      F.radix_Tree_Hint E a0 (fun r12 w13 =>
      F.mallowref9_Tree_First E a1 (fun r14 r15 w16 =>
      JOIN (Bool × Unit) (fun J17 =>
        CND (r15) (
          J17 (decide ((r12 : Int) > r14), ()) w16
        ) (
          J17 (false, ()) w16
        )
      ) fun s18 _ w19 =>
        CND (s18.1) (
          K false w19
        ) (
          LOOP (Int × Unit) (0, ()) w19 fun s20 _ w21 next22 =>
            NC a1 fun p23 =>
            ∃ x24 : SlV, w21.cell? p23 = some (.slice x24.base x24.len x24.cap) ∧
            CND (decide ((s20.1 : Int) < ((x24.len : Nat) : Int))) (
              LOOP (Int × Unit) (0, ()) w21 fun s25 _ w26 next27 =>
                CND (decide ((s25.1 : Int) < 512)) (
                  NC a1 fun p28 =>
                  ∃ x29 : SlV, w26.cell? p28 = some (.slice x29.base x29.len x29.cap) ∧
                  NC x29.base fun p30 =>
                  ((0 : Int) ≤ s20.1 ∧ (s20.1 : Int) < (x29.len : Nat)) ∧
                  ∃ x31 : Int, w26.cell? (p30.add (Int.toNat s20.1 * 2)) = some (.int .u64 x31) ∧
                  F.mallowlaw9_page E a0 a1 (u64 ((u64 (x31 * 512)) + (u64 (s25.1)))) (fun r32 w33 =>
                  CND (!r32) (
                    K false w33
                  ) (
                    next27 (i64 (s25.1 + a2), ()) w33
                  )
                  ) w26
                ) (
                  LOOP (Int × Unit) (0, ()) w26 fun s34 _ w35 next36 =>
                    CND (decide ((s34.1 : Int) < 4)) (
                      NC a1 fun p37 =>
                      ∃ x38 : SlV, w35.cell? p37 = some (.slice x38.base x38.len x38.cap) ∧
                      NC x38.base fun p39 =>
                      ((0 : Int) ≤ s20.1 ∧ (s20.1 : Int) < (x38.len : Nat)) ∧
                      ∃ x40 : Int, w35.cell? (p39.add (Int.toNat s20.1 * 2)) = some (.int .u64 x40) ∧
                      (0 : Int) ≤ (i64 (3 * (i64 (3 - s34.1)))) ∧
                      LET (Int.fdiv x40 (2 ^ (min (Int.toNat (i64 (3 * (i64 (3 - s34.1))))) (IntKind.bits .u64))) : Int) fun n_41 =>
                      F.radix_Tree_Sum E a0 s34.1 n_41 (fun r42 r43 r44 r45 w46 =>
                      AL (.cells #[.int .i64 0, .int .i64 0, .int .i64 0] E.t_api_Sum) w46 fun b47 w48 =>
                      stCells (Addr.mk b47 0 none) 0 [.int .i64 r42, .int .i64 r43, .int .i64 r44] w48 fun w49 =>
                      ∃ n_, F.mallowref9_Tree_Sum E n_ a1 s34.1 n_41 (fun r50 r51 r52 r53 w54 =>
                      AL (.cells #[.int .i64 0, .int .i64 0, .int .i64 0] E.t_api_Sum) w54 fun b55 w56 =>
                      stCells (Addr.mk b55 0 none) 0 [.int .i64 r50, .int .i64 r51, .int .i64 r52] w56 fun w57 =>
                      JOIN (Bool × Unit) (fun J58 =>
                        ∃ c61 : Int, w57.cell? ((Addr.mk b47 0 none).add 0) = some (.int .i64 c61) ∧
                        ∃ c62 : Int, w57.cell? ((Addr.mk b47 0 none).add 1) = some (.int .i64 c62) ∧
                        ∃ c63 : Int, w57.cell? ((Addr.mk b47 0 none).add 2) = some (.int .i64 c63) ∧
                        ∃ c64 : Int, w57.cell? ((Addr.mk b55 0 none).add 0) = some (.int .i64 c64) ∧
                        ∃ c65 : Int, w57.cell? ((Addr.mk b55 0 none).add 1) = some (.int .i64 c65) ∧
                        ∃ c66 : Int, w57.cell? ((Addr.mk b55 0 none).add 2) = some (.int .i64 c66) ∧
                        CND (!(((c61 : Int) == c64) && (((c62 : Int) == c65) && (((c63 : Int) == c66) && true)))) (
                          J58 (true, ()) w57
                        ) (
                          J58 ((r45 : Int) != r53, ()) w57
                        )
                      ) fun s59 _ w60 =>
                        CND (s59.1) (
                          K false w60
                        ) (
                          next36 (i64 (s34.1 + 1), ()) w60
                        )
                      ) w49
                      ) w35
                    ) (
                      next22 (i64 (s20.1 + 1), ()) w35
                    )
                )
            ) (
              K true w21
            )
        )
      ) w13
      ) w3
    )

def F.mallowlaw9_RadixPlays (E : Env) (a0 : SlV) (K : Bool → World → Prop) (w : World) : Prop :=
  F.mallowlaw9_heavy E a0 (fun r1 w2 =>
  CND (r1) (
    K true w2
  ) (
    F.radix_New E  (fun r3 w4 =>
    AL (.cells #[.slice none 0 0] E.t_mallowref9_Tree) w4 fun b5 w6 =>
    CND (r3.isNone) (
      K false w6
    ) (
      LOOP (Int × Unit) (0, ()) w6 fun s7 _ w8 next9 =>
        CND (decide ((s7.1 : Int) < ((a0.len : Nat) : Int))) (
          JOIN (Bool × Unit) (fun J10 =>
            NC a0.base fun p13 =>
            ((0 : Int) ≤ s7.1 ∧ (s7.1 : Int) < (a0.len : Nat)) ∧
            ∃ c14 : Int, w8.cell? ((p13.add (Int.toNat s7.1 * 3)).add 0) = some (.int .i64 c14) ∧
            ∃ c15 : Int, w8.cell? ((p13.add (Int.toNat s7.1 * 3)).add 1) = some (.int .u64 c15) ∧
            ∃ c16 : Int, w8.cell? ((p13.add (Int.toNat s7.1 * 3)).add 2) = some (.int .u64 c16) ∧
            F.mallowlaw9_act E r3 (some (Addr.mk b5 0 none)) c14 c15 c16 (fun r17 w18 =>
            CND (!r17) (
              J10 (true, ()) w18
            ) (
              16 ≠ (0 : Int) ∧
              CND (((Int.tmod s7.1 16) : Int) == 15) (
                F.mallowlaw9_same E r3 (some (Addr.mk b5 0 none)) 37 (fun r19 w20 =>
                J10 (!r19, ()) w20
                ) w18
              ) (
                J10 (false, ()) w18
              )
            )
            ) w8
          ) fun s11 _ w12 =>
            CND (s11.1) (
              K false w12
            ) (
              next9 (i64 (s7.1 + 1), ()) w12
            )
        ) (
          F.mallowlaw9_same E r3 (some (Addr.mk b5 0 none)) 1 (fun r21 w22 =>
          CND (r21) (
            F.mallowlaw9_awake E  (fun r23 w24 =>
            K r23 w24
            ) w22
          ) (
            K false w22
          )
          ) w8
        )
    )
    ) w2
  )
  ) w

def F.mallowlaw9_RadixApart (E : Env) (a0 : SlV) (a1 : SlV) (K : Bool → World → Prop) (w : World) : Prop :=
  F.mallowlaw9_heavy E a0 (fun r1 w2 =>
  CND (r1) (
    K true w2
  ) (
    F.radix_New E  (fun r3 w4 =>
    F.radix_New E  (fun r5 w6 =>
    AL (.cells #[.slice none 0 0] E.t_mallowref9_Tree) w6 fun b7 w8 =>
    AL (.cells #[.slice none 0 0] E.t_mallowref9_Tree) w8 fun b9 w10 =>
    JOIN (Bool × Unit) (fun J11 =>
      CND (r3.isNone) (
        J11 (true, ()) w10
      ) (
        J11 (r5.isNone, ()) w10
      )
    ) fun s12 _ w13 =>
      CND (s12.1) (
        K false w13
      ) (
        LOOP (Int × Unit) (0, ()) w13 fun s14 _ w15 next16 =>
          CND (decide ((s14.1 : Int) < ((a0.len : Nat) : Int))) (
            JOIN (Bool × Unit) (fun J17 =>
              CND (decide ((s14.1 : Int) < ((a1.len : Nat) : Int))) (
                NC a1.base fun p20 =>
                ((0 : Int) ≤ s14.1 ∧ (s14.1 : Int) < (a1.len : Nat)) ∧
                ∃ x21 : Bool, w15.cell? (p20.add (Int.toNat s14.1 * 1)) = some (.bool x21) ∧
                J17 (x21, ()) w15
              ) (
                J17 (false, ()) w15
              )
            ) fun s18 _ w19 =>
              CND (s18.1) (
                NC a0.base fun p22 =>
                ((0 : Int) ≤ s14.1 ∧ (s14.1 : Int) < (a0.len : Nat)) ∧
                ∃ c23 : Int, w19.cell? ((p22.add (Int.toNat s14.1 * 3)).add 0) = some (.int .i64 c23) ∧
                ∃ c24 : Int, w19.cell? ((p22.add (Int.toNat s14.1 * 3)).add 1) = some (.int .u64 c24) ∧
                ∃ c25 : Int, w19.cell? ((p22.add (Int.toNat s14.1 * 3)).add 2) = some (.int .u64 c25) ∧
                F.mallowlaw9_act E r5 (some (Addr.mk b9 0 none)) c23 c24 c25 (fun r26 w27 =>
                CND (!r26) (
                  K false w27
                ) (
                  next16 (i64 (s14.1 + 1), ()) w27
                )
                ) w19
              ) (
                NC a0.base fun p28 =>
                ((0 : Int) ≤ s14.1 ∧ (s14.1 : Int) < (a0.len : Nat)) ∧
                ∃ c29 : Int, w19.cell? ((p28.add (Int.toNat s14.1 * 3)).add 0) = some (.int .i64 c29) ∧
                ∃ c30 : Int, w19.cell? ((p28.add (Int.toNat s14.1 * 3)).add 1) = some (.int .u64 c30) ∧
                ∃ c31 : Int, w19.cell? ((p28.add (Int.toNat s14.1 * 3)).add 2) = some (.int .u64 c31) ∧
                F.mallowlaw9_act E r3 (some (Addr.mk b7 0 none)) c29 c30 c31 (fun r32 w33 =>
                CND (!r32) (
                  K false w33
                ) (
                  next16 (i64 (s14.1 + 1), ()) w33
                )
                ) w19
              )
          ) (
            F.mallowlaw9_same E r3 (some (Addr.mk b7 0 none)) 11 (fun r34 w35 =>
            CND (r34) (
              F.mallowlaw9_same E r5 (some (Addr.mk b9 0 none)) 11 (fun r36 w37 =>
              CND (r36) (
                F.mallowlaw9_awake E  (fun r38 w39 =>
                K r38 w39
                ) w37
              ) (
                K false w37
              )
              ) w35
            ) (
              K false w35
            )
            ) w15
          )
      )
    ) w4
    ) w2
  )
  ) w

def F.stretch_Set_at_1 (E : Env) (a0 : Int) (a1 : (Option Addr)) (a2 : (Option Addr)) (K : Bool → World → Prop) (w : World) : Prop :=
  NC a1 fun p1 =>
  ∃ x2 : (Option Addr), w.drew.cell? p1 = some (.pointer x2) ∧
  NC x2 fun p3 =>
  ∃ x4 : SlV, w.drew.cell? p3 = some (.slice x4.base x4.len x4.cap) ∧
  NC x4.base fun p5 =>
  ((0 : Int) ≤ a0 ∧ (a0 : Int) < (x4.len : Nat)) ∧
  ∃ x6 : Int, w.drew.cell? ((p5.add (Int.toNat a0 * 2)).add 1) = some (.int .u64 x6) ∧
  NC a2 fun p7 =>
  ∃ x8 : Int, w.drew.cell? p7 = some (.int .u64 x8) ∧
  K (decide ((x6 : Int) > x8)) w.drew

end Go.Sh
